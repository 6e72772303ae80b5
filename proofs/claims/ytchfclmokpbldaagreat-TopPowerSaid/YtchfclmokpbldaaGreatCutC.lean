/-
  Merged texts. By an AI agent.
-/
import Derived.Test.YtchfclmokpbldaaGreatRestP
import Derived.Test.YtchfclmokpbldaaGreatRuleD
import Derived.Test.YtchfclmokpbldaaGreatSiteD
set_option linter.all false
set_option maxHeartbeats 4000000
set_option maxRecDepth 20000
namespace Go.Proofs.YtchfclmokpbldaaGreat
open Go.Aw Go
section
attribute [local irreducible] CJ LJ DJ Tri YV Gives U0 J3 Kj Uz RV J5 OwL.L
section
variable {A B:Prop}
def Y9e(h:B:=by exact ⟨.nil,.nil,by rw [he];rfl,⟨OwL.nil_ok,OwL.nil_ok⟩,by rw [valuesV,if_pos za],by rw [valuesW,if_pos za],by rw [Ki,Ki];rfl,rfl⟩):=h
def V9e(h:A→B:=by exact Jx zLc rfl):=h
def Z2f(h:A→B:=by exact Jx zob rfl):=h
def Y8f(h:A→B:=by exact Ko rfl (Kn (f:=XWatch.cells) (xs:=w) tb rfl rfl rfl ze rfl rfl (hw) yf za) rfl rfl):=h
def Yyf(h:A→B:=by exact Vpb 5 hT8 yd zc rfl rfl rfl rfl rfl (Uc zhb)):=h
def Jug(h:A→B:=by exact Vpb 6 hT8 yd zc rfl rfl rfl rfl rfl (Uc zhb)):=h
def Jhg(h:A→B:=by exact Ku zkb rfl rfl rfl rfl):=h
end
def Utf {fl:List XSpan} {f:XFace}:Kqg fl [f]=[J4b fl f]:=rfl
abbrev J9f (s:XSite) (w:List XWatch) (t:Int):Nat→Option Int:=fun i=>nzO (Jvc (s.conds.l.getD i default) (w.getD i default) t)
abbrev Krg (s:XSite) (m:List XMeas) (w:List XWatch) (fl:List XSpan) (t:Int):Nat→Int:=fun i=>Khb s.sensors.l m fl (s.conds.l.getD i default) (w.getD i default) t
abbrev Kmg (s:XSite) (m:List XMeas) (w:List XWatch) (t:Int):Nat→XWatch:=fun i=>Zx s.sensors.l m (s.conds.l.getD i default) (w.getD i default) t
structure ValsA (s:XSite) (m:Arr XMeas) (w:Arr XWatch) (fl:Arr XSpan) (R:LS):Prop where
 site:SiteR s R
 mR:InR (V5 m) R
 wR:InR (Jge w) R
 flR:InR (Jke fl) R
 ok:∀x∈m.l,Uca x
def Yqc {s:XSite} {m:List XMeas} {w:List XWatch} {fl:List XSpan} {t:Int} (h0:K6 s=0) (h1:m.length=s.sensors.l.length∧w.length=s.conds.l.length∧fl.length=s.air.mine.roads.l.length) (h2:¬ (t < 0∨2147483648 < t)):valuesErr s m w fl t=((List.range w.length).findSome? (J9f s w t)).getD 0:=by rw [valuesErr,if_neg za,if_neg (fun h=>h h1),if_neg h2]
def Yyd (s:XSite) (m:Arr XMeas) (w:Arr XWatch) (fl:Arr XSpan) (t:Int) (L:LB) (R:LS) (h:ValsA s m w fl R):
 Tri Tryz.prog 154 [s.val, m.val, w.val, fl.val, .int .i64 t].toArray L R
  (fun v M U=>∃(p:OwL Int) (q:OwL XWatch),v=.tuple #[p.val,q.val,.int .i64 (valuesErr s m.l w.l fl.l t)]∧(p.ok 1 Jo∧q.ok 3 XWatch.cells)∧p.l=valuesV s m.l w.l fl.l t∧q.l=valuesW s m.l w.l fl.l t∧p.L 3 Jo ++ (q.L 153 XWatch.cells ++ L)=M∧R=U):=by
 obtain ⟨hs,hm,hw,hfl,hok⟩:=h;have hsR:=hs.sensors;have hcR:=hs.conds;refine Jj 152 Tryz.call154 Tryz.func154 rfl rfl rfl ?_;apply (Xaf);intro b5;apply Xbs∘Xap∘Z2f;refine q_l rfl (Kja s _ _ hs) ?_;apply (Xba);refine q_c ?_ ?_<;>intro hc0;·
  apply Xbd∘Xbs∘Xai;refine q_r L R zSc ?_;have he:valuesErr s m.l w.l fl.l t=K6 s:=by rw [valuesErr,if_pos hc0]
  exact Y9e
 have hsk:=Zz (s:=s) za;have hsl:=hsk.len;have hrl:=(Zj hsk.air).mine.roads;apply qbo∘Xaq∘Xab∘Xbu;apply J9 (G:=[_,_,_,_,_,_]) (j:=6) (cj:=32) rfl rfl zb rfl zfb rfl;·intro hg7;replace hg7:=qb hg7;exact (Xaq∘Xab) zhd
 intro junk7;apply (qah);apply J9 (G:=[_,_,_,_,_,_,_,_]) (j:=14) (cj:=40) rfl rfl zb rfl zfb rfl;·
  intro hg15;replace hg15:=qb hg15;apply (Xaq);iterate 3 apply (qab)
  exact (Xcz) zhd
 intro junk15;apply (qaf);refine q_c ?_ ?_<;>intro hc1;·
  apply qae∘Xbs∘Xai;refine q_r L R zSc ?_;have he:valuesErr s m.l w.l fl.l t=11:=by rw [valuesErr,if_neg za,if_pos za]
  exact Y9e
 apply Xcq∘Xav;apply J9 (G:=[_,_]) (j:=2) (cj:=52) rfl rfl zb rfl zfb rfl;·exact zgd
 intro junk3;apply (qaf);refine q_c ?_ ?_<;>intro hc2;·
  apply qae∘Xbs∘Xai;refine q_r L R zSc ?_;have he:valuesErr s m.l w.l fl.l t=8:=by rw [valuesErr,if_neg za,if_neg za,if_pos za]
  exact Y9e
 have hve:=Yqc (s:=s) (m:=m.l) (w:=w.l) (fl:=fl.l) (t:=t) za za za;apply (qcl);refine Vlb [56,57,58,59,60,14,15] ((⟨fun g=>[(14,.slice (some ⟨g.1.1,0,none⟩) w.l.length w.l.length),(15,(⟨g.1.2,w.l⟩:OwL XWatch).val)],fun g=>(⟨.own g.1.1 w.l.length [],List.replicate w.l.length 0⟩:OwL Int).L 3 Jo ++ ((⟨g.1.2,w.l⟩:OwL XWatch).L 153 XWatch.cells ++ (⟨b5,s.cells,38⟩ :: L)),fun _=>R,fun _=>0⟩:Head {g:Nat×Ow // (⟨g.2,w.l⟩:OwL XWatch).ok 3 XWatch.cells})) ?_ ?_;·
  skip
  refine Uwc tb [] [0,1,3,2,4,5,6] [] (_) [] 7 K3 zc rfl rfl zi fun hT8=>?_;refine Vpb 0 hT8 yd zc rfl rfl rfl rfl rfl zMc ?_;refine Vpb 1 hT8 yd zc rfl rfl rfl rfl rfl zBb ?_;refine Vpb 3 hT8 yd zc rfl rfl rfl rfl rfl zMc ?_;refine Ji [2,4] hT8 yd zc ?_;refine Jn ?_ ?_;·
   skip
   refine Ko rfl zNb rfl rfl ?_;rintro v M U ⟨b58,rfl,rfl,hR58⟩;replace hR58:=hR58.symm;subst hR58;apply (qa1);refine Ji [4] hT8 yd zc ?_;apply qca∘Y8f;rintro v M U ⟨o60,rfl,hok60,rfl,rfl⟩;exact uaG
  apply qca∘Y8f;rintro v M U ⟨o60,rfl,hok60,rfl,rfl⟩;apply (qa1);refine Ji [2] hT8 yd zc ?_;apply (qca);refine Ko rfl zNb rfl rfl ?_;rintro v M U ⟨b58,rfl,rfl,hR58⟩;replace hR58:=hR58.symm;subst hR58;exact uaG
 rintro ⟨⟨b,o⟩,hok60⟩ junk;try dsimp only
 dsimp only at hok60;apply qbi∘Xaw;refine Jp [(1,.slice _ _ _),(2,.slice _ _ _),(3,.slice _ _ _),(4,.int _ _),(5,.pointer _),(14,.slice _ _ _),(15,.slice _ _ _),(62,.slice _ _ _),(63,.int _ _),(64,.int _ _)] zh fun tq0=>?_;refine q_p ([10,11,12,16,17,18,19,20]++rg 64 86) ((⟨fun g=>[(64,.int .i64 ((g.1.1:Nat):Int))],fun g=>(⟨.own b w.l.length [],g.1.2.1⟩:OwL Int).L 3 Jo ++ ((⟨o,g.1.2.2⟩:OwL XWatch).L 153 XWatch.cells ++ (⟨b5,s.cells,38⟩ :: L)),fun _=>R,fun g=>w.l.length - g.1.1⟩:Head {g:Nat×List Int×List XWatch // (g.1≤w.l.length∧(List.range w.l.length).findSome? (J9f s w.l t)=((List.range w.l.length).drop g.1).findSome? (J9f s w.l t))∧WrTo w.l.length 0 (Krg s m.l w.l fl.l t) g.1 g.2.1∧WrO w.l (Kmg s m.l w.l t) g.1 g.2.2})) (⟨(0,List.replicate w.l.length 0,w.l),⟨by dsimp only;omega,by rw [yAb]⟩,.zero,.zero⟩) ?_;rintro ⟨⟨k,vs,ws⟩,⟨hk,hp⟩,hV,hW⟩ junk;try dsimp only
 dsimp only at hk hp hV hW;have hvl:=hV.len;have hwl:=hW.len;have hvk:(⟨.own b w.l.length [],vs⟩:OwL Int).ok 1 Jo:=by have:=Yr (f:=Jo) (wd:=1) (b:=b) (n:=w.l.length) (x:=0) Yd zE;exact OwL.len_ok Yd this (by simp;exact hvl)
 have hwk:(⟨o,ws⟩:OwL XWatch).ok 3 XWatch.cells:=OwL.len_ok yf hok60 hwl;apply (Xak);refine q_c ?_ ?_<;>intro hc3;·
  have hcg:=Jw (l:=s.conds.l) (k:=k) default za;have hwg:=Jw (l:=w.l) (k:=k) default za;have hvg:=hV.non k (yl _) za;have hwg2:=hW.old k (yl _);rw [hwg] at hwg2;have hcf:=Knb (hsk.cond _ (yj hcg));have hVn:=fun (v:Int)=>hV.next (x:=v) za;have hWn:=fun (v:XWatch)=>hW.next (x:=v) za;have hpn:=Zk (f:=J9f s w.l t) hp za;have hps:=fun (e:Int) (he:J9f s w.l t k=some e)=>Yb (f:=J9f s w.l t) hp za he;obtain ⟨c,hc⟩:∃c,c=s.conds.l.getD k default:=⟨_,rfl⟩;obtain ⟨wk,hwe⟩:∃wk,wk=w.l.getD k default:=⟨_,rfl⟩;obtain ⟨X,hX⟩:∃X,X=J5a s.sensors.l m.l c.target t:=⟨_,rfl⟩;have hvE:J9f s w.l t k=nzO (Jvc c wk t):=by rw [hc,hwe]
  have hvV:Krg s m.l w.l fl.l t k=Khb s.sensors.l m.l fl.l c wk t:=by rw [hc,hwe]
  have hvW:Kmg s m.l w.l t k=Zx s.sensors.l m.l c wk t:=by rw [hc,hwe]
  rw [← hc] at hcg hcf;rw [← hwe] at hwg hwg2;rw [hvV] at hVn;rw [hvE] at hpn hps;rw [hvW] at hWn;rw [Khb,← hX] at hVn;rw [Jvc] at hpn hps;apply (Xa0);refine Jx zB rfl ?_;refine Jx zXa rfl ?_;apply (qaq);intro b17;apply qad∘Xay∘Z2f∘qbm∘Xam;refine q_l rfl (Zic s m c.target t _ _ hsR hm hok za) ?_;rw [← hX];apply (qaq);intro b18;apply (Xbx);refine J6 (Jc (Km (Jr (Jh ?_))));apply (Xa4);refine q_c ?_ ?_<;>intro hc4;·
   refine Jr ?_;refine Kp tb [0,1,2,3,4,5,6,7,8,9,10,11,12,13,14] ([Blk.mk b18 _ _,Blk.mk b17 _ _]) K3 zc zi ?_;apply (qal);refine K2 zkb rfl rfl rfl ?_;refine K2 zMc rfl rfl rfl ?_;apply qao∘qds∘qdv∘qbd∘qao;refine q_d rfl (Jof c.level wk X t _ _) ?_;refine K2 zCb rfl rfl rfl ?_;refine K2 zJb rfl rfl rfl ?_;refine K2 zJb rfl rfl rfl ?_;apply (qbr);intro b19;apply Xdi∘qc6∘qaa∘Xao;refine q_c ?_ ?_<;>intro hc5;·apply Xbd∘Xbs∘qad;refine J6 (Jc (U4 (Ke (J8 (J8 (Ke (Yg (J8 (Ke ?_)))))))));refine q_r L R zSc ?_;have hfe:=hps (Y2 c.level wk t) (by rw [if_pos hc4,K8c hc5]);(have he:valuesErr s m.l w.l fl.l t=Y2 c.level wk t:=by rw [hve,hfe];rfl);exact Y9e
   (have hse:Y2 c.level wk t=0:=by omega);rw [Vcd hse];refine Ka (Jc ?_);refine Kh tb [96,97] [0,1,2,3,4,5,6,7,8,9] [10,11,12] ([Blk.mk b19 _ _,Blk.mk b18 _ _,Blk.mk b17 _ _]) _ K3 zc zi (by (repeat (first | apply List.Sublist.cons (a:=Blk.mk b15 _ _) | apply List.Sublist.cons (a:=Blk.mk b14 _ _) | apply List.Sublist.cons_cons));exact yx _) ?_;apply (Xdd);refine V2 zMc rfl rfl rfl rfl ?_;refine V2 (Jt zgb) rfl rfl rfl rfl ?_;apply (Jhg);refine Ku (Jm (row:=[_,_,_,_,_,_]) tb rfl rfl rfl zf zb zb) rfl rfl rfl rfl ?_;apply (Jhg);refine Ku zIb rfl rfl rfl rfl ?_;refine Up rfl (Yoe c (Vk c.level wk X t) X _ _) rfl rfl ?_;rintro v M U ⟨rfl,rfl,rfl⟩;refine ⟨zi,zw,?_⟩;refine Ku (Jv tb ((⟨o,ws⟩:OwL XWatch)) _ rfl rfl ((show _=Value.slice _ _ _ from rfl).trans (by simp only [OwL.val,hwl])) rfl zg (i:=k) zk zu) rfl rfl rfl rfl ?_;apply (qba);refine Kvb (U2 tb ((⟨o,ws⟩:OwL XWatch)) (Vk c.level wk X t) rfl rfl rfl rfl zj zg yf zg (yQ rfl) zb zb) rfl rfl ?_;rintro v M U ⟨rfl,rfl⟩;apply (qa1);refine K2 zLc rfl rfl rfl ?_;refine Kvb (Js tb ((⟨.own b w.l.length [],vs⟩:OwL Int)) (if (Vk c.level wk X t).over=false then -1 else if Zp X c.level.cut=1 then 1 else 0) rfl rfl rfl rfl zj zg yf zg ze zb zb) rfl rfl ?_;rintro v M U ⟨rfl,rfl⟩;apply (qa1);refine Jz (Jk (Jk (Jc (Jh ?_))));apply (Xae);exact q_k ⟨(k + 1,vs.set k (if (Vk c.level wk X t).over=false then -1 else if Zp X c.level.cut=1 then 1 else 0),ws.set k (Vk c.level wk X t)),hpn (by rw [if_pos hc4,hse];rfl),hVn _ (by rw [if_neg (show ¬ c.kind=5 by omega),if_neg (show ¬ c.kind=2 by omega),if_neg (show ¬ c.kind=3 by omega),if_neg (show ¬ c.kind=4 by omega)]),hWn _ (by rw [Zx,if_pos hc4,hX])⟩
  have hst:Zx s.sensors.l m.l c wk t=wk:=by rw [Zx,if_neg hc4]
  have hWk:=hW.stay (show w.l[k]?=some (Kmg s m.l w.l t k) by rw [hvW,hwg,hst]);have hpk:=hpn (by rw [if_neg hc4];rfl);apply (Xbp);refine q_c ?_ ?_<;>intro hc6;·apply Xb3∘qbe∘Xaa;refine q_l rfl (Z0b X c.value _ _) ?_;(have hab:-1≤Zp X c.value∧Zp X c.value≤1:=by rw [Zp];(repeat' split) <;> omega);apply qcq∘V9e;refine Ym (Js tb ((⟨.own b w.l.length [],vs⟩:OwL Int)) (-(Zp X c.value)) rfl rfl rfl rfl zj zg yf zg ze zb zb) ?_;rintro v M U ⟨rfl,rfl⟩;refine J6 (Jk (Jk (Jc (Jh ?_))));apply (Xae);exact q_k ⟨(k + 1,vs.set k (-(Zp X c.value)),ws),hpk,hVn _ (by rw [if_neg za,if_pos hc6]),hWk⟩
  apply (Xbp);refine q_c ?_ ?_<;>intro hc7;·apply Xb3∘qbe;refine q_l rfl (Jtd X _ _) ?_;apply (V9e);refine Ym (Js tb ((⟨.own b w.l.length [],vs⟩:OwL Int)) (Uka X) rfl rfl rfl rfl zj zg yf zg ze zb zb) ?_;rintro v M U ⟨rfl,rfl⟩;refine J6 (Jk (Jk (Jc (Jh ?_))));apply (Xae);exact q_k ⟨(k + 1,vs.set k (Uka X),ws),hpk,hVn _ (by rw [if_neg za,if_neg za,if_pos hc7]),hWk⟩
  apply (Xbp);refine q_c ?_ ?_<;>intro hc8;·
   apply qae∘Xat∘V9e;refine Ym (Js tb ((⟨.own b w.l.length [],vs⟩:OwL Int)) (-1) rfl rfl rfl rfl zj zg yf zg ze zb zb) ?_;rintro v M U ⟨rfl,rfl⟩;apply (qa4);refine Kp tb [0,1,2] ([Blk.mk b18 _ _]) K3 zc zi ?_;apply (qbd);refine q_d rfl (Ub _ _) ?_;refine K2 (Y1b Jzf rfl rfl) rfl rfl rfl ?_;apply (qbu);refine q_c ?_ ?_<;>intro hc9;·have hvk2:=OwL.set_ok (p:=(⟨.own b w.l.length [],vs⟩:OwL Int)) (i:=k) (x:= -1) Yd hvk;have hvg2:(vs.set k (-1))[k]?=some (-1):=yH za;apply (Xb3);refine Jx (Jv tb ((⟨.own b w.l.length [],vs.set k (-1)⟩:OwL Int)) _ rfl rfl ((show _=Value.slice _ _ _ from rfl).trans (Uq (by rw [yy];exact hvl))) rfl zg (i:=k) zk zu) rfl ?_;refine Ym (Js tb ((⟨.own b w.l.length [],vs.set k (-1)⟩:OwL Int)) (1) rfl rfl rfl rfl zj zg yf zg ze zb zb) ?_;rintro v M U ⟨rfl,rfl⟩;refine J6 (Jk (Jk (Jc (Jh ?_))));apply (Xae);exact q_k ⟨(k + 1,(vs.set k (-1)).set k 1,ws),hpk,by dsimp only;rw [yIa];exact hVn _ (by rw [if_neg za,if_neg za,if_neg za,if_pos hc8,if_pos (Vcc.2 za)]),hWk⟩
   refine Ka (Jk (Jk (Jc (Jh ?_))));apply (Xae);exact q_k ⟨(k + 1,vs.set k (-1),ws),hpk,hVn _ (by rw [if_neg za,if_neg za,if_neg za,if_pos hc8,if_neg (fun e=>by rw [Vcc] at e;omega)]),hWk⟩
  apply (Xbp);refine q_c ?_ ?_<;>intro hc10;·apply Xb3∘qbm∘Xbq∘qcd;refine Jqa (J0 (qs:=[(0,(Value.agg _).cells.toList)]) (out:=[_,_]) tb rfl rfl rfl rfl rfl rfl rfl) rfl ?_;rintro v M U ⟨b143,rfl,rfl,hR143⟩;replace hR143:=hR143.symm;subst hR143;refine Uxa (wd:=2) (len:=1) (cap:=1) (rows:=[XFace.cells ⟨c.target,c.value⟩]) (subs:=[]) rfl ze ze (fun r hr=>by rw [List.mem_singleton.1 hr];rfl) ze rfl yg ?_;refine Jy rfl (Jgf fl ⟨some ⟨b143,0,none⟩,1,[⟨c.target,c.value⟩]⟩ _ _ (hfl.mono fun r h=>Ja (by simp [h])) zsb (fun f hf=>by rw [List.mem_singleton.1 hf];dsimp only;omega) (show 1≤1000 by decide) za) rfl ?_;rintro v M U ⟨p,rfl,hpk1,hpl,rfl,rfl⟩;rw [Utf] at hpl;(have hp0:p.l[0]?=some (J4b fl.l ⟨c.target,c.value⟩):=by rw [hpl];rfl);(have hpn1:p.l.length=1:=by rw [hpl];rfl);(have hfb:-1≤J4b fl.l ⟨c.target,c.value⟩∧J4b fl.l ⟨c.target,c.value⟩≤1:=by rw [J4b,V5e];(repeat' split) <;> omega);refine Jx (Jv tb (p) _ rfl rfl rfl rfl zg (i:=0) zk zu) rfl ?_;refine Jx zyb rfl ?_;apply qcq∘V9e;refine Ym (Js tb ((⟨.own b w.l.length [],vs⟩:OwL Int)) (-(J4b fl.l ⟨c.target,c.value⟩)) rfl rfl rfl rfl zj zg yf zg ze zb zb) ?_;rintro v M U ⟨rfl,rfl⟩;refine J6 (Jk (Jk (Jc (Jh ?_))));apply (Xae);exact Kr ⟨(k + 1,vs.set k (-(J4b fl.l ⟨c.target,c.value⟩)),ws),hpk,hVn _ (by rw [if_pos hc10]),hWk⟩ zm zh zi (fun r h=>Ja (by simp [h])) zx
  (exfalso;omega)
 obtain rfl:k=w.l.length:=by omega
 have hn:=J0a (f:=J9f s w.l t) hp (yl _);have he:valuesErr s m.l w.l fl.l t=0:=by rw [hve,hn];rfl
 apply Xcs∘qbm∘Xbs∘Xah;refine q_r ((⟨.own b w.l.length [],vs⟩:OwL Int).L 3 Jo ++ ((⟨o,ws⟩:OwL XWatch).L 153 XWatch.cells ++ L)) R zSc ?_;exact ⟨(⟨.own b w.l.length [],vs⟩:OwL Int),(⟨o,ws⟩:OwL XWatch),by rw [he,OwL.val,OwL.val,hvl,hwl];try rfl,⟨hvk,hwk⟩,by rw [valuesV,if_neg za];exact hV.done,by rw [valuesW,if_neg za];exact hW.done,rfl,rfl⟩
end
section
attribute [local irreducible] CJ LJ DJ Tri YV Gives U0 J3 Kj Uz RV J5 OwL.L
section
variable {A B:Prop}
def K9f(h:B:=by exact ⟨.nil,.nil,by rw [he];rfl,⟨OwL.nil_ok,OwL.nil_ok⟩,by rw [cutsC,if_pos za],by rw [cutsN,if_pos za],by rw [Ki,Ki];rfl,rfl⟩):=h
end
def Zpd {s:XSite} {v:List Int} {c:List XCut} {k:Nat}:K7a s v c (k + 1)=if Kia (s.zones.l.getD k default).rule.l v≠-1∧(c.getD k default).off=false then K7a s v c k ++ [(k:Int)] else K7a s v c k:=rfl
def Yfc {s : XSite} {v : List Int} {c : List XCut} : ∀ n, (K7a s v c n).length ≤ n
 | 0=>by simp [K7a]
 | n + 1=>by
  have:=Yfc (s:=s) (v:=v) (c:=c) n
  rw [K7a]
  split
  ·rw [yo,yU];omega
  ·omega
def Zme (s:XSite) (u:Arr Int) (c:Arr XCut) (t:Int) (L:LB) (R:LS) (hs:SiteR s R) (hv:InR (isl u) R) (hc:InR (Unc c) R):
 Tri Tryz.prog 155 [s.val, u.val, c.val, .int .i64 t].toArray L R
  (fun z M U=>∃(p:OwL XCut) (q:OwL Int),z=.tuple #[p.val,q.val,.int .i64 (cutsErr s u.l c.l t)]∧(p.ok 3 XCut.cells∧q.ok 1 Jo)∧p.l=cutsC s u.l c.l t∧q.l=cutsN s u.l c.l t∧q.L 3 Jo ++ (p.L 71 XCut.cells ++ L)=M∧R=U):=by
 have hzR:=hs.zones;refine Jj 93 Tryz.call155 Tryz.func155 rfl rfl rfl ?_;apply (Xaf);intro b4;apply Xbs∘Xap;refine Jx zob rfl ?_;refine q_l rfl (Kja s _ _ hs) ?_;apply (Xba);refine q_c ?_ ?_<;>intro hc0;·
  apply Xbd∘Xbs∘Xai;refine q_r L R zSc ?_;have he:cutsErr s u.l c.l t=K6 s:=by rw [cutsErr,if_pos hc0]
  exact K9f
 have hsk:=Zz (s:=s) za;have hsl:=hsk.len;apply qbo∘Xaq∘Xab∘Xbu;apply J9 (G:=[_,_,_,_,_,_]) (j:=6) (cj:=29) rfl rfl zb rfl zfb rfl;·intro hg7;replace hg7:=qb hg7;exact (Xaq∘Xab) zhd
 intro junk7;apply (qaf);refine q_c ?_ ?_<;>intro hc1;·
  apply qae∘Xbs∘Xai;refine q_r L R zSc ?_;have he:cutsErr s u.l c.l t=11:=by rw [cutsErr,if_neg za,if_pos za]
  exact K9f
 apply Xcq∘Xav;apply J9 (G:=[_,_]) (j:=2) (cj:=39) rfl rfl zb rfl zfb rfl;·exact zgd
 intro junk3;apply (qaf);refine q_c ?_ ?_<;>intro hc2;·
  apply qae∘Xbs∘Xai;refine q_r L R zSc ?_;have he:cutsErr s u.l c.l t=8:=by rw [cutsErr,if_neg za,if_neg za,if_pos za]
  exact K9f
 have he:cutsErr s u.l c.l t=0:=by rw [cutsErr,if_neg za,if_neg za,if_neg za]
 apply qbv∘qbm;refine Jqa (Kn (f:=XCut.cells) (xs:=c) tb rfl rfl rfl ze rfl rfl (hc) yf za) rfl ?_;rintro v M U ⟨o44,rfl,hok44,rfl,rfl⟩;apply (Xcx);obtain ⟨OO,hOO⟩:∃OO,OO=o44:=⟨_,rfl⟩;rw [← hOO] at hok44 ⊢;apply qay∘Xb0∘Xaw;refine Jp [(1,.slice _ _ _),(3,.int _ _),(12,.slice _ _ _),(13,.slice _ _ _),(46,.slice _ _ _),(47,.int _ _),(48,.int _ _)] zh fun tq0=>?_;refine Vx ([13,14,15,16,17]++rg 48 43) ((⟨fun g=>[(48,.int .i64 ((g.1.1:Nat):Int)),(13,g.1.2.2.val)],fun g=>g.1.2.2.L 3 Jo ++ ((⟨OO,g.1.2.1⟩:OwL XCut).L 71 XCut.cells ++ (⟨b4,s.cells,38⟩ :: L)),fun _=>R,fun g=>c.l.length - g.1.1⟩:Head {g:Nat×List XCut×OwL Int // g.1≤c.l.length∧WrO c.l (cutAt s u.l c.l t) g.1 g.2.1∧g.2.2.ok 1 Jo∧g.2.2.l=K7a s u.l c.l g.1})) (⟨(0,c.l,OwL.nil),by dsimp only;omega,.zero,OwL.nil_ok,rfl⟩) zh zla ztb ?_;rintro ⟨⟨k,cs,q⟩,hk,hW,hqk,hql⟩ junk;try dsimp only
 dsimp only at hk hW hqk hql;have hwl:=hW.len;have hck:(⟨OO,cs⟩:OwL XCut).ok 3 XCut.cells:=OwL.len_ok yf hok44 hwl;have hqn:q.l.length≤k:=by rw [hql];exact Yfc k
 apply (Xak);refine q_c ?_ ?_<;>intro hc3;·
  have hzg:=Jw (l:=s.zones.l) (k:=k) default za;have hcg0:=Jw (l:=c.l) (k:=k) default za;have hcg:=hW.old k (yl _);rw [hcg0] at hcg;have hWn:=fun (x:XCut)=>hW.next (x:=x) za;have hWs:=hW.stay (i:=k);have hns:=Zpd (s:=s) (v:=u.l) (c:=c.l) (k:=k);obtain ⟨z,hz⟩:∃z,z=s.zones.l.getD k default:=⟨_,rfl⟩;obtain ⟨ck,hcke⟩:∃ck,ck=c.l.getD k default:=⟨_,rfl⟩;obtain ⟨V,hV⟩:∃V,V=Kia z.rule.l u.l:=⟨_,rfl⟩;have hat:cutAt s u.l c.l t k=Ksb V ck t:=by rw [cutAt,hV,hz,hcke]
  rw [← hz] at hzg;rw [← hcke] at hcg hcg0;rw [← hz,← hcke,← hV] at hns;rw [hat] at hWn;rw [hat,hcg0] at hWs;apply (Xa0);refine Jx zB rfl ?_;apply (Xdb);intro b15;apply qad∘Xay∘Xat;refine Jx (Jv tb ((⟨OO,cs⟩:OwL XCut)) _ rfl rfl ((show _=Value.slice _ _ _ from rfl).trans (by simp only [OwL.val,hwl])) rfl zg (i:=k) zk zu) rfl ?_;apply qc1∘Xcj∘qbm;refine q_l rfl (Kgc z.rule u _ _ (InR.rule hzR hzg) hv) ?_;rw [← hV];apply Xb2∘Xcm;refine q_c ?_ ?_<;>intro hc4;·
   apply qbi∘qa6;refine Jx zLb rfl ?_;apply (qb0);refine Jx (Kc tb ((⟨OO,cs⟩:OwL XCut)) rfl rfl rfl zj zg yf zg zb) rfl ?_;apply (Xcm);refine q_c ?_ ?_<;>intro hc5;·apply qay∘Xc2;refine Jx zLb rfl ?_;apply (qb0);refine Ym (Js tb ((⟨OO,cs⟩:OwL XCut)) (⟨ck.off,t,ck.reason⟩) rfl rfl rfl rfl zj zg yf zg ze zb zb) ?_;rintro v M U ⟨rfl,rfl⟩;refine J6 (Jc (Ug (Kw (Kd (Jc (Jh ?_))))));apply (Xae);exact q_k ⟨(k + 1,cs.set k ⟨ck.off,t,ck.reason⟩,q),by dsimp only;omega,hWn _ (by rw [Ksb,if_pos hc4,if_pos hc5]),hqk,by dsimp only;rw [hns,if_neg za];exact hql⟩
   refine Ka (Jc (Ug (Kw (Kd (Jc (Jh ?_))))));apply (Xae);exact q_k ⟨(k + 1,cs,q),by dsimp only;omega,hWs (by rw [Ksb,if_pos hc4,if_neg hc5]),hqk,by dsimp only;rw [hns,if_neg za];exact hql⟩
  apply qbv∘qa6;refine Jx zLb rfl ?_;apply (qb0);refine Ym (Js tb ((⟨OO,cs⟩:OwL XCut)) (⟨ck.off,-1,ck.reason⟩) rfl rfl rfl rfl zj zg yf zg ze zb zb) ?_;rintro v M U ⟨rfl,rfl⟩;apply (qa4);have hck1:=OwL.set_ok (f:=XCut.cells) (wd:=3) (p:=(⟨OO,cs⟩:OwL XCut)) (i:=k) (x:=⟨ck.off,-1,ck.reason⟩) yf hck;have hcg1:(cs.set k ⟨ck.off,-1,ck.reason⟩)[k]?=some ⟨ck.off,-1,ck.reason⟩:=yH za;apply qay∘qa6;refine Jx zLb rfl ?_;apply (qb0);refine Jx (Kc tb ((⟨OO,cs.set k ⟨ck.off,-1,ck.reason⟩⟩:OwL XCut)) rfl rfl rfl zj zg yf zg zb) rfl ?_;apply (Xbb);refine q_c ?_ ?_<;>intro hc6;·have hck2:=OwL.set_ok (f:=XCut.cells) (wd:=3) (p:=(⟨OO,cs.set k ⟨ck.off,-1,ck.reason⟩⟩:OwL XCut)) (i:=k) (x:=⟨true,-1,ck.reason⟩) yf hck1;have hcg2:((cs.set k ⟨ck.off,-1,ck.reason⟩).set k ⟨true,-1,ck.reason⟩)[k]?=some ⟨true,-1,ck.reason⟩:=yH (by rw [yy];omega);apply qae∘qa6∘Xc2;refine Jx zLb rfl ?_;apply (qb0);refine Ym (Js tb ((⟨OO,cs.set k ⟨ck.off,-1,ck.reason⟩⟩:OwL XCut)) (⟨true,-1,ck.reason⟩) rfl rfl rfl rfl zj zg yf zg ze zb zb) ?_;rintro v M U ⟨rfl,rfl⟩;refine Jx zLb rfl ?_;apply (qb0);refine Ym (Js tb ((⟨OO,(cs.set k ⟨ck.off,-1,ck.reason⟩).set k ⟨true,-1,ck.reason⟩⟩:OwL XCut)) (⟨true,-1,V⟩) rfl rfl rfl rfl zj zg yf zg ze zb zb) ?_;rintro v M U ⟨rfl,rfl⟩;refine J6 (Jc (Jh ?_));apply Xat∘qcx;rintro v M U ⟨b88,rfl,rfl,hR88⟩;replace hR88:=hR88.symm;subst hR88;refine Jqa (Kb (f:=Jo) (a:=(k:Int)) tb rfl rfl rfl rfl (hqk) zj zxb rfl zA) rfl ?_;rintro v M U ⟨o89,rfl,hok89,rfl,rfl⟩;apply qc4∘Xa7;exact q_k ⟨(k + 1,((cs.set k ⟨ck.off,-1,ck.reason⟩).set k ⟨true,-1,ck.reason⟩).set k ⟨true,-1,V⟩,(⟨o89,_⟩:OwL Int)),by dsimp only;omega,by dsimp only;rw [yIa,yIa];exact hWn _ (by rw [Ksb,if_neg hc4,if_neg (by simpa using hc6)]),hok89,by dsimp only;rw [hns,if_pos ⟨hc4,by simpa using hc6⟩,hql]⟩
  apply (Xax);exact q_k ⟨(k + 1,cs.set k ⟨ck.off,-1,ck.reason⟩,q),by dsimp only;omega,hWn _ (by rw [Ksb,if_neg hc4,if_pos (by simpa using hc6)];rw [show ck.off=true by simpa using hc6]),hqk,by dsimp only;rw [hns,if_neg (fun h=>by have:=h.2;simp [this] at hc6)];exact hql⟩
 obtain rfl:k=c.l.length:=by omega
 apply Xcs∘qbm∘Xbs∘Xah;refine q_r (q.L 3 Jo ++ ((⟨OO,cs⟩:OwL XCut).L 71 XCut.cells ++ L)) R zSc ?_;exact ⟨(⟨OO,cs⟩:OwL XCut),q,by rw [he,OwL.val,OwL.val,hwl];try rfl,⟨hck,hqk⟩,by rw [cutsC,if_neg za];exact hW.done,by rw [cutsN,if_neg za];exact hql,rfl,rfl⟩
end
end Go.Proofs.YtchfclmokpbldaaGreat
