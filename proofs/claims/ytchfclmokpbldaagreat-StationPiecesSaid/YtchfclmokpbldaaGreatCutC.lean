/-
  Merged texts. By an AI agent.
-/
import Derived.Test.YtchfclmokpbldaaGreatRestP
import Derived.Test.YtchfclmokpbldaaGreatRuleD
import Derived.Test.YtchfclmokpbldaaGreatDrawC
set_option linter.all false
set_option maxHeartbeats 4000000
set_option maxRecDepth 20000
namespace Go.Proofs.YtchfclmokpbldaaGreat
open Go.Aw Go
section
attribute [local irreducible] CJ LJ DJ Tri YV Gives Uo J0 Kj Un RV J2 OwL.L
section
variable {A B:Prop}
def Y4e(h:B:=by exact ⟨.nil,.nil,by rw [he];rfl,⟨OwL.nil_ok,OwL.nil_ok⟩,by rw [valuesV,if_pos za],by rw [valuesW,if_pos za],by rw [Ku,Ku];rfl,rfl⟩):=h
def Yre(h:A→B:=by exact Jx zMc rfl):=h
def Zgf(h:A→B:=by exact Jx zmb rfl):=h
def Urf(h:A→B:=by exact Kw rfl (Ky (f:=XWatch.cells) (xs:=w) tb rfl rfl rfl ze rfl rfl (hw) yf za) rfl rfl):=h
def Ukf(h:A→B:=by exact Y5a 5 hT8 yd zc rfl rfl rfl rfl rfl (Uz zhb)):=h
def U2f(h:A→B:=by exact Y5a 6 hT8 yd zc rfl rfl rfl rfl rfl (Uz zhb)):=h
def Uxf(h:A→B:=by exact Kn zjb rfl rfl rfl rfl):=h
end
def Ubf {fl:List XSpan} {f:XFace}:Jmg fl [f]=[Jtb fl f]:=rfl
abbrev Zce (s:XSite) (w:List XWatch) (t:Int):Nat→Option Int:=fun i=>nzO (Z1b (s.conds.l.getD i default) (w.getD i default) t)
abbrev Jog (s:XSite) (m:List XMeas) (w:List XWatch) (fl:List XSpan) (t:Int):Nat→Int:=fun i=>Ktb s.sensors.l m fl (s.conds.l.getD i default) (w.getD i default) t
abbrev Jgg (s:XSite) (m:List XMeas) (w:List XWatch) (t:Int):Nat→XWatch:=fun i=>Vra s.sensors.l m (s.conds.l.getD i default) (w.getD i default) t
structure ValsA (s:XSite) (m:Arr XMeas) (w:Arr XWatch) (fl:Arr XSpan) (R:LS):Prop where
 site:SiteR s R
 mR:InR (Vsa m) R
 wR:InR (Vfd w) R
 flR:InR (Yvd fl) R
 ok:∀x∈m.l,Kza x
def Ylc {s:XSite} {m:List XMeas} {w:List XWatch} {fl:List XSpan} {t:Int} (h0:K5 s=0) (h1:m.length=s.sensors.l.length∧w.length=s.conds.l.length∧fl.length=s.air.mine.roads.l.length) (h2:¬ (t < 0∨2147483648 < t)):valuesErr s m w fl t=((List.range w.length).findSome? (Zce s w t)).getD 0:=by rw [valuesErr,if_neg za,if_neg (fun h=>h h1),if_neg h2]
def Yhd (s:XSite) (m:Arr XMeas) (w:Arr XWatch) (fl:Arr XSpan) (t:Int) (L:LB) (R:LS) (h:ValsA s m w fl R):
 Tri Tryz.prog 154 [s.val, m.val, w.val, fl.val, .int .i64 t].toArray L R
  (fun v M U=>∃(p:OwL Int) (q:OwL XWatch),v=.tuple #[p.val,q.val,.int .i64 (valuesErr s m.l w.l fl.l t)]∧(p.ok 1 Ji∧q.ok 3 XWatch.cells)∧p.l=valuesV s m.l w.l fl.l t∧q.l=valuesW s m.l w.l fl.l t∧p.L 3 Ji ++ (q.L 153 XWatch.cells ++ L)=M∧R=U):=by
 obtain ⟨hs,hm,hw,hfl,hok⟩:=h;have hsR:=hs.sensors;have hcR:=hs.conds;refine Je 152 Tryz.call154 Tryz.func154 rfl rfl rfl ?_;apply (Xag);intro b5;apply Xbw∘Xaq∘Zgf;refine q_l rfl (J5a s _ _ hs) ?_;apply (Xbp);refine q_c ?_ ?_<;>intro hc0;·
  apply Xbr∘Xbw∘Xav;refine q_r L R zRc ?_;have he:valuesErr s m.l w.l fl.l t=K5 s:=by rw [valuesErr,if_pos hc0]
  exact Y4e
 have hsk:=Z4 (s:=s) za;have hsl:=hsk.len;have hrl:=(Yy hsk.air).mine.roads;apply qbo∘Xak∘Xab∘Xcn;apply Kf (G:=[_,_,_,_,_,_]) (j:=6) (cj:=32) rfl rfl zb rfl zfb rfl;·intro hg7;replace hg7:=qb hg7;exact (Xak∘Xab) zfd
 intro junk7;apply (qah);apply Kf (G:=[_,_,_,_,_,_,_,_]) (j:=14) (cj:=40) rfl rfl zb rfl zfb rfl;·
  intro hg15;replace hg15:=qb hg15;apply (Xak);iterate 3 apply (qab)
  exact (Xcw) zfd
 intro junk15;apply (qaf);refine q_c ?_ ?_<;>intro hc1;·
  apply qae∘Xbw∘Xav;refine q_r L R zRc ?_;have he:valuesErr s m.l w.l fl.l t=11:=by rw [valuesErr,if_neg za,if_pos za]
  exact Y4e
 apply qbo∘Xb5;apply Kf (G:=[_,_]) (j:=2) (cj:=52) rfl rfl zb rfl zfb rfl;·exact zdd
 intro junk3;apply (qaf);refine q_c ?_ ?_<;>intro hc2;·
  apply qae∘Xbw∘Xav;refine q_r L R zRc ?_;have he:valuesErr s m.l w.l fl.l t=8:=by rw [valuesErr,if_neg za,if_neg za,if_pos za]
  exact Y4e
 have hve:=Ylc (s:=s) (m:=m.l) (w:=w.l) (fl:=fl.l) (t:=t) za za za;apply (qcl);refine Kec [56,57,58,59,60,14,15] ((⟨fun g=>[(14,.slice (some ⟨g.1.1,0,none⟩) w.l.length w.l.length),(15,(⟨g.1.2,w.l⟩:OwL XWatch).val)],fun g=>(⟨.own g.1.1 w.l.length [],List.replicate w.l.length 0⟩:OwL Int).L 3 Ji ++ ((⟨g.1.2,w.l⟩:OwL XWatch).L 153 XWatch.cells ++ (⟨b5,s.cells,38⟩ :: L)),fun _=>R,fun _=>0⟩:Head {g:Nat×Ow // (⟨g.2,w.l⟩:OwL XWatch).ok 3 XWatch.cells})) ?_ ?_;·
  skip
  refine K0c tb [] [0,1,3,2,4,5,6] [] (_) [] 7 Kr zc rfl rfl zi fun hT8=>?_;refine Y5a 0 hT8 yd zc rfl rfl rfl rfl rfl zOc ?_;refine Y5a 1 hT8 yd zc rfl rfl rfl rfl rfl zzb ?_;refine Y5a 3 hT8 yd zc rfl rfl rfl rfl rfl zOc ?_;refine Jg [2,4] hT8 yd zc ?_;refine Jp ?_ ?_;·
   skip
   refine Kw rfl zac rfl rfl ?_;rintro v M U ⟨b58,rfl,rfl,hR58⟩;replace hR58:=hR58.symm;subst hR58;apply (qa1);refine Jg [4] hT8 yd zc ?_;apply qca∘Urf;rintro v M U ⟨o60,rfl,hok60,rfl,rfl⟩;exact uaH
  apply qca∘Urf;rintro v M U ⟨o60,rfl,hok60,rfl,rfl⟩;apply (qa1);refine Jg [2] hT8 yd zc ?_;apply (qca);refine Kw rfl zac rfl rfl ?_;rintro v M U ⟨b58,rfl,rfl,hR58⟩;replace hR58:=hR58.symm;subst hR58;exact uaH
 rintro ⟨⟨b,o⟩,hok60⟩ junk;try dsimp only
 dsimp only at hok60;apply qbi∘Xaz;refine Jk [(1,.slice _ _ _),(2,.slice _ _ _),(3,.slice _ _ _),(4,.int _ _),(5,.pointer _),(14,.slice _ _ _),(15,.slice _ _ _),(62,.slice _ _ _),(63,.int _ _),(64,.int _ _)] zh fun tq0=>?_;refine q_p ([10,11,12,16,17,18,19,20]++rg 64 86) ((⟨fun g=>[(64,.int .i64 ((g.1.1:Nat):Int))],fun g=>(⟨.own b w.l.length [],g.1.2.1⟩:OwL Int).L 3 Ji ++ ((⟨o,g.1.2.2⟩:OwL XWatch).L 153 XWatch.cells ++ (⟨b5,s.cells,38⟩ :: L)),fun _=>R,fun g=>w.l.length - g.1.1⟩:Head {g:Nat×List Int×List XWatch // (g.1≤w.l.length∧(List.range w.l.length).findSome? (Zce s w.l t)=((List.range w.l.length).drop g.1).findSome? (Zce s w.l t))∧WrTo w.l.length 0 (Jog s m.l w.l fl.l t) g.1 g.2.1∧WrO w.l (Jgg s m.l w.l t) g.1 g.2.2})) (⟨(0,List.replicate w.l.length 0,w.l),⟨by dsimp only;omega,by rw [ypb]⟩,.zero,.zero⟩) ?_;rintro ⟨⟨k,vs,ws⟩,⟨hk,hp⟩,hV,hW⟩ junk;try dsimp only
 dsimp only at hk hp hV hW;have hvl:=hV.len;have hwl:=hW.len;have hvk:(⟨.own b w.l.length [],vs⟩:OwL Int).ok 1 Ji:=by have:=Yg (f:=Ji) (wd:=1) (b:=b) (n:=w.l.length) (x:=0) Uy zE;exact OwL.len_ok Uy this (by simp;exact hvl)
 have hwk:(⟨o,ws⟩:OwL XWatch).ok 3 XWatch.cells:=OwL.len_ok yf hok60 hwl;apply (Xan);refine q_c ?_ ?_<;>intro hc3;·
  have hcg:=Ju (l:=s.conds.l) (k:=k) default za;have hwg:=Ju (l:=w.l) (k:=k) default za;have hvg:=hV.non k (yn _) za;have hwg2:=hW.old k (yn _);rw [hwg] at hwg2;have hcf:=Kmc (hsk.cond _ (yi hcg));have hVn:=fun (v:Int)=>hV.next (x:=v) za;have hWn:=fun (v:XWatch)=>hW.next (x:=v) za;have hpn:=Y8 (f:=Zce s w.l t) hp za;have hps:=fun (e:Int) (he:Zce s w.l t k=some e)=>V9 (f:=Zce s w.l t) hp za he;obtain ⟨c,hc⟩:∃c,c=s.conds.l.getD k default:=⟨_,rfl⟩;obtain ⟨wk,hwe⟩:∃wk,wk=w.l.getD k default:=⟨_,rfl⟩;obtain ⟨X,hX⟩:∃X,X=Zk s.sensors.l m.l c.target t:=⟨_,rfl⟩;have hvE:Zce s w.l t k=nzO (Z1b c wk t):=by rw [hc,hwe]
  have hvV:Jog s m.l w.l fl.l t k=Ktb s.sensors.l m.l fl.l c wk t:=by rw [hc,hwe]
  have hvW:Jgg s m.l w.l t k=Vra s.sensors.l m.l c wk t:=by rw [hc,hwe]
  rw [← hc] at hcg hcf;rw [← hwe] at hwg hwg2;rw [hvV] at hVn;rw [hvE] at hpn hps;rw [hvW] at hWn;rw [Ktb,← hX] at hVn;rw [Z1b] at hpn hps;apply (Xbb);refine Jx zD rfl ?_;refine Jx zWa rfl ?_;apply (qaq);intro b17;apply qad∘Xa1∘Zgf∘qbm∘Xaj;refine q_l rfl (Vsc s m c.target t _ _ hsR hm hok za) ?_;rw [← hX];apply (qaq);intro b18;apply (Xb2);refine J5 (Jb (Kb (Jl (Jf ?_))));apply (Xay);refine q_c ?_ ?_<;>intro hc4;·
   refine Jl ?_;refine Kk tb [0,1,2,3,4,5,6,7,8,9,10,11,12,13,14] ([Blk.mk b18 _ _,Blk.mk b17 _ _]) Kr zc zi ?_;apply (qal);refine K3 zjb rfl rfl rfl ?_;refine K3 zOc rfl rfl rfl ?_;apply qao∘qds∘qdv∘qbd∘qao;refine q_d rfl (U4e c.level wk X t _ _) ?_;refine K3 zSb rfl rfl rfl ?_;refine K3 zZb rfl rfl rfl ?_;refine K3 zZb rfl rfl rfl ?_;apply (qbr);intro b19;apply qbg∘qcg∘qc6∘qaa∘Xax;refine q_c ?_ ?_<;>intro hc5;·apply Xbr∘Xbw∘qad;refine J5 (Jb (Up (Kg (Kc (Kc (Kg (Vx (Kc (Kg ?_)))))))));refine q_r L R zRc ?_;have hfe:=hps (Ym c.level wk t) (by rw [if_pos hc4,Kxc hc5]);(have he:valuesErr s m.l w.l fl.l t=Ym c.level wk t:=by rw [hve,hfe];rfl);exact Y4e
   (have hse:Ym c.level wk t=0:=by omega);rw [Vdd hse];refine J1 (Jb ?_);refine J6 tb [96,97] [0,1,2,3,4,5,6,7,8,9] [10,11,12] ([Blk.mk b19 _ _,Blk.mk b18 _ _,Blk.mk b17 _ _]) _ Kr zc zi (by (repeat (first | apply List.Sublist.cons (a:=Blk.mk b15 _ _) | apply List.Sublist.cons (a:=Blk.mk b14 _ _) | apply List.Sublist.cons_cons));exact yu _) ?_;apply (Xdb);refine Vy zOc rfl rfl rfl rfl ?_;refine Vy (Jz zgb) rfl rfl rfl rfl ?_;apply (Uxf);refine Kn zjc rfl rfl rfl rfl ?_;apply (Uxf);refine Kn zwb rfl rfl rfl rfl ?_;refine Kp rfl (V2e c (Zl c.level wk X t) X _ _) rfl rfl ?_;rintro v M U ⟨rfl,rfl,rfl⟩;refine ⟨zi,zq,?_⟩;refine Kn (Jv tb ((⟨o,ws⟩:OwL XWatch)) _ rfl rfl ((show _=Value.slice _ _ _ from rfl).trans (by simp only [OwL.val,hwl])) rfl zg (i:=k) zk zu) rfl rfl rfl rfl ?_;apply (qba);refine Jab (U0 tb ((⟨o,ws⟩:OwL XWatch)) (Zl c.level wk X t) rfl rfl rfl rfl zj zg yf zg (yX rfl) zb zb) rfl rfl ?_;rintro v M U ⟨rfl,rfl⟩;apply (qa1);refine K3 zMc rfl rfl rfl ?_;refine Jab (Js tb ((⟨.own b w.l.length [],vs⟩:OwL Int)) (if (Zl c.level wk X t).over=false then -1 else if Z5 X c.level.cut=1 then 1 else 0) rfl rfl rfl rfl zj zg yf zg ze zb zb) rfl rfl ?_;rintro v M U ⟨rfl,rfl⟩;apply (qa1);refine J3 (Jd (Jd (Jb (Jf ?_))));apply (Xae);exact q_k ⟨(k + 1,vs.set k (if (Zl c.level wk X t).over=false then -1 else if Z5 X c.level.cut=1 then 1 else 0),ws.set k (Zl c.level wk X t)),hpn (by rw [if_pos hc4,hse];rfl),hVn _ (by rw [if_neg (show ¬ c.kind=5 by omega),if_neg (show ¬ c.kind=2 by omega),if_neg (show ¬ c.kind=3 by omega),if_neg (show ¬ c.kind=4 by omega)]),hWn _ (by rw [Vra,if_pos hc4,hX])⟩
  have hst:Vra s.sensors.l m.l c wk t=wk:=by rw [Vra,if_neg hc4]
  have hWk:=hW.stay (show w.l[k]?=some (Jgg s m.l w.l t k) by rw [hvW,hwg,hst]);have hpk:=hpn (by rw [if_neg hc4];rfl);apply (Xbk);refine q_c ?_ ?_<;>intro hc6;·apply Xcd∘qbe∘Xaa;refine q_l rfl (U3b X c.value _ _) ?_;(have hab:-1≤Z5 X c.value∧Z5 X c.value≤1:=by rw [Z5];(repeat' split) <;> omega);apply qcq∘Yre;refine Yc (Js tb ((⟨.own b w.l.length [],vs⟩:OwL Int)) (-(Z5 X c.value)) rfl rfl rfl rfl zj zg yf zg ze zb zb) ?_;rintro v M U ⟨rfl,rfl⟩;refine J5 (Jd (Jd (Jb (Jf ?_))));apply (Xae);exact q_k ⟨(k + 1,vs.set k (-(Z5 X c.value)),ws),hpk,hVn _ (by rw [if_neg za,if_pos hc6]),hWk⟩
  apply (Xbk);refine q_c ?_ ?_<;>intro hc7;·apply Xcd∘qbe;refine q_l rfl (Ked X _ _) ?_;apply (Yre);refine Yc (Js tb ((⟨.own b w.l.length [],vs⟩:OwL Int)) (Kxa X) rfl rfl rfl rfl zj zg yf zg ze zb zb) ?_;rintro v M U ⟨rfl,rfl⟩;refine J5 (Jd (Jd (Jb (Jf ?_))));apply (Xae);exact q_k ⟨(k + 1,vs.set k (Kxa X),ws),hpk,hVn _ (by rw [if_neg za,if_neg za,if_pos hc7]),hWk⟩
  apply (Xbk);refine q_c ?_ ?_<;>intro hc8;·
   apply qae∘Xas∘Yre;refine Yc (Js tb ((⟨.own b w.l.length [],vs⟩:OwL Int)) (-1) rfl rfl rfl rfl zj zg yf zg ze zb zb) ?_;rintro v M U ⟨rfl,rfl⟩;apply (qa4);refine Kk tb [0,1,2] ([Blk.mk b18 _ _]) Kr zc zi ?_;apply (qbd);refine q_d rfl (Ua _ _) ?_;refine K3 (Vyb Zpe rfl rfl) rfl rfl rfl ?_;apply (qbu);refine q_c ?_ ?_<;>intro hc9;·have hvk2:=OwL.set_ok (p:=(⟨.own b w.l.length [],vs⟩:OwL Int)) (i:=k) (x:= -1) Uy hvk;have hvg2:(vs.set k (-1))[k]?=some (-1):=yO za;apply (Xcd);refine Jx (Jv tb ((⟨.own b w.l.length [],vs.set k (-1)⟩:OwL Int)) _ rfl rfl ((show _=Value.slice _ _ _ from rfl).trans (Uj (by rw [yP];exact hvl))) rfl zg (i:=k) zk zu) rfl ?_;refine Yc (Js tb ((⟨.own b w.l.length [],vs.set k (-1)⟩:OwL Int)) (1) rfl rfl rfl rfl zj zg yf zg ze zb zb) ?_;rintro v M U ⟨rfl,rfl⟩;refine J5 (Jd (Jd (Jb (Jf ?_))));apply (Xae);exact q_k ⟨(k + 1,(vs.set k (-1)).set k 1,ws),hpk,by dsimp only;rw [yJa];exact hVn _ (by rw [if_neg za,if_neg za,if_neg za,if_pos hc8,if_pos (Jzc.2 za)]),hWk⟩
   refine J1 (Jd (Jd (Jb (Jf ?_))));apply (Xae);exact q_k ⟨(k + 1,vs.set k (-1),ws),hpk,hVn _ (by rw [if_neg za,if_neg za,if_neg za,if_pos hc8,if_neg (fun e=>by rw [Jzc] at e;omega)]),hWk⟩
  apply (Xbk);refine q_c ?_ ?_<;>intro hc10;·apply Xcd∘qbm∘Xbo∘qcd;refine Yl zDb rfl ?_;rintro v M U ⟨b143,rfl,rfl,hR143⟩;replace hR143:=hR143.symm;subst hR143;refine Joa (wd:=2) (len:=1) (cap:=1) (rows:=[XFace.cells ⟨c.target,c.value⟩]) (subs:=[]) rfl ze ze (fun r hr=>by rw [List.mem_singleton.1 hr];rfl) ze rfl yg ?_;refine Jq rfl (Uqe fl ⟨some ⟨b143,0,none⟩,1,[⟨c.target,c.value⟩]⟩ _ _ (hfl.mono fun r h=>Ja (by simp [h])) zCb (fun f hf=>by rw [List.mem_singleton.1 hf];dsimp only;omega) (show 1≤1000 by decide) za) rfl ?_;rintro v M U ⟨p,rfl,hpk1,hpl,rfl,rfl⟩;rw [Ubf] at hpl;(have hp0:p.l[0]?=some (Jtb fl.l ⟨c.target,c.value⟩):=by rw [hpl];rfl);(have hpn1:p.l.length=1:=by rw [hpl];rfl);(have hfb:-1≤Jtb fl.l ⟨c.target,c.value⟩∧Jtb fl.l ⟨c.target,c.value⟩≤1:=by rw [Jtb,K5e];(repeat' split) <;> omega);refine Jx (Jv tb (p) _ rfl rfl rfl rfl zg (i:=0) zk zu) rfl ?_;refine Jx zAb rfl ?_;apply qcq∘Yre;refine Yc (Js tb ((⟨.own b w.l.length [],vs⟩:OwL Int)) (-(Jtb fl.l ⟨c.target,c.value⟩)) rfl rfl rfl rfl zj zg yf zg ze zb zb) ?_;rintro v M U ⟨rfl,rfl⟩;refine J5 (Jd (Jd (Jb (Jf ?_))));apply (Xae);exact Kq ⟨(k + 1,vs.set k (-(Jtb fl.l ⟨c.target,c.value⟩)),ws),hpk,hVn _ (by rw [if_pos hc10]),hWk⟩ zm zh zi (fun r h=>Ja (by simp [h])) zw
  (exfalso;omega)
 obtain rfl:k=w.l.length:=by omega
 have hn:=Jha (f:=Zce s w.l t) hp (yn _);have he:valuesErr s m.l w.l fl.l t=0:=by rw [hve,hn];rfl
 apply Xdd∘qbm∘Xbw∘Xai;refine q_r ((⟨.own b w.l.length [],vs⟩:OwL Int).L 3 Ji ++ ((⟨o,ws⟩:OwL XWatch).L 153 XWatch.cells ++ L)) R zRc ?_;exact ⟨(⟨.own b w.l.length [],vs⟩:OwL Int),(⟨o,ws⟩:OwL XWatch),by rw [he,OwL.val,OwL.val,hvl,hwl];try rfl,⟨hvk,hwk⟩,by rw [valuesV,if_neg za];exact hV.done,by rw [valuesW,if_neg za];exact hW.done,rfl,rfl⟩
end
section
attribute [local irreducible] CJ LJ DJ Tri YV Gives Uo J0 Kj Un RV J2 OwL.L
section
variable {A B:Prop}
def J8f(h:B:=by exact ⟨.nil,.nil,by rw [he];rfl,⟨OwL.nil_ok,OwL.nil_ok⟩,by rw [cutsC,if_pos za],by rw [cutsN,if_pos za],by rw [Ku,Ku];rfl,rfl⟩):=h
end
def Vvd {s:XSite} {v:List Int} {c:List XCut} {k:Nat}:Vda s v c (k + 1)=if Uwa (s.zones.l.getD k default).rule.l v≠-1∧(c.getD k default).off=false then Vda s v c k ++ [(k:Int)] else Vda s v c k:=rfl
def Vbc {s : XSite} {v : List Int} {c : List XCut} : ∀ n, (Vda s v c n).length ≤ n
 | 0=>by simp [Vda]
 | n + 1=>by
  have:=Vbc (s:=s) (v:=v) (c:=c) n
  rw [Vda]
  split
  ·rw [yj,ym];omega
  ·omega
def V1e (s:XSite) (u:Arr Int) (c:Arr XCut) (t:Int) (L:LB) (R:LS) (hs:SiteR s R) (hv:InR (isl u) R) (hc:InR (Y5c c) R):
 Tri Tryz.prog 155 [s.val, u.val, c.val, .int .i64 t].toArray L R
  (fun z M U=>∃(p:OwL XCut) (q:OwL Int),z=.tuple #[p.val,q.val,.int .i64 (cutsErr s u.l c.l t)]∧(p.ok 3 XCut.cells∧q.ok 1 Ji)∧p.l=cutsC s u.l c.l t∧q.l=cutsN s u.l c.l t∧q.L 3 Ji ++ (p.L 71 XCut.cells ++ L)=M∧R=U):=by
 have hzR:=hs.zones;refine Je 93 Tryz.call155 Tryz.func155 rfl rfl rfl ?_;apply (Xag);intro b4;apply Xbw∘Xaq;refine Jx zmb rfl ?_;refine q_l rfl (J5a s _ _ hs) ?_;apply (Xbp);refine q_c ?_ ?_<;>intro hc0;·
  apply Xbr∘Xbw∘Xav;refine q_r L R zRc ?_;have he:cutsErr s u.l c.l t=K5 s:=by rw [cutsErr,if_pos hc0]
  exact J8f
 have hsk:=Z4 (s:=s) za;have hsl:=hsk.len;apply qbo∘Xak∘Xab∘Xcn;apply Kf (G:=[_,_,_,_,_,_]) (j:=6) (cj:=29) rfl rfl zb rfl zfb rfl;·intro hg7;replace hg7:=qb hg7;exact (Xak∘Xab) zfd
 intro junk7;apply (qaf);refine q_c ?_ ?_<;>intro hc1;·
  apply qae∘Xbw∘Xav;refine q_r L R zRc ?_;have he:cutsErr s u.l c.l t=11:=by rw [cutsErr,if_neg za,if_pos za]
  exact J8f
 apply qbo∘Xb5;apply Kf (G:=[_,_]) (j:=2) (cj:=39) rfl rfl zb rfl zfb rfl;·exact zdd
 intro junk3;apply (qaf);refine q_c ?_ ?_<;>intro hc2;·
  apply qae∘Xbw∘Xav;refine q_r L R zRc ?_;have he:cutsErr s u.l c.l t=8:=by rw [cutsErr,if_neg za,if_neg za,if_pos za]
  exact J8f
 have he:cutsErr s u.l c.l t=0:=by rw [cutsErr,if_neg za,if_neg za,if_neg za]
 apply qbv∘qbm;refine Yl (Ky (f:=XCut.cells) (xs:=c) tb rfl rfl rfl ze rfl rfl (hc) yf za) rfl ?_;rintro v M U ⟨o44,rfl,hok44,rfl,rfl⟩;apply (Xda);obtain ⟨OO,hOO⟩:∃OO,OO=o44:=⟨_,rfl⟩;rw [← hOO] at hok44 ⊢;apply qay∘Xbv∘Xaz;refine Jk [(1,.slice _ _ _),(3,.int _ _),(12,.slice _ _ _),(13,.slice _ _ _),(46,.slice _ _ _),(47,.int _ _),(48,.int _ _)] zh fun tq0=>?_;refine K7 ([13,14,15,16,17]++rg 48 43) ((⟨fun g=>[(48,.int .i64 ((g.1.1:Nat):Int)),(13,g.1.2.2.val)],fun g=>g.1.2.2.L 3 Ji ++ ((⟨OO,g.1.2.1⟩:OwL XCut).L 71 XCut.cells ++ (⟨b4,s.cells,38⟩ :: L)),fun _=>R,fun g=>c.l.length - g.1.1⟩:Head {g:Nat×List XCut×OwL Int // g.1≤c.l.length∧WrO c.l (cutAt s u.l c.l t) g.1 g.2.1∧g.2.2.ok 1 Ji∧g.2.2.l=Vda s u.l c.l g.1})) (⟨(0,c.l,OwL.nil),by dsimp only;omega,.zero,OwL.nil_ok,rfl⟩) zh zL zxb ?_;rintro ⟨⟨k,cs,q⟩,hk,hW,hqk,hql⟩ junk;try dsimp only
 dsimp only at hk hW hqk hql;have hwl:=hW.len;have hck:(⟨OO,cs⟩:OwL XCut).ok 3 XCut.cells:=OwL.len_ok yf hok44 hwl;have hqn:q.l.length≤k:=by rw [hql];exact Vbc k
 apply (Xan);refine q_c ?_ ?_<;>intro hc3;·
  have hzg:=Ju (l:=s.zones.l) (k:=k) default za;have hcg0:=Ju (l:=c.l) (k:=k) default za;have hcg:=hW.old k (yn _);rw [hcg0] at hcg;have hWn:=fun (x:XCut)=>hW.next (x:=x) za;have hWs:=hW.stay (i:=k);have hns:=Vvd (s:=s) (v:=u.l) (c:=c.l) (k:=k);obtain ⟨z,hz⟩:∃z,z=s.zones.l.getD k default:=⟨_,rfl⟩;obtain ⟨ck,hcke⟩:∃ck,ck=c.l.getD k default:=⟨_,rfl⟩;obtain ⟨V,hV⟩:∃V,V=Uwa z.rule.l u.l:=⟨_,rfl⟩;have hat:cutAt s u.l c.l t k=K3e V ck t:=by rw [cutAt,hV,hz,hcke]
  rw [← hz] at hzg;rw [← hcke] at hcg hcg0;rw [← hz,← hcke,← hV] at hns;rw [hat] at hWn;rw [hat,hcg0] at hWs;apply (Xbb);refine Jx zD rfl ?_;apply (Xdj);intro b15;apply qad∘Xa1∘Xas;refine Jx (Jv tb ((⟨OO,cs⟩:OwL XCut)) _ rfl rfl ((show _=Value.slice _ _ _ from rfl).trans (by simp only [OwL.val,hwl])) rfl zg (i:=k) zk zu) rfl ?_;apply qc1∘Xcr∘qbm;refine q_l rfl (Z5b z.rule u _ _ (InR.rule hzR hzg) hv) ?_;rw [← hV];apply Xaq∘qaa∘Xbf;refine q_c ?_ ?_<;>intro hc4;·
   apply qbi∘qa6;refine Jx zJb rfl ?_;apply (qb0);refine Jx (Kd tb ((⟨OO,cs⟩:OwL XCut)) rfl rfl rfl zj zg yf zg zb) rfl ?_;apply (Xbf);refine q_c ?_ ?_<;>intro hc5;·apply qay∘Xby;refine Jx zJb rfl ?_;apply (qb0);refine Yc (Js tb ((⟨OO,cs⟩:OwL XCut)) (⟨ck.off,t,ck.reason⟩) rfl rfl rfl rfl zj zg yf zg ze zb zb) ?_;rintro v M U ⟨rfl,rfl⟩;refine J5 (Jb (K4 (Km (J8 (Jb (Jf ?_))))));apply (Xae);exact q_k ⟨(k + 1,cs.set k ⟨ck.off,t,ck.reason⟩,q),by dsimp only;omega,hWn _ (by rw [K3e,if_pos hc4,if_pos hc5]),hqk,by dsimp only;rw [hns,if_neg za];exact hql⟩
   refine J1 (Jb (K4 (Km (J8 (Jb (Jf ?_))))));apply (Xae);exact q_k ⟨(k + 1,cs,q),by dsimp only;omega,hWs (by rw [K3e,if_pos hc4,if_neg hc5]),hqk,by dsimp only;rw [hns,if_neg za];exact hql⟩
  apply qbv∘qa6;refine Jx zJb rfl ?_;apply (qb0);refine Yc (Js tb ((⟨OO,cs⟩:OwL XCut)) (⟨ck.off,-1,ck.reason⟩) rfl rfl rfl rfl zj zg yf zg ze zb zb) ?_;rintro v M U ⟨rfl,rfl⟩;apply (qa4);have hck1:=OwL.set_ok (f:=XCut.cells) (wd:=3) (p:=(⟨OO,cs⟩:OwL XCut)) (i:=k) (x:=⟨ck.off,-1,ck.reason⟩) yf hck;have hcg1:(cs.set k ⟨ck.off,-1,ck.reason⟩)[k]?=some ⟨ck.off,-1,ck.reason⟩:=yO za;apply (Xch);refine Jx zJb rfl ?_;apply (qb0);refine Jx (Kd tb ((⟨OO,cs.set k ⟨ck.off,-1,ck.reason⟩⟩:OwL XCut)) rfl rfl rfl zj zg yf zg zb) rfl ?_;apply (Xbg);refine q_c ?_ ?_<;>intro hc6;·have hck2:=OwL.set_ok (f:=XCut.cells) (wd:=3) (p:=(⟨OO,cs.set k ⟨ck.off,-1,ck.reason⟩⟩:OwL XCut)) (i:=k) (x:=⟨true,-1,ck.reason⟩) yf hck1;have hcg2:((cs.set k ⟨ck.off,-1,ck.reason⟩).set k ⟨true,-1,ck.reason⟩)[k]?=some ⟨true,-1,ck.reason⟩:=yO zpa;apply qae∘qa6∘Xby;refine Jx zJb rfl ?_;apply (qb0);refine Yc (Js tb ((⟨OO,cs.set k ⟨ck.off,-1,ck.reason⟩⟩:OwL XCut)) (⟨true,-1,ck.reason⟩) rfl rfl rfl rfl zj zg yf zg ze zb zb) ?_;rintro v M U ⟨rfl,rfl⟩;refine Jx zJb rfl ?_;apply (qb0);refine Yc (Js tb ((⟨OO,(cs.set k ⟨ck.off,-1,ck.reason⟩).set k ⟨true,-1,ck.reason⟩⟩:OwL XCut)) (⟨true,-1,V⟩) rfl rfl rfl rfl zj zg yf zg ze zb zb) ?_;rintro v M U ⟨rfl,rfl⟩;refine J5 (Jb (Jf ?_));apply Xas∘qcx;rintro v M U ⟨b88,rfl,rfl,hR88⟩;replace hR88:=hR88.symm;subst hR88;refine Yl (Jr (f:=Ji) (a:=(k:Int)) tb rfl rfl rfl rfl (hqk) zj zob rfl zA) rfl ?_;rintro v M U ⟨o89,rfl,hok89,rfl,rfl⟩;apply qc4∘Xbj;exact q_k ⟨(k + 1,((cs.set k ⟨ck.off,-1,ck.reason⟩).set k ⟨true,-1,ck.reason⟩).set k ⟨true,-1,V⟩,(⟨o89,_⟩:OwL Int)),by dsimp only;omega,by dsimp only;rw [yJa,yJa];exact hWn _ (by rw [K3e,if_neg hc4,if_neg (by simpa using hc6)]),hok89,by dsimp only;rw [hns,if_pos ⟨hc4,by simpa using hc6⟩,hql]⟩
  apply (Xa3);exact q_k ⟨(k + 1,cs.set k ⟨ck.off,-1,ck.reason⟩,q),by dsimp only;omega,hWn _ (by rw [K3e,if_neg hc4,if_pos (by simpa using hc6)];rw [show ck.off=true by simpa using hc6]),hqk,by dsimp only;rw [hns,if_neg (fun h=>by have:=h.2;simp [this] at hc6)];exact hql⟩
 obtain rfl:k=c.l.length:=by omega
 apply Xdd∘qbm∘Xbw∘Xai;refine q_r (q.L 3 Ji ++ ((⟨OO,cs⟩:OwL XCut).L 71 XCut.cells ++ L)) R zRc ?_;exact ⟨(⟨OO,cs⟩:OwL XCut),q,by rw [he,OwL.val,OwL.val,hwl];try rfl,⟨hck,hqk⟩,by rw [cutsC,if_neg za];exact hW.done,by rw [cutsN,if_neg za];exact hql,rfl,rfl⟩
end
end Go.Proofs.YtchfclmokpbldaaGreat
