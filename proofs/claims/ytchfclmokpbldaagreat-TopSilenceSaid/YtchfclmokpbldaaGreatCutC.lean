/-
  Merged texts. By an AI agent.
-/
import Derived.Test.YtchfclmokpbldaaGreatEval
import Derived.Test.YtchfclmokpbldaaGreatSiteP
import Derived.Test.YtchfclmokpbldaaGreatDrawR
set_option linter.all false
set_option maxHeartbeats 4000000
set_option maxRecDepth 20000
namespace Go.Proofs.YtchfclmokpbldaaGreat
open Go.Aw Go
section
attribute [local irreducible] CJ LJ DJ Tri YV Gives Uq J2 Km Ur RV J4 OwL.L
section
variable {A B:Prop}
def Kzf(h:B:=by exact ⟨.nil,.nil,by rw [he];rfl,⟨OwL.nil_ok,OwL.nil_ok⟩,by rw [valuesV,if_pos za],by rw [valuesW,if_pos za],by rw [Kj,Kj];rfl,rfl⟩):=h
def Jpf(h:A→B:=by exact Jy zbd rfl):=h
def Uvg(h:A→B:=by exact Jy zvb rfl):=h
def Uag(h:A→B:=by exact Kw rfl (Ku (f:=XWatch.cells) (xs:=w) tb rfl rfl rfl ze rfl rfl (hw) yf za) rfl rfl):=h
def U5g(h:A→B:=by exact Yta 5 hT8 yd zc rfl rfl rfl rfl rfl (Ud zob)):=h
def K0g(h:A→B:=by exact Yta 6 hT8 yd zc rfl rfl rfl rfl rfl (Ud zob)):=h
def Kxg(h:A→B:=by exact Kp zrb rfl rfl rfl rfl):=h
end
def Y4f {fl:List XSpan} {f:XFace}:Ymg fl [f]=[Keb fl f]:=rfl
abbrev Ulf (s:XSite) (w:List XWatch) (t:Int):Nat→Option Int:=fun i=>nzO (Koc (s.conds.l.getD i default) (w.getD i default) t)
abbrev Ylg (s:XSite) (m:List XMeas) (w:List XWatch) (fl:List XSpan) (t:Int):Nat→Int:=fun i=>Kuc s.sensors.l m fl (s.conds.l.getD i default) (w.getD i default) t
abbrev Yfg (s:XSite) (m:List XMeas) (w:List XWatch) (t:Int):Nat→XWatch:=fun i=>Ywa s.sensors.l m (s.conds.l.getD i default) (w.getD i default) t
structure ValsA (s:XSite) (m:Arr XMeas) (w:Arr XWatch) (fl:Arr XSpan) (R:LS):Prop where
 site:SiteR s R
 mR:InR (Ya m) R
 wR:InR (Kde w) R
 flR:InR (Kpe fl) R
 ok:∀x∈m.l,Uaa x
def Zrc {s:XSite} {m:List XMeas} {w:List XWatch} {fl:List XSpan} {t:Int} (h0:K8 s=0) (h1:m.length=s.sensors.l.length∧w.length=s.conds.l.length∧fl.length=s.air.mine.roads.l.length) (h2:¬ (t < 0∨2147483648 < t)):valuesErr s m w fl t=((List.range w.length).findSome? (Ulf s w t)).getD 0:=by rw [valuesErr,if_neg za,if_neg (fun h=>h h1),if_neg h2]
def Jce (s:XSite) (m:Arr XMeas) (w:Arr XWatch) (fl:Arr XSpan) (t:Int) (L:LB) (R:LS) (h:ValsA s m w fl R):
 Tri Tryz.prog 154 [s.val, m.val, w.val, fl.val, .int .i64 t].toArray L R
  (fun v M U=>∃(p:OwL Int) (q:OwL XWatch),v=.tuple #[p.val,q.val,.int .i64 (valuesErr s m.l w.l fl.l t)]∧(p.ok 1 Jk∧q.ok 3 XWatch.cells)∧p.l=valuesV s m.l w.l fl.l t∧q.l=valuesW s m.l w.l fl.l t∧p.L 3 Jk ++ (q.L 153 XWatch.cells ++ L)=M∧R=U):=by
 obtain ⟨hs,hm,hw,hfl,hok⟩:=h;have hsR:=hs.sensors;have hcR:=hs.conds;refine Jd 152 Tryz.call154 Tryz.func154 rfl rfl rfl ?_;apply (Xaf);intro b5;apply Xb4∘Xap∘Uvg;refine q_l rfl (Kza s _ _ hs) ?_;apply (Xbi);refine q_c ?_ ?_<;>intro hc0;·
  apply Xbq∘Xb4∘Xal;refine q_r L R zld ?_;have he:valuesErr s m.l w.l fl.l t=K8 s:=by rw [valuesErr,if_pos hc0]
  exact Kzf
 have hsk:=Jka (s:=s) za;have hsl:=hsk.len;have hrl:=(Y0 hsk.air).mine.roads;apply qbo∘Xaq∘Xab∘Xb3;apply Kd (G:=[_,_,_,_,_,_]) (j:=6) (cj:=32) rfl rfl zb rfl zmb rfl;·intro hg7;replace hg7:=qb hg7;exact (Xaq∘Xab) zzd
 intro junk7;apply (qah);apply Kd (G:=[_,_,_,_,_,_,_,_]) (j:=14) (cj:=40) rfl rfl zb rfl zmb rfl;·
  intro hg15;replace hg15:=qb hg15;apply (Xaq);iterate 3 apply (qab)
  exact (Xdb) zzd
 intro junk15;apply (qaf);refine q_c ?_ ?_<;>intro hc1;·
  apply qae∘Xb4∘Xal;refine q_r L R zld ?_;have he:valuesErr s m.l w.l fl.l t=11:=by rw [valuesErr,if_neg za,if_pos za]
  exact Kzf
 apply qbo∘Xcv;apply Kd (G:=[_,_]) (j:=2) (cj:=52) rfl rfl zb rfl zmb rfl;·exact zwd
 intro junk3;apply (qaf);refine q_c ?_ ?_<;>intro hc2;·
  apply qae∘Xb4∘Xal;refine q_r L R zld ?_;have he:valuesErr s m.l w.l fl.l t=8:=by rw [valuesErr,if_neg za,if_neg za,if_pos za]
  exact Kzf
 have hve:=Zrc (s:=s) (m:=m.l) (w:=w.l) (fl:=fl.l) (t:=t) za za za;apply (qcl);refine Ydb [56,57,58,59,60,14,15] ((⟨fun g=>[(14,.slice (some ⟨g.1.1,0,none⟩) w.l.length w.l.length),(15,(⟨g.1.2,w.l⟩:OwL XWatch).val)],fun g=>(⟨.own g.1.1 w.l.length [],List.replicate w.l.length 0⟩:OwL Int).L 3 Jk ++ ((⟨g.1.2,w.l⟩:OwL XWatch).L 153 XWatch.cells ++ (⟨b5,s.cells,38⟩ :: L)),fun _=>R,fun _=>0⟩:Head {g:Nat×Ow // (⟨g.2,w.l⟩:OwL XWatch).ok 3 XWatch.cells})) ?_ ?_;·
  skip
  refine Jnc tb [] [0,1,3,2,4,5,6] [] (_) [] 7 Kr zc rfl rfl zg fun hT8=>?_;refine Yta 0 hT8 yd zc rfl rfl rfl rfl rfl zdd ?_;refine Yta 1 hT8 yd zc rfl rfl rfl rfl rfl zKb ?_;refine Yta 3 hT8 yd zc rfl rfl rfl rfl rfl zdd ?_;refine Jj [2,4] hT8 yd zc ?_;refine Js ?_ ?_;·
   skip
   refine Kw rfl zic rfl rfl ?_;rintro v M U ⟨b58,rfl,rfl,hR58⟩;replace hR58:=hR58.symm;subst hR58;apply (qa1);refine Jj [4] hT8 yd zc ?_;apply qca∘Uag;rintro v M U ⟨o60,rfl,hok60,rfl,rfl⟩;exact uaJ
  apply qca∘Uag;rintro v M U ⟨o60,rfl,hok60,rfl,rfl⟩;apply (qa1);refine Jj [2] hT8 yd zc ?_;apply (qca);refine Kw rfl zic rfl rfl ?_;rintro v M U ⟨b58,rfl,rfl,hR58⟩;replace hR58:=hR58.symm;subst hR58;exact uaJ
 rintro ⟨⟨b,o⟩,hok60⟩ junk;try dsimp only
 dsimp only at hok60;apply qbi∘Xaz;refine Jl [(1,.slice _ _ _),(2,.slice _ _ _),(3,.slice _ _ _),(4,.int _ _),(5,.pointer _),(14,.slice _ _ _),(15,.slice _ _ _),(62,.slice _ _ _),(63,.int _ _),(64,.int _ _)] zh fun tq0=>?_;refine q_p ([10,11,12,16,17,18,19,20]++rg 64 86) ((⟨fun g=>[(64,.int .i64 ((g.1.1:Nat):Int))],fun g=>(⟨.own b w.l.length [],g.1.2.1⟩:OwL Int).L 3 Jk ++ ((⟨o,g.1.2.2⟩:OwL XWatch).L 153 XWatch.cells ++ (⟨b5,s.cells,38⟩ :: L)),fun _=>R,fun g=>w.l.length - g.1.1⟩:Head {g:Nat×List Int×List XWatch // (g.1≤w.l.length∧(List.range w.l.length).findSome? (Ulf s w.l t)=((List.range w.l.length).drop g.1).findSome? (Ulf s w.l t))∧WrTo w.l.length 0 (Ylg s m.l w.l fl.l t) g.1 g.2.1∧WrO w.l (Yfg s m.l w.l t) g.1 g.2.2})) (⟨(0,List.replicate w.l.length 0,w.l),⟨by dsimp only;omega,by rw [ygb]⟩,.zero,.zero⟩) ?_;rintro ⟨⟨k,vs,ws⟩,⟨hk,hp⟩,hV,hW⟩ junk;try dsimp only
 dsimp only at hk hp hV hW;have hvl:=hV.len;have hwl:=hW.len;have hvk:(⟨.own b w.l.length [],vs⟩:OwL Int).ok 1 Jk:=by have:=Yl (f:=Jk) (wd:=1) (b:=b) (n:=w.l.length) (x:=0) U8 zF;exact OwL.len_ok U8 this (by simp;exact hvl)
 have hwk:(⟨o,ws⟩:OwL XWatch).ok 3 XWatch.cells:=OwL.len_ok yf hok60 hwl;apply (Xan);refine q_c ?_ ?_<;>intro hc3;·
  have hcg:=Jt (l:=s.conds.l) (k:=k) default za;have hwg:=Jt (l:=w.l) (k:=k) default za;have hvg:=hV.non k (ym _) za;have hwg2:=hW.old k (ym _);rw [hwg] at hwg2;have hcf:=K2b (hsk.cond _ (yi hcg));have hVn:=fun (v:Int)=>hV.next (x:=v) za;have hWn:=fun (v:XWatch)=>hW.next (x:=v) za;have hpn:=Z0 (f:=Ulf s w.l t) hp za;have hps:=fun (e:Int) (he:Ulf s w.l t k=some e)=>Yk (f:=Ulf s w.l t) hp za he;obtain ⟨c,hc⟩:∃c,c=s.conds.l.getD k default:=⟨_,rfl⟩;obtain ⟨wk,hwe⟩:∃wk,wk=w.l.getD k default:=⟨_,rfl⟩;obtain ⟨X,hX⟩:∃X,X=Y2 s.sensors.l m.l c.target t:=⟨_,rfl⟩;have hvE:Ulf s w.l t k=nzO (Koc c wk t):=by rw [hc,hwe]
  have hvV:Ylg s m.l w.l fl.l t k=Kuc s.sensors.l m.l fl.l c wk t:=by rw [hc,hwe]
  have hvW:Yfg s m.l w.l t k=Ywa s.sensors.l m.l c wk t:=by rw [hc,hwe]
  rw [← hc] at hcg hcf;rw [← hwe] at hwg hwg2;rw [hvV] at hVn;rw [hvE] at hpn hps;rw [hvW] at hWn;rw [Kuc,← hX] at hVn;rw [Koc] at hpn hps;apply (Xa4);refine Jy zC rfl ?_;refine Jy zHa rfl ?_;apply (qaq);intro b17;apply qad∘Xa0∘Uvg∘qbm∘Xah;refine q_l rfl (Zrb s m c.target t _ _ hsR hm hok za) ?_;rw [← hX];apply (qaq);intro b18;apply (Xb9);refine J7 (Jb (Kc (Jp (Jh ?_))));apply (Xax);refine q_c ?_ ?_<;>intro hc4;·
   refine Jp ?_;refine Kh tb [0,1,2,3,4,5,6,7,8,9,10,11,12,13,14] ([Blk.mk b18 _ _,Blk.mk b17 _ _]) Kr zc zg ?_;apply (qal);refine K0 zrb rfl rfl rfl ?_;refine K0 zdd rfl rfl rfl ?_;apply qao∘qds∘qdv∘qbd∘qao;refine q_d rfl (Ubf c.level wk X t _ _) ?_;refine K0 zPb rfl rfl rfl ?_;refine K0 zbc rfl rfl rfl ?_;refine K0 zbc rfl rfl rfl ?_;apply (qbr);intro b19;apply Xdp∘qc6∘qaa∘Xat;refine q_c ?_ ?_<;>intro hc5;·apply Xbq∘Xb4∘qad;refine J7 (Jb (K6 (J6 (J9 (J9 (J6 (Yb (J9 (J6 ?_)))))))));refine q_r L R zld ?_;have hfe:=hps (Zf c.level wk t) (by rw [if_pos hc4,Yic hc5]);(have he:valuesErr s m.l w.l fl.l t=Zf c.level wk t:=by rw [hve,hfe];rfl);exact Kzf
   (have hse:Zf c.level wk t=0:=by omega);rw [Zod hse];refine J3 (Jb ?_);refine J5 tb [96,97] [0,1,2,3,4,5,6,7,8,9] [10,11,12] ([Blk.mk b19 _ _,Blk.mk b18 _ _,Blk.mk b17 _ _]) _ Kr zc zg (by (repeat (first | apply List.Sublist.cons (a:=Blk.mk b15 _ _) | apply List.Sublist.cons (a:=Blk.mk b14 _ _) | apply List.Sublist.cons_cons));exact yv _) ?_;apply (Xdu);refine Vf zdd rfl rfl rfl rfl ?_;refine Vf (Jx znb) rfl rfl rfl rfl ?_;apply (Kxg);refine Kp zrc rfl rfl rfl rfl ?_;apply (Kxg);refine Kp zGb rfl rfl rfl rfl ?_;refine Ks rfl (Ucf c (Zp c.level wk X t) X _ _) rfl rfl ?_;rintro v M U ⟨rfl,rfl,rfl⟩;refine ⟨zg,zq,?_⟩;refine Kp (Jw tb ((⟨o,ws⟩:OwL XWatch)) _ rfl rfl ((show _=Value.slice _ _ _ from rfl).trans (by simp only [OwL.val,hwl])) rfl zi (i:=k) zk zw) rfl rfl rfl rfl ?_;apply (qba);refine Jnb (Uv tb ((⟨o,ws⟩:OwL XWatch)) (Zp c.level wk X t) rfl rfl rfl rfl zj zi yf zi (yW rfl) zb zb) rfl rfl ?_;rintro v M U ⟨rfl,rfl⟩;apply (qa1);refine K0 zbd rfl rfl rfl ?_;refine Jnb (Ju tb ((⟨.own b w.l.length [],vs⟩:OwL Int)) (if (Zp c.level wk X t).over=false then -1 else if Z6 X c.level.cut=1 then 1 else 0) rfl rfl rfl rfl zj zi yf zi ze zb zb) rfl rfl ?_;rintro v M U ⟨rfl,rfl⟩;apply (qa1);refine J1 (Jf (Jf (Jb (Jh ?_))));apply (Xae);exact q_k ⟨(k + 1,vs.set k (if (Zp c.level wk X t).over=false then -1 else if Z6 X c.level.cut=1 then 1 else 0),ws.set k (Zp c.level wk X t)),hpn (by rw [if_pos hc4,hse];rfl),hVn _ (by rw [if_neg (show ¬ c.kind=5 by omega),if_neg (show ¬ c.kind=2 by omega),if_neg (show ¬ c.kind=3 by omega),if_neg (show ¬ c.kind=4 by omega)]),hWn _ (by rw [Ywa,if_pos hc4,hX])⟩
  have hst:Ywa s.sensors.l m.l c wk t=wk:=by rw [Ywa,if_neg hc4]
  have hWk:=hW.stay (show w.l[k]?=some (Yfg s m.l w.l t k) by rw [hvW,hwg,hst]);have hpk:=hpn (by rw [if_neg hc4];rfl);apply (Xbj);refine q_c ?_ ?_<;>intro hc6;·apply Xcg∘qbe∘Xaa;refine q_l rfl (Zpb X c.value _ _) ?_;(have hab:-1≤Z6 X c.value∧Z6 X c.value≤1:=by rw [Z6];(repeat' split) <;> omega);apply qcq∘Jpf;refine Ye (Ju tb ((⟨.own b w.l.length [],vs⟩:OwL Int)) (-(Z6 X c.value)) rfl rfl rfl rfl zj zi yf zi ze zb zb) ?_;rintro v M U ⟨rfl,rfl⟩;refine J7 (Jf (Jf (Jb (Jh ?_))));apply (Xae);exact q_k ⟨(k + 1,vs.set k (-(Z6 X c.value)),ws),hpk,hVn _ (by rw [if_neg za,if_pos hc6]),hWk⟩
  apply (Xbj);refine q_c ?_ ?_<;>intro hc7;·apply Xcg∘qbe;refine q_l rfl (Ugd X _ _) ?_;apply (Jpf);refine Ye (Ju tb ((⟨.own b w.l.length [],vs⟩:OwL Int)) (Upa X) rfl rfl rfl rfl zj zi yf zi ze zb zb) ?_;rintro v M U ⟨rfl,rfl⟩;refine J7 (Jf (Jf (Jb (Jh ?_))));apply (Xae);exact q_k ⟨(k + 1,vs.set k (Upa X),ws),hpk,hVn _ (by rw [if_neg za,if_neg za,if_pos hc7]),hWk⟩
  apply (Xbj);refine q_c ?_ ?_<;>intro hc8;·
   apply qae∘Xas∘Jpf;refine Ye (Ju tb ((⟨.own b w.l.length [],vs⟩:OwL Int)) (-1) rfl rfl rfl rfl zj zi yf zi ze zb zb) ?_;rintro v M U ⟨rfl,rfl⟩;apply (qa4);refine Kh tb [0,1,2] ([Blk.mk b18 _ _]) Kr zc zg ?_;apply (qbd);refine q_d rfl (Ua _ _) ?_;refine K0 (Jcc Zgd rfl rfl) rfl rfl rfl ?_;apply (qbu);refine q_c ?_ ?_<;>intro hc9;·have hvk2:=OwL.set_ok (p:=(⟨.own b w.l.length [],vs⟩:OwL Int)) (i:=k) (x:= -1) U8 hvk;have hvg2:(vs.set k (-1))[k]?=some (-1):=yO za;apply (Xcg);refine Jy (Jw tb ((⟨.own b w.l.length [],vs.set k (-1)⟩:OwL Int)) _ rfl rfl ((show _=Value.slice _ _ _ from rfl).trans (Uu (by rw [yE];exact hvl))) rfl zi (i:=k) zk zw) rfl ?_;refine Ye (Ju tb ((⟨.own b w.l.length [],vs.set k (-1)⟩:OwL Int)) (1) rfl rfl rfl rfl zj zi yf zi ze zb zb) ?_;rintro v M U ⟨rfl,rfl⟩;refine J7 (Jf (Jf (Jb (Jh ?_))));apply (Xae);exact q_k ⟨(k + 1,(vs.set k (-1)).set k 1,ws),hpk,by dsimp only;rw [yDa];exact hVn _ (by rw [if_neg za,if_neg za,if_neg za,if_pos hc8,if_pos (Jfc.2 za)]),hWk⟩
   refine J3 (Jf (Jf (Jb (Jh ?_))));apply (Xae);exact q_k ⟨(k + 1,vs.set k (-1),ws),hpk,hVn _ (by rw [if_neg za,if_neg za,if_neg za,if_pos hc8,if_neg (fun e=>by rw [Jfc] at e;omega)]),hWk⟩
  apply (Xbj);refine q_c ?_ ?_<;>intro hc10;·apply Xcg∘qbm∘Xbe∘qcd;refine Y3 zLb rfl ?_;rintro v M U ⟨b143,rfl,rfl,hR143⟩;replace hR143:=hR143.symm;subst hR143;refine Jna (wd:=2) (len:=1) (cap:=1) (rows:=[XFace.cells ⟨c.target,c.value⟩]) (subs:=[]) rfl ze ze (fun r hr=>by rw [List.mem_singleton.1 hr];rfl) ze rfl yg ?_;refine Jo rfl (Juf fl ⟨some ⟨b143,0,none⟩,1,[⟨c.target,c.value⟩]⟩ _ _ (hfl.mono fun r h=>Ja (by simp [h])) zCb (fun f hf=>by rw [List.mem_singleton.1 hf];dsimp only;omega) (show 1≤1000 by decide) za) rfl ?_;rintro v M U ⟨p,rfl,hpk1,hpl,rfl,rfl⟩;rw [Y4f] at hpl;(have hp0:p.l[0]?=some (Keb fl.l ⟨c.target,c.value⟩):=by rw [hpl];rfl);(have hpn1:p.l.length=1:=by rw [hpl];rfl);(have hfb:-1≤Keb fl.l ⟨c.target,c.value⟩∧Keb fl.l ⟨c.target,c.value⟩≤1:=by rw [Keb,Y9e];(repeat' split) <;> omega);refine Jy (Jw tb (p) _ rfl rfl rfl rfl zi (i:=0) zk zw) rfl ?_;refine Jy zIb rfl ?_;apply qcq∘Jpf;refine Ye (Ju tb ((⟨.own b w.l.length [],vs⟩:OwL Int)) (-(Keb fl.l ⟨c.target,c.value⟩)) rfl rfl rfl rfl zj zi yf zi ze zb zb) ?_;rintro v M U ⟨rfl,rfl⟩;refine J7 (Jf (Jf (Jb (Jh ?_))));apply (Xae);exact Ki ⟨(k + 1,vs.set k (-(Keb fl.l ⟨c.target,c.value⟩)),ws),hpk,hVn _ (by rw [if_pos hc10]),hWk⟩ zm zh zg (fun r h=>Ja (by simp [h])) zu
  (exfalso;omega)
 obtain rfl:k=w.l.length:=by omega
 have hn:=J9a (f:=Ulf s w.l t) hp (ym _);have he:valuesErr s m.l w.l fl.l t=0:=by rw [hve,hn];rfl
 apply Xc7∘qbm∘Xb4∘Xai;refine q_r ((⟨.own b w.l.length [],vs⟩:OwL Int).L 3 Jk ++ ((⟨o,ws⟩:OwL XWatch).L 153 XWatch.cells ++ L)) R zld ?_;exact ⟨(⟨.own b w.l.length [],vs⟩:OwL Int),(⟨o,ws⟩:OwL XWatch),by rw [he,OwL.val,OwL.val,hvl,hwl];try rfl,⟨hvk,hwk⟩,by rw [valuesV,if_neg za];exact hV.done,by rw [valuesW,if_neg za];exact hW.done,rfl,rfl⟩
end
section
attribute [local irreducible] CJ LJ DJ Tri YV Gives Uq J2 Km Ur RV J4 OwL.L
section
variable {A B:Prop}
def Vff(h:B:=by exact ⟨.nil,.nil,by rw [he];rfl,⟨OwL.nil_ok,OwL.nil_ok⟩,by rw [cutsC,if_pos za],by rw [cutsN,if_pos za],by rw [Kj,Kj];rfl,rfl⟩):=h
end
def Z3d {s:XSite} {v:List Int} {c:List XCut} {k:Nat}:Vta s v c (k + 1)=if Kpa (s.zones.l.getD k default).rule.l v≠-1∧(c.getD k default).off=false then Vta s v c k ++ [(k:Int)] else Vta s v c k:=rfl
def Jyd {s : XSite} {v : List Int} {c : List XCut} : ∀ n, (Vta s v c n).length ≤ n
 | 0=>by simp [Vta]
 | n + 1=>by
  have:=Jyd (s:=s) (v:=v) (c:=c) n
  rw [Vta]
  split
  ·rw [yj,yn];omega
  ·omega
def Jcf (s:XSite) (u:Arr Int) (c:Arr XCut) (t:Int) (L:LB) (R:LS) (hs:SiteR s R) (hv:InR (isl u) R) (hc:InR (Uyc c) R):
 Tri Tryz.prog 155 [s.val, u.val, c.val, .int .i64 t].toArray L R
  (fun z M U=>∃(p:OwL XCut) (q:OwL Int),z=.tuple #[p.val,q.val,.int .i64 (cutsErr s u.l c.l t)]∧(p.ok 3 XCut.cells∧q.ok 1 Jk)∧p.l=cutsC s u.l c.l t∧q.l=cutsN s u.l c.l t∧q.L 3 Jk ++ (p.L 71 XCut.cells ++ L)=M∧R=U):=by
 have hzR:=hs.zones;refine Jd 93 Tryz.call155 Tryz.func155 rfl rfl rfl ?_;apply (Xaf);intro b4;apply Xb4∘Xap;refine Jy zvb rfl ?_;refine q_l rfl (Kza s _ _ hs) ?_;apply (Xbi);refine q_c ?_ ?_<;>intro hc0;·
  apply Xbq∘Xb4∘Xal;refine q_r L R zld ?_;have he:cutsErr s u.l c.l t=K8 s:=by rw [cutsErr,if_pos hc0]
  exact Vff
 have hsk:=Jka (s:=s) za;have hsl:=hsk.len;apply qbo∘Xaq∘Xab∘Xb3;apply Kd (G:=[_,_,_,_,_,_]) (j:=6) (cj:=29) rfl rfl zb rfl zmb rfl;·intro hg7;replace hg7:=qb hg7;exact (Xaq∘Xab) zzd
 intro junk7;apply (qaf);refine q_c ?_ ?_<;>intro hc1;·
  apply qae∘Xb4∘Xal;refine q_r L R zld ?_;have he:cutsErr s u.l c.l t=11:=by rw [cutsErr,if_neg za,if_pos za]
  exact Vff
 apply qbo∘Xcv;apply Kd (G:=[_,_]) (j:=2) (cj:=39) rfl rfl zb rfl zmb rfl;·exact zwd
 intro junk3;apply (qaf);refine q_c ?_ ?_<;>intro hc2;·
  apply qae∘Xb4∘Xal;refine q_r L R zld ?_;have he:cutsErr s u.l c.l t=8:=by rw [cutsErr,if_neg za,if_neg za,if_pos za]
  exact Vff
 have he:cutsErr s u.l c.l t=0:=by rw [cutsErr,if_neg za,if_neg za,if_neg za]
 apply (Xdy);refine Y3 (Ku (f:=XCut.cells) (xs:=c) tb rfl rfl rfl ze rfl rfl (hc) yf za) rfl ?_;rintro v M U ⟨o44,rfl,hok44,rfl,rfl⟩;apply (Xdj);obtain ⟨OO,hOO⟩:∃OO,OO=o44:=⟨_,rfl⟩;rw [← hOO] at hok44 ⊢;apply qay∘Xbz∘Xaz;refine Jl [(1,.slice _ _ _),(3,.int _ _),(12,.slice _ _ _),(13,.slice _ _ _),(46,.slice _ _ _),(47,.int _ _),(48,.int _ _)] zh fun tq0=>?_;refine Ub ([13,14,15,16,17]++rg 48 43) ((⟨fun g=>[(48,.int .i64 ((g.1.1:Nat):Int)),(13,g.1.2.2.val)],fun g=>g.1.2.2.L 3 Jk ++ ((⟨OO,g.1.2.1⟩:OwL XCut).L 71 XCut.cells ++ (⟨b4,s.cells,38⟩ :: L)),fun _=>R,fun g=>c.l.length - g.1.1⟩:Head {g:Nat×List XCut×OwL Int // g.1≤c.l.length∧WrO c.l (cutAt s u.l c.l t) g.1 g.2.1∧g.2.2.ok 1 Jk∧g.2.2.l=Vta s u.l c.l g.1})) (⟨(0,c.l,OwL.nil),by dsimp only;omega,.zero,OwL.nil_ok,rfl⟩) zh zK zBb ?_;rintro ⟨⟨k,cs,q⟩,hk,hW,hqk,hql⟩ junk;try dsimp only
 dsimp only at hk hW hqk hql;have hwl:=hW.len;have hck:(⟨OO,cs⟩:OwL XCut).ok 3 XCut.cells:=OwL.len_ok yf hok44 hwl;have hqn:q.l.length≤k:=by rw [hql];exact Jyd k
 apply (Xan);refine q_c ?_ ?_<;>intro hc3;·
  have hzg:=Jt (l:=s.zones.l) (k:=k) default za;have hcg0:=Jt (l:=c.l) (k:=k) default za;have hcg:=hW.old k (ym _);rw [hcg0] at hcg;have hWn:=fun (x:XCut)=>hW.next (x:=x) za;have hWs:=hW.stay (i:=k);have hns:=Z3d (s:=s) (v:=u.l) (c:=c.l) (k:=k);obtain ⟨z,hz⟩:∃z,z=s.zones.l.getD k default:=⟨_,rfl⟩;obtain ⟨ck,hcke⟩:∃ck,ck=c.l.getD k default:=⟨_,rfl⟩;obtain ⟨V,hV⟩:∃V,V=Kpa z.rule.l u.l:=⟨_,rfl⟩;have hat:cutAt s u.l c.l t k=Upf V ck t:=by rw [cutAt,hV,hz,hcke]
  rw [← hz] at hzg;rw [← hcke] at hcg hcg0;rw [← hz,← hcke,← hV] at hns;rw [hat] at hWn;rw [hat,hcg0] at hWs;apply (Xa4);refine Jy zC rfl ?_;apply (Xcs);intro b15;apply qad∘Xa0∘Xas;refine Jy (Jw tb ((⟨OO,cs⟩:OwL XCut)) _ rfl rfl ((show _=Value.slice _ _ _ from rfl).trans (by simp only [OwL.val,hwl])) rfl zi (i:=k) zk zw) rfl ?_;apply qc1∘Xcz∘qbm;refine q_l rfl (Kgc z.rule u _ _ (InR.rule hzR hzg) hv) ?_;rw [← hV];apply Xby∘Xbm;refine q_c ?_ ?_<;>intro hc4;·
   apply qbi∘qa6;refine Jy zSb rfl ?_;apply (qb0);refine Jy (Ke tb ((⟨OO,cs⟩:OwL XCut)) rfl rfl rfl zj zi yf zi zb) rfl ?_;apply (Xbm);refine q_c ?_ ?_<;>intro hc5;·apply qay∘Xb6;refine Jy zSb rfl ?_;apply (qb0);refine Ye (Ju tb ((⟨OO,cs⟩:OwL XCut)) (⟨ck.off,t,ck.reason⟩) rfl rfl rfl rfl zj zi yf zi ze zb zb) ?_;rintro v M U ⟨rfl,rfl⟩;refine J7 (Jb (K7 (Kq (Kb (Jb (Jh ?_))))));apply (Xae);exact q_k ⟨(k + 1,cs.set k ⟨ck.off,t,ck.reason⟩,q),by dsimp only;omega,hWn _ (by rw [Upf,if_pos hc4,if_pos hc5]),hqk,by dsimp only;rw [hns,if_neg za];exact hql⟩
   refine J3 (Jb (K7 (Kq (Kb (Jb (Jh ?_))))));apply (Xae);exact q_k ⟨(k + 1,cs,q),by dsimp only;omega,hWs (by rw [Upf,if_pos hc4,if_neg hc5]),hqk,by dsimp only;rw [hns,if_neg za];exact hql⟩
  apply qbv∘qa6;refine Jy zSb rfl ?_;apply (qb0);refine Ye (Ju tb ((⟨OO,cs⟩:OwL XCut)) (⟨ck.off,-1,ck.reason⟩) rfl rfl rfl rfl zj zi yf zi ze zb zb) ?_;rintro v M U ⟨rfl,rfl⟩;apply (qa4);have hck1:=OwL.set_ok (f:=XCut.cells) (wd:=3) (p:=(⟨OO,cs⟩:OwL XCut)) (i:=k) (x:=⟨ck.off,-1,ck.reason⟩) yf hck;have hcg1:(cs.set k ⟨ck.off,-1,ck.reason⟩)[k]?=some ⟨ck.off,-1,ck.reason⟩:=yO za;apply (Xc0);refine Jy zSb rfl ?_;apply (qb0);refine Jy (Ke tb ((⟨OO,cs.set k ⟨ck.off,-1,ck.reason⟩⟩:OwL XCut)) rfl rfl rfl zj zi yf zi zb) rfl ?_;apply (Xbl);refine q_c ?_ ?_<;>intro hc6;·have hck2:=OwL.set_ok (f:=XCut.cells) (wd:=3) (p:=(⟨OO,cs.set k ⟨ck.off,-1,ck.reason⟩⟩:OwL XCut)) (i:=k) (x:=⟨true,-1,ck.reason⟩) yf hck1;have hcg2:((cs.set k ⟨ck.off,-1,ck.reason⟩).set k ⟨true,-1,ck.reason⟩)[k]?=some ⟨true,-1,ck.reason⟩:=yO zqa;apply qae∘qa6∘Xb6;refine Jy zSb rfl ?_;apply (qb0);refine Ye (Ju tb ((⟨OO,cs.set k ⟨ck.off,-1,ck.reason⟩⟩:OwL XCut)) (⟨true,-1,ck.reason⟩) rfl rfl rfl rfl zj zi yf zi ze zb zb) ?_;rintro v M U ⟨rfl,rfl⟩;refine Jy zSb rfl ?_;apply (qb0);refine Ye (Ju tb ((⟨OO,(cs.set k ⟨ck.off,-1,ck.reason⟩).set k ⟨true,-1,ck.reason⟩⟩:OwL XCut)) (⟨true,-1,V⟩) rfl rfl rfl rfl zj zi yf zi ze zb zb) ?_;rintro v M U ⟨rfl,rfl⟩;refine J7 (Jb (Jh ?_));apply Xas∘qcx;rintro v M U ⟨b88,rfl,rfl,hR88⟩;replace hR88:=hR88.symm;subst hR88;refine Y3 (Jv (f:=Jk) (a:=(k:Int)) tb rfl rfl rfl rfl (hqk) zj zwb rfl zA) rfl ?_;rintro v M U ⟨o89,rfl,hok89,rfl,rfl⟩;apply qc4∘Xa8;exact q_k ⟨(k + 1,((cs.set k ⟨ck.off,-1,ck.reason⟩).set k ⟨true,-1,ck.reason⟩).set k ⟨true,-1,V⟩,(⟨o89,_⟩:OwL Int)),by dsimp only;omega,by dsimp only;rw [yDa,yDa];exact hWn _ (by rw [Upf,if_neg hc4,if_neg (by simpa using hc6)]),hok89,by dsimp only;rw [hns,if_pos ⟨hc4,by simpa using hc6⟩,hql]⟩
  apply (Xay);exact q_k ⟨(k + 1,cs.set k ⟨ck.off,-1,ck.reason⟩,q),by dsimp only;omega,hWn _ (by rw [Upf,if_neg hc4,if_pos (by simpa using hc6)];rw [show ck.off=true by simpa using hc6]),hqk,by dsimp only;rw [hns,if_neg (fun h=>by have:=h.2;simp [this] at hc6)];exact hql⟩
 obtain rfl:k=c.l.length:=by omega
 apply Xc7∘qbm∘Xb4∘Xai;refine q_r (q.L 3 Jk ++ ((⟨OO,cs⟩:OwL XCut).L 71 XCut.cells ++ L)) R zld ?_;exact ⟨(⟨OO,cs⟩:OwL XCut),q,by rw [he,OwL.val,OwL.val,hwl];try rfl,⟨hck,hqk⟩,by rw [cutsC,if_neg za];exact hW.done,by rw [cutsN,if_neg za];exact hql,rfl,rfl⟩
end
end Go.Proofs.YtchfclmokpbldaaGreat
