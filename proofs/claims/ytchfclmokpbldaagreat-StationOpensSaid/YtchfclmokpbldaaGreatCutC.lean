/-
  Merged texts. By an AI agent.
-/
import Derived.Test.YtchfclmokpbldaaGreatCutB
import Derived.Test.YtchfclmokpbldaaGreatRestA
import Derived.Test.YtchfclmokpbldaaGreatDrawR
import Derived.Test.YtchfclmokpbldaaGreatRuleR
set_option linter.all false
set_option maxHeartbeats 4000000
set_option maxRecDepth 20000
namespace Go.Proofs.YtchfclmokpbldaaGreat
open Go.Aw Go
section
attribute [local irreducible] CJ LJ DJ Tri YV Gives U7 Kb Kp U8 RV Ke OwL.L
section
variable {A B:Prop}
def Voe(h:B:=by exact ⟨.nil,.nil,by rw [he];rfl,⟨OwL.nil_ok,OwL.nil_ok⟩,by rw [valuesV,if_pos zc],by rw [valuesW,if_pos zc],by rw [Kr,Kr];rfl,rfl⟩):=h
def Uxe(h:A→B:=by exact J0 zod rfl):=h
def Kag(h:A→B:=by exact J0 zxb rfl):=h
def Vlf(h:A→B:=by exact K3 rfl (K6 (f:=XWatch.cells) (xs:=w) tb rfl rfl rfl zj rfl rfl (hw) yf zc) rfl rfl):=h
def Zhf(h:A→B:=by exact Zta 5 hT8 yd zf rfl rfl rfl rfl rfl (Ux zvb)):=h
def Y8f(h:A→B:=by exact Zta 6 hT8 yd zf rfl rfl rfl rfl rfl (Ux zvb)):=h
def Ytf(h:A→B:=by exact Kz zzb rfl rfl rfl rfl):=h
end
def Kbf {fl:List XSpan} {f:XFace}:Ubg fl [f]=[J9b fl f]:=rfl
abbrev Z4e (s:XSite) (w:List XWatch) (t:Int):Nat→Option Int:=fun i=>nzO (Jxc (s.conds.l.getD i default) (w.getD i default) t)
abbrev Udg (s:XSite) (m:List XMeas) (w:List XWatch) (fl:List XSpan) (t:Int):Nat→Int:=fun i=>Ugb s.sensors.l m fl (s.conds.l.getD i default) (w.getD i default) t
abbrev Kxg (s:XSite) (m:List XMeas) (w:List XWatch) (t:Int):Nat→XWatch:=fun i=>V2a s.sensors.l m (s.conds.l.getD i default) (w.getD i default) t
structure ValsA (s:XSite) (m:Arr XMeas) (w:Arr XWatch) (fl:Arr XSpan) (R:LS):Prop where
 site:SiteR s R
 mR:InR (V3a m) R
 wR:InR (Zrc w) R
 flR:InR (J2c fl) R
 ok:∀x∈m.l,Uua x
def V5c {s:XSite} {m:List XMeas} {w:List XWatch} {fl:List XSpan} {t:Int} (h0:K7 s=0) (h1:m.length=s.sensors.l.length∧w.length=s.conds.l.length∧fl.length=s.air.mine.roads.l.length) (h2:¬ (t < 0∨2147483648 < t)):valuesErr s m w fl t=((List.range w.length).findSome? (Z4e s w t)).getD 0:=by rw [valuesErr,if_neg zc,if_neg (fun h=>h h1),if_neg h2]
def Yrd (s:XSite) (m:Arr XMeas) (w:Arr XWatch) (fl:Arr XSpan) (t:Int) (L:LB) (R:LS) (h:ValsA s m w fl R):
 Tri Tryz.prog 154 [s.val, m.val, w.val, fl.val, .int .i64 t].toArray L R
  (fun v M U=>∃(p:OwL Int) (q:OwL XWatch),v=.tuple #[p.val,q.val,.int .i64 (valuesErr s m.l w.l fl.l t)]∧(p.ok 1 Jj∧q.ok 3 XWatch.cells)∧p.l=valuesV s m.l w.l fl.l t∧q.l=valuesW s m.l w.l fl.l t∧p.L 3 Jj ++ (q.L 153 XWatch.cells ++ L)=M∧R=U):=by
 obtain ⟨hs,hm,hw,hfl,hok⟩:=h;have hsR:=hs.sensors;have hcR:=hs.conds;refine Jd 152 Tryz.call154 Tryz.func154 rfl rfl rfl ?_;apply (Xag);intro b5;apply Xb7∘Xau∘Kag;refine q_l rfl (Kka s _ _ hs) ?_;apply (Xbj);refine q_c ?_ ?_<;>intro hc0;·
  apply Xbn∘Xb7∘Xav;refine q_r L R zDd ?_;have he:valuesErr s m.l w.l fl.l t=K7 s:=by rw [valuesErr,if_pos hc0]
  exact Voe
 have hsk:=Ys (s:=s) zc;have hsl:=hsk.len;have hrl:=(Ve hsk.air).mine.roads;apply qbo∘Xaq∘Xab∘Xb8;apply J3 (G:=[_,_,_,_,_,_]) (j:=6) (cj:=32) rfl rfl ze rfl ztb rfl;·intro hg7;replace hg7:=qb hg7;exact (Xaq∘Xab) zUd
 intro junk7;apply (qah);apply J3 (G:=[_,_,_,_,_,_,_,_]) (j:=14) (cj:=40) rfl rfl ze rfl ztb rfl;·
  intro hg15;replace hg15:=qb hg15;apply (Xaq);iterate 3 apply (qab)
  exact (Xcc) zUd
 intro junk15;apply (qaf);refine q_c ?_ ?_<;>intro hc1;·
  apply qae∘Xb7∘Xav;refine q_r L R zDd ?_;have he:valuesErr s m.l w.l fl.l t=11:=by rw [valuesErr,if_neg zc,if_pos zc]
  exact Voe
 apply qbo∘Xcf;apply J3 (G:=[_,_]) (j:=2) (cj:=52) rfl rfl ze rfl ztb rfl;·exact zPd
 intro junk3;apply (qaf);refine q_c ?_ ?_<;>intro hc2;·
  apply qae∘Xb7∘Xav;refine q_r L R zDd ?_;have he:valuesErr s m.l w.l fl.l t=8:=by rw [valuesErr,if_neg zc,if_neg zc,if_pos zc]
  exact Voe
 have hve:=V5c (s:=s) (m:=m.l) (w:=w.l) (fl:=fl.l) (t:=t) zc zc zc;apply (qcl);refine U3c [56,57,58,59,60,14,15] ((⟨fun g=>[(14,.slice (some ⟨g.1.1,0,none⟩) w.l.length w.l.length),(15,(⟨g.1.2,w.l⟩:OwL XWatch).val)],fun g=>(⟨.own g.1.1 w.l.length [],List.replicate w.l.length 0⟩:OwL Int).L 3 Jj ++ ((⟨g.1.2,w.l⟩:OwL XWatch).L 153 XWatch.cells ++ (⟨b5,s.cells,38⟩ :: L)),fun _=>R,fun _=>0⟩:Head {g:Nat×Ow // (⟨g.2,w.l⟩:OwL XWatch).ok 3 XWatch.cells})) ?_ ?_;·
  skip
  refine Ubc tb [] [0,1,3,2,4,5,6] [] (_) [] 7 Kn zf rfl rfl zk fun hT8=>?_;refine Zta 0 hT8 yd zf rfl rfl rfl rfl rfl zrd ?_;refine Zta 1 hT8 yd zf rfl rfl rfl rfl rfl zHb ?_;refine Zta 3 hT8 yd zf rfl rfl rfl rfl rfl zrd ?_;refine Jl [2,4] hT8 yd zf ?_;refine Jx ?_ ?_;·
   skip
   refine K3 rfl zoc rfl rfl ?_;rintro v M U ⟨b58,rfl,rfl,hR58⟩;replace hR58:=hR58.symm;subst hR58;apply (qa1);refine Jl [4] hT8 yd zf ?_;apply qca∘Vlf;rintro v M U ⟨o60,rfl,hok60,rfl,rfl⟩;exact ua0
  apply qca∘Vlf;rintro v M U ⟨o60,rfl,hok60,rfl,rfl⟩;apply (qa1);refine Jl [2] hT8 yd zf ?_;apply (qca);refine K3 rfl zoc rfl rfl ?_;rintro v M U ⟨b58,rfl,rfl,hR58⟩;replace hR58:=hR58.symm;subst hR58;exact ua0
 rintro ⟨⟨b,o⟩,hok60⟩ junk;try dsimp only
 dsimp only at hok60;apply qbi∘Xbh;refine Jh [(1,.slice _ _ _),(2,.slice _ _ _),(3,.slice _ _ _),(4,.int _ _),(5,.pointer _),(14,.slice _ _ _),(15,.slice _ _ _),(62,.slice _ _ _),(63,.int _ _),(64,.int _ _)] zg fun tq0=>?_;refine q_p ([10,11,12,16,17,18,19,20]++rg 64 86) ((⟨fun g=>[(64,.int .i64 ((g.1.1:Nat):Int))],fun g=>(⟨.own b w.l.length [],g.1.2.1⟩:OwL Int).L 3 Jj ++ ((⟨o,g.1.2.2⟩:OwL XWatch).L 153 XWatch.cells ++ (⟨b5,s.cells,38⟩ :: L)),fun _=>R,fun g=>w.l.length - g.1.1⟩:Head {g:Nat×List Int×List XWatch // (g.1≤w.l.length∧(List.range w.l.length).findSome? (Z4e s w.l t)=((List.range w.l.length).drop g.1).findSome? (Z4e s w.l t))∧WrTo w.l.length 0 (Udg s m.l w.l fl.l t) g.1 g.2.1∧WrO w.l (Kxg s m.l w.l t) g.1 g.2.2})) (⟨(0,List.replicate w.l.length 0,w.l),⟨by dsimp only;omega,by rw [yib]⟩,.zero,.zero⟩) ?_;rintro ⟨⟨k,vs,ws⟩,⟨hk,hp⟩,hV,hW⟩ junk;try dsimp only
 dsimp only at hk hp hV hW;have hvl:=hV.len;have hwl:=hW.len;have hvk:(⟨.own b w.l.length [],vs⟩:OwL Int).ok 1 Jj:=by have:=Yj (f:=Jj) (wd:=1) (b:=b) (n:=w.l.length) (x:=0) Uw zF;exact OwL.len_ok Uw this (by simp;exact hvl)
 have hwk:(⟨o,ws⟩:OwL XWatch).ok 3 XWatch.cells:=OwL.len_ok yf hok60 hwl;apply (Xay);refine q_c ?_ ?_<;>intro hc3;·
  have hcg:=Js (l:=s.conds.l) (k:=k) default zc;have hwg:=Js (l:=w.l) (k:=k) default zc;have hvg:=hV.non k (yn _) zc;have hwg2:=hW.old k (yn _);rw [hwg] at hwg2;have hcf:=Vnc (hsk.cond _ (yi hcg));have hVn:=fun (v:Int)=>hV.next (x:=v) zc;have hWn:=fun (v:XWatch)=>hW.next (x:=v) zc;have hpn:=Va (f:=Z4e s w.l t) hp zc;have hps:=fun (e:Int) (he:Z4e s w.l t k=some e)=>Ul (f:=Z4e s w.l t) hp zc he;obtain ⟨c,hc⟩:∃c,c=s.conds.l.getD k default:=⟨_,rfl⟩;obtain ⟨wk,hwe⟩:∃wk,wk=w.l.getD k default:=⟨_,rfl⟩;obtain ⟨X,hX⟩:∃X,X=Ze s.sensors.l m.l c.target t:=⟨_,rfl⟩;have hvE:Z4e s w.l t k=nzO (Jxc c wk t):=by rw [hc,hwe]
  have hvV:Udg s m.l w.l fl.l t k=Ugb s.sensors.l m.l fl.l c wk t:=by rw [hc,hwe]
  have hvW:Kxg s m.l w.l t k=V2a s.sensors.l m.l c wk t:=by rw [hc,hwe]
  rw [← hc] at hcg hcf;rw [← hwe] at hwg hwg2;rw [hvV] at hVn;rw [hvE] at hpn hps;rw [hvW] at hWn;rw [Ugb,← hX] at hVn;rw [Jxc] at hpn hps;apply (Xbv);refine J0 zC rfl ?_;refine J0 zRa rfl ?_;apply (qaq);intro b17;apply qad∘Xbe∘Kag∘qbm∘Xaf;refine q_l rfl (Zwc s m c.target t _ _ hsR hm hok zc) ?_;rw [← hX];apply (qaq);intro b18;apply (Xcv);refine J6 (Ja (Jy (Ji (Je ?_))));apply (Xba);refine q_c ?_ ?_<;>intro hc4;·
   refine Ji ?_;refine Kg tb [0,1,2,3,4,5,6,7,8,9,10,11,12,13,14] ([Blk.mk b18 _ _,Blk.mk b17 _ _]) Kn zf zk ?_;apply (qal);refine Kq zzb rfl rfl rfl ?_;refine Kq zrd rfl rfl rfl ?_;apply Xdo∘qdv∘qbd∘qao;refine q_d rfl (Yoe c.level wk X t _ _) ?_;refine Kq zcc rfl rfl rfl ?_;refine Kq zkc rfl rfl rfl ?_;refine Kq zkc rfl rfl rfl ?_;apply (qbr);intro b19;apply qbg∘qcg∘qc6∘qaa∘Xaw;refine q_c ?_ ?_<;>intro hc5;·apply Xbn∘Xb7∘qad;refine J6 (Ja (Ud (J1 (Jv (Jv (J1 (K9 (Jv (J1 ?_)))))))));refine q_r L R zDd ?_;have hfe:=hps (Zq c.level wk t) (by rw [if_pos hc4,Kpb hc5]);(have he:valuesErr s m.l w.l fl.l t=Zq c.level wk t:=by rw [hve,hfe];rfl);exact Voe
   (have hse:Zq c.level wk t=0:=by omega);rw [Vmd hse];refine Jt (Ja ?_);refine Kh tb [96,97] [0,1,2,3,4,5,6,7,8,9] [10,11,12] ([Blk.mk b19 _ _,Blk.mk b18 _ _,Blk.mk b17 _ _]) _ Kn zf zk (by (repeat (first | apply List.Sublist.cons (a:=Blk.mk b15 _ _) | apply List.Sublist.cons (a:=Blk.mk b14 _ _) | apply List.Sublist.cons_cons));exact yu _) ?_;apply (Xey);refine V6 zrd rfl rfl rfl rfl ?_;refine V6 (J2 zub) rfl rfl rfl rfl ?_;apply (Ytf);refine Kz zCc rfl rfl rfl rfl ?_;apply (Ytf);refine Kz zKb rfl rfl rfl rfl ?_;refine Kv rfl (Vae c (Jba c.level wk X t) X _ _) rfl rfl ?_;rintro v M U ⟨rfl,rfl,rfl⟩;refine ⟨zk,zu,?_⟩;refine Kz (Jo tb ((⟨o,ws⟩:OwL XWatch)) _ rfl rfl ((show _=Value.slice _ _ _ from rfl).trans (by simp only [OwL.val,hwl])) rfl zi (i:=k) zo zw) rfl rfl rfl rfl ?_;apply (qba);refine Jwb (Vm tb ((⟨o,ws⟩:OwL XWatch)) (Jba c.level wk X t) rfl rfl rfl rfl zm zi yf zi (yX rfl) ze ze) rfl rfl ?_;rintro v M U ⟨rfl,rfl⟩;apply (qa1);refine Kq zod rfl rfl rfl ?_;refine Jwb (Jp tb ((⟨.own b w.l.length [],vs⟩:OwL Int)) (if (Jba c.level wk X t).over=false then -1 else if Jpa X c.level.cut=1 then 1 else 0) rfl rfl rfl rfl zm zi yf zi zj ze ze) rfl rfl ?_;rintro v M U ⟨rfl,rfl⟩;apply (qa1);refine J9 (Jg (Jg (Ja (Je ?_))));apply (Xan);exact q_k ⟨(k + 1,vs.set k (if (Jba c.level wk X t).over=false then -1 else if Jpa X c.level.cut=1 then 1 else 0),ws.set k (Jba c.level wk X t)),hpn (by rw [if_pos hc4,hse];rfl),hVn _ (by rw [if_neg (show ¬ c.kind=5 by omega),if_neg (show ¬ c.kind=2 by omega),if_neg (show ¬ c.kind=3 by omega),if_neg (show ¬ c.kind=4 by omega)]),hWn _ (by rw [V2a,if_pos hc4,hX])⟩
  have hst:V2a s.sensors.l m.l c wk t=wk:=by rw [V2a,if_neg hc4]
  have hWk:=hW.stay (show w.l[k]?=some (Kxg s m.l w.l t k) by rw [hvW,hwg,hst]);have hpk:=hpn (by rw [if_neg hc4];rfl);apply (Xbx);refine q_c ?_ ?_<;>intro hc6;·apply Xcl∘qbe∘Xaa;refine q_l rfl (Zlb X c.value _ _) ?_;(have hab:-1≤Jpa X c.value∧Jpa X c.value≤1:=by rw [Jpa];(repeat' split) <;> omega);apply qcq∘Uxe;refine V5 (Jp tb ((⟨.own b w.l.length [],vs⟩:OwL Int)) (-(Jpa X c.value)) rfl rfl rfl rfl zm zi yf zi zj ze ze) ?_;rintro v M U ⟨rfl,rfl⟩;refine J6 (Jg (Jg (Ja (Je ?_))));apply (Xan);exact q_k ⟨(k + 1,vs.set k (-(Jpa X c.value)),ws),hpk,hVn _ (by rw [if_neg zc,if_pos hc6]),hWk⟩
  apply (Xbx);refine q_c ?_ ?_<;>intro hc7;·apply Xcl∘qbe;refine q_l rfl (Jvd X _ _) ?_;apply (Uxe);refine V5 (Jp tb ((⟨.own b w.l.length [],vs⟩:OwL Int)) (K6a X) rfl rfl rfl rfl zm zi yf zi zj ze ze) ?_;rintro v M U ⟨rfl,rfl⟩;refine J6 (Jg (Jg (Ja (Je ?_))));apply (Xan);exact q_k ⟨(k + 1,vs.set k (K6a X),ws),hpk,hVn _ (by rw [if_neg zc,if_neg zc,if_pos hc7]),hWk⟩
  apply (Xbx);refine q_c ?_ ?_<;>intro hc8;·
   apply Xee∘Uxe;refine V5 (Jp tb ((⟨.own b w.l.length [],vs⟩:OwL Int)) (-1) rfl rfl rfl rfl zm zi yf zi zj ze ze) ?_;rintro v M U ⟨rfl,rfl⟩;apply (qa4);refine Kg tb [0,1,2] ([Blk.mk b18 _ _]) Kn zf zk ?_;apply (qbd);refine q_d rfl (V0 _ _) ?_;refine Kq (Jpb Vjd rfl rfl) rfl rfl rfl ?_;apply (qbu);refine q_c ?_ ?_<;>intro hc9;·have hvk2:=OwL.set_ok (p:=(⟨.own b w.l.length [],vs⟩:OwL Int)) (i:=k) (x:= -1) Uw hvk;have hvg2:(vs.set k (-1))[k]?=some (-1):=yB zc;apply (Xcl);refine J0 (Jo tb ((⟨.own b w.l.length [],vs.set k (-1)⟩:OwL Int)) _ rfl rfl ((show _=Value.slice _ _ _ from rfl).trans (Uq (by rw [yN];exact hvl))) rfl zi (i:=k) zo zw) rfl ?_;refine V5 (Jp tb ((⟨.own b w.l.length [],vs.set k (-1)⟩:OwL Int)) (1) rfl rfl rfl rfl zm zi yf zi zj ze ze) ?_;rintro v M U ⟨rfl,rfl⟩;refine J6 (Jg (Jg (Ja (Je ?_))));apply (Xan);exact q_k ⟨(k + 1,(vs.set k (-1)).set k 1,ws),hpk,by dsimp only;rw [yra];exact hVn _ (by rw [if_neg zc,if_neg zc,if_neg zc,if_pos hc8,if_pos (K4b.2 zc)]),hWk⟩
   refine Jt (Jg (Jg (Ja (Je ?_))));apply (Xan);exact q_k ⟨(k + 1,vs.set k (-1),ws),hpk,hVn _ (by rw [if_neg zc,if_neg zc,if_neg zc,if_pos hc8,if_neg (fun e=>by rw [K4b] at e;omega)]),hWk⟩
  apply (Xbx);refine q_c ?_ ?_<;>intro hc10;·apply Xcl∘qbm∘Xbl∘qcd;refine Y6 zFb rfl ?_;rintro v M U ⟨b143,rfl,rfl,hR143⟩;replace hR143:=hR143.symm;subst hR143;refine Ksa (wd:=2) (len:=1) (cap:=1) (rows:=[XFace.cells ⟨c.target,c.value⟩]) (subs:=[]) rfl zj zj (fun r hr=>by rw [List.mem_singleton.1 hr];rfl) zj rfl yg ?_;refine Ju rfl (Vee fl ⟨some ⟨b143,0,none⟩,1,[⟨c.target,c.value⟩]⟩ _ _ (hfl.mono fun r h=>Jb (by simp [h])) zRb (fun f hf=>by rw [List.mem_singleton.1 hf];dsimp only;omega) (show 1≤1000 by decide) zc) rfl ?_;rintro v M U ⟨p,rfl,hpk1,hpl,rfl,rfl⟩;rw [Kbf] at hpl;(have hp0:p.l[0]?=some (J9b fl.l ⟨c.target,c.value⟩):=by rw [hpl];rfl);(have hpn1:p.l.length=1:=by rw [hpl];rfl);(have hfb:-1≤J9b fl.l ⟨c.target,c.value⟩∧J9b fl.l ⟨c.target,c.value⟩≤1:=by rw [J9b,Uke];(repeat' split) <;> omega);refine J0 (Jo tb (p) _ rfl rfl rfl rfl zi (i:=0) zo zw) rfl ?_;refine J0 zGb rfl ?_;apply qcq∘Uxe;refine V5 (Jp tb ((⟨.own b w.l.length [],vs⟩:OwL Int)) (-(J9b fl.l ⟨c.target,c.value⟩)) rfl rfl rfl rfl zm zi yf zi zj ze ze) ?_;rintro v M U ⟨rfl,rfl⟩;refine J6 (Jg (Jg (Ja (Je ?_))));apply (Xan);exact Ka ⟨(k + 1,vs.set k (-(J9b fl.l ⟨c.target,c.value⟩)),ws),hpk,hVn _ (by rw [if_pos hc10]),hWk⟩ zp zg zk (fun r h=>Jb (by simp [h])) zt
  (exfalso;omega)
 obtain rfl:k=w.l.length:=by omega
 have hn:=V2 (f:=Z4e s w.l t) hp (yn _);have he:valuesErr s m.l w.l fl.l t=0:=by rw [hve,hn];rfl
 apply qbk∘qbm∘qbm∘Xb7∘Xam;refine q_r ((⟨.own b w.l.length [],vs⟩:OwL Int).L 3 Jj ++ ((⟨o,ws⟩:OwL XWatch).L 153 XWatch.cells ++ L)) R zDd ?_;exact ⟨(⟨.own b w.l.length [],vs⟩:OwL Int),(⟨o,ws⟩:OwL XWatch),by rw [he,OwL.val,OwL.val,hvl,hwl];try rfl,⟨hvk,hwk⟩,by rw [valuesV,if_neg zc];exact hV.done,by rw [valuesW,if_neg zc];exact hW.done,rfl,rfl⟩
end
section
attribute [local irreducible] CJ LJ DJ Tri YV Gives U7 Kb Kp U8 RV Ke OwL.L
section
variable {A B:Prop}
def Kff(h:B:=by exact ⟨.nil,.nil,by rw [he];rfl,⟨OwL.nil_ok,OwL.nil_ok⟩,by rw [cutsC,if_pos zc],by rw [cutsN,if_pos zc],by rw [Kr,Kr];rfl,rfl⟩):=h
end
def Zhd {s:XSite} {v:List Int} {c:List XCut} {k:Nat}:U4a s v c (k + 1)=if V5a (s.zones.l.getD k default).rule.l v≠-1∧(c.getD k default).off=false then U4a s v c k ++ [(k:Int)] else U4a s v c k:=rfl
def Zfc {s : XSite} {v : List Int} {c : List XCut} : ∀ n, (U4a s v c n).length ≤ n
 | 0=>by simp [U4a]
 | n + 1=>by
  have:=Zfc (s:=s) (v:=v) (c:=c) n
  rw [U4a]
  split
  ·rw [yj,ym];omega
  ·omega
def Vue (s:XSite) (u:Arr Int) (c:Arr XCut) (t:Int) (L:LB) (R:LS) (hs:SiteR s R) (hv:InR (isl u) R) (hc:InR (J6c c) R):
 Tri Tryz.prog 155 [s.val, u.val, c.val, .int .i64 t].toArray L R
  (fun z M U=>∃(p:OwL XCut) (q:OwL Int),z=.tuple #[p.val,q.val,.int .i64 (cutsErr s u.l c.l t)]∧(p.ok 3 XCut.cells∧q.ok 1 Jj)∧p.l=cutsC s u.l c.l t∧q.l=cutsN s u.l c.l t∧q.L 3 Jj ++ (p.L 71 XCut.cells ++ L)=M∧R=U):=by
 have hzR:=hs.zones;refine Jd 93 Tryz.call155 Tryz.func155 rfl rfl rfl ?_;apply (Xag);intro b4;apply Xb7∘Xau;refine J0 zxb rfl ?_;refine q_l rfl (Kka s _ _ hs) ?_;apply (Xbj);refine q_c ?_ ?_<;>intro hc0;·
  apply Xbn∘Xb7∘Xav;refine q_r L R zDd ?_;have he:cutsErr s u.l c.l t=K7 s:=by rw [cutsErr,if_pos hc0]
  exact Kff
 have hsk:=Ys (s:=s) zc;have hsl:=hsk.len;apply qbo∘Xaq∘Xab∘Xb8;apply J3 (G:=[_,_,_,_,_,_]) (j:=6) (cj:=29) rfl rfl ze rfl ztb rfl;·intro hg7;replace hg7:=qb hg7;exact (Xaq∘Xab) zUd
 intro junk7;apply (qaf);refine q_c ?_ ?_<;>intro hc1;·
  apply qae∘Xb7∘Xav;refine q_r L R zDd ?_;have he:cutsErr s u.l c.l t=11:=by rw [cutsErr,if_neg zc,if_pos zc]
  exact Kff
 apply qbo∘Xcf;apply J3 (G:=[_,_]) (j:=2) (cj:=39) rfl rfl ze rfl ztb rfl;·exact zPd
 intro junk3;apply (qaf);refine q_c ?_ ?_<;>intro hc2;·
  apply qae∘Xb7∘Xav;refine q_r L R zDd ?_;have he:cutsErr s u.l c.l t=8:=by rw [cutsErr,if_neg zc,if_neg zc,if_pos zc]
  exact Kff
 have he:cutsErr s u.l c.l t=0:=by rw [cutsErr,if_neg zc,if_neg zc,if_neg zc]
 apply (Xdx);refine Y6 (K6 (f:=XCut.cells) (xs:=c) tb rfl rfl rfl zj rfl rfl (hc) yf zc) rfl ?_;rintro v M U ⟨o44,rfl,hok44,rfl,rfl⟩;apply (Xd3);obtain ⟨OO,hOO⟩:∃OO,OO=o44:=⟨_,rfl⟩;rw [← hOO] at hok44 ⊢;apply qay∘Xbz∘Xbh;refine Jh [(1,.slice _ _ _),(3,.int _ _),(12,.slice _ _ _),(13,.slice _ _ _),(46,.slice _ _ _),(47,.int _ _),(48,.int _ _)] zg fun tq0=>?_;refine K8 ([13,14,15,16,17]++rg 48 43) ((⟨fun g=>[(48,.int .i64 ((g.1.1:Nat):Int)),(13,g.1.2.2.val)],fun g=>g.1.2.2.L 3 Jj ++ ((⟨OO,g.1.2.1⟩:OwL XCut).L 71 XCut.cells ++ (⟨b4,s.cells,38⟩ :: L)),fun _=>R,fun g=>c.l.length - g.1.1⟩:Head {g:Nat×List XCut×OwL Int // g.1≤c.l.length∧WrO c.l (cutAt s u.l c.l t) g.1 g.2.1∧g.2.2.ok 1 Jj∧g.2.2.l=U4a s u.l c.l g.1})) (⟨(0,c.l,OwL.nil),by dsimp only;omega,.zero,OwL.nil_ok,rfl⟩) zg zK zJb ?_;rintro ⟨⟨k,cs,q⟩,hk,hW,hqk,hql⟩ junk;try dsimp only
 dsimp only at hk hW hqk hql;have hwl:=hW.len;have hck:(⟨OO,cs⟩:OwL XCut).ok 3 XCut.cells:=OwL.len_ok yf hok44 hwl;have hqn:q.l.length≤k:=by rw [hql];exact Zfc k
 apply (Xay);refine q_c ?_ ?_<;>intro hc3;·
  have hzg:=Js (l:=s.zones.l) (k:=k) default zc;have hcg0:=Js (l:=c.l) (k:=k) default zc;have hcg:=hW.old k (yn _);rw [hcg0] at hcg;have hWn:=fun (x:XCut)=>hW.next (x:=x) zc;have hWs:=hW.stay (i:=k);have hns:=Zhd (s:=s) (v:=u.l) (c:=c.l) (k:=k);obtain ⟨z,hz⟩:∃z,z=s.zones.l.getD k default:=⟨_,rfl⟩;obtain ⟨ck,hcke⟩:∃ck,ck=c.l.getD k default:=⟨_,rfl⟩;obtain ⟨V,hV⟩:∃V,V=V5a z.rule.l u.l:=⟨_,rfl⟩;have hat:cutAt s u.l c.l t k=Zze V ck t:=by rw [cutAt,hV,hz,hcke]
  rw [← hz] at hzg;rw [← hcke] at hcg hcg0;rw [← hz,← hcke,← hV] at hns;rw [hat] at hWn;rw [hat,hcg0] at hWs;apply (Xbv);refine J0 zC rfl ?_;apply (Xeg);intro b15;apply qad∘Xbe∘Xaj;refine J0 (Jo tb ((⟨OO,cs⟩:OwL XCut)) _ rfl rfl ((show _=Value.slice _ _ _ from rfl).trans (by simp only [OwL.val,hwl])) rfl zi (i:=k) zo zw) rfl ?_;apply qc1∘Xdu∘qbm;refine q_l rfl (Jzc z.rule u _ _ (InR.rule hzR hzg) hv) ?_;rw [← hV];apply Xau∘qaa∘Xa6;refine q_c ?_ ?_<;>intro hc4;·
   apply qbi∘qa6;refine J0 zXb rfl ?_;apply (qb0);refine J0 (Kc tb ((⟨OO,cs⟩:OwL XCut)) rfl rfl rfl zm zi yf zi ze) rfl ?_;apply (Xa6);refine q_c ?_ ?_<;>intro hc5;·apply qay∘Xc2;refine J0 zXb rfl ?_;apply (qb0);refine V5 (Jp tb ((⟨OO,cs⟩:OwL XCut)) (⟨ck.off,t,ck.reason⟩) rfl rfl rfl rfl zm zi yf zi zj ze ze) ?_;rintro v M U ⟨rfl,rfl⟩;refine J6 (Ja (K5 (Kk (J8 (Ja (Je ?_))))));apply (Xan);exact q_k ⟨(k + 1,cs.set k ⟨ck.off,t,ck.reason⟩,q),by dsimp only;omega,hWn _ (by rw [Zze,if_pos hc4,if_pos hc5]),hqk,by dsimp only;rw [hns,if_neg zc];exact hql⟩
   refine Jt (Ja (K5 (Kk (J8 (Ja (Je ?_))))));apply (Xan);exact q_k ⟨(k + 1,cs,q),by dsimp only;omega,hWs (by rw [Zze,if_pos hc4,if_neg hc5]),hqk,by dsimp only;rw [hns,if_neg zc];exact hql⟩
  apply qbv∘qa6;refine J0 zXb rfl ?_;apply (qb0);refine V5 (Jp tb ((⟨OO,cs⟩:OwL XCut)) (⟨ck.off,-1,ck.reason⟩) rfl rfl rfl rfl zm zi yf zi zj ze ze) ?_;rintro v M U ⟨rfl,rfl⟩;apply (qa4);have hck1:=OwL.set_ok (f:=XCut.cells) (wd:=3) (p:=(⟨OO,cs⟩:OwL XCut)) (i:=k) (x:=⟨ck.off,-1,ck.reason⟩) yf hck;have hcg1:(cs.set k ⟨ck.off,-1,ck.reason⟩)[k]?=some ⟨ck.off,-1,ck.reason⟩:=yB zc;apply (Xel);refine J0 zXb rfl ?_;apply (qb0);refine J0 (Kc tb ((⟨OO,cs.set k ⟨ck.off,-1,ck.reason⟩⟩:OwL XCut)) rfl rfl rfl zm zi yf zi ze) rfl ?_;apply (Xbg);refine q_c ?_ ?_<;>intro hc6;·have hck2:=OwL.set_ok (f:=XCut.cells) (wd:=3) (p:=(⟨OO,cs.set k ⟨ck.off,-1,ck.reason⟩⟩:OwL XCut)) (i:=k) (x:=⟨true,-1,ck.reason⟩) yf hck1;have hcg2:((cs.set k ⟨ck.off,-1,ck.reason⟩).set k ⟨true,-1,ck.reason⟩)[k]?=some ⟨true,-1,ck.reason⟩:=yB zna;apply qae∘qa6∘Xc2;refine J0 zXb rfl ?_;apply (qb0);refine V5 (Jp tb ((⟨OO,cs.set k ⟨ck.off,-1,ck.reason⟩⟩:OwL XCut)) (⟨true,-1,ck.reason⟩) rfl rfl rfl rfl zm zi yf zi zj ze ze) ?_;rintro v M U ⟨rfl,rfl⟩;refine J0 zXb rfl ?_;apply (qb0);refine V5 (Jp tb ((⟨OO,(cs.set k ⟨ck.off,-1,ck.reason⟩).set k ⟨true,-1,ck.reason⟩⟩:OwL XCut)) (⟨true,-1,V⟩) rfl rfl rfl rfl zm zi yf zi zj ze ze) ?_;rintro v M U ⟨rfl,rfl⟩;refine J6 (Ja (Je ?_));apply Xaj∘qcx;rintro v M U ⟨b88,rfl,rfl,hR88⟩;replace hR88:=hR88.symm;subst hR88;refine Y6 (Jq (f:=Jj) (a:=(k:Int)) tb rfl rfl rfl rfl (hqk) zm zCb rfl zz) rfl ?_;rintro v M U ⟨o89,rfl,hok89,rfl,rfl⟩;apply qc4∘Xb1;exact q_k ⟨(k + 1,((cs.set k ⟨ck.off,-1,ck.reason⟩).set k ⟨true,-1,ck.reason⟩).set k ⟨true,-1,V⟩,(⟨o89,_⟩:OwL Int)),by dsimp only;omega,by dsimp only;rw [yra,yra];exact hWn _ (by rw [Zze,if_neg hc4,if_neg (by simpa using hc6)]),hok89,by dsimp only;rw [hns,if_pos ⟨hc4,by simpa using hc6⟩,hql]⟩
  apply (Xbk);exact q_k ⟨(k + 1,cs.set k ⟨ck.off,-1,ck.reason⟩,q),by dsimp only;omega,hWn _ (by rw [Zze,if_neg hc4,if_pos (by simpa using hc6)];rw [show ck.off=true by simpa using hc6]),hqk,by dsimp only;rw [hns,if_neg (fun h=>by have:=h.2;simp [this] at hc6)];exact hql⟩
 obtain rfl:k=c.l.length:=by omega
 apply qbk∘qbm∘qbm∘Xb7∘Xam;refine q_r (q.L 3 Jj ++ ((⟨OO,cs⟩:OwL XCut).L 71 XCut.cells ++ L)) R zDd ?_;exact ⟨(⟨OO,cs⟩:OwL XCut),q,by rw [he,OwL.val,OwL.val,hwl];try rfl,⟨hck,hqk⟩,by rw [cutsC,if_neg zc];exact hW.done,by rw [cutsN,if_neg zc];exact hql,rfl,rfl⟩
end
end Go.Proofs.YtchfclmokpbldaaGreat
