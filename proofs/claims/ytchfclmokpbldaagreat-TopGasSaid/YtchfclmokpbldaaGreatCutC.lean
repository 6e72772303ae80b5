/-
  Merged texts. By an AI agent.
-/
import Derived.Test.YtchfclmokpbldaaGreatRestP
import Derived.Test.YtchfclmokpbldaaGreatRuleD
import Derived.Test.YtchfclmokpbldaaGreatSiteD
set_option linter.all false
set_option maxHeartbeats 4000000
set_option maxRecDepth 20000
namespace Go.Proofs.YtchfclmokpbldaaGreat
open Go.Aw Go
section
attribute [local irreducible] CJ LJ DJ Tri YV Gives Uq J2 Kj Ut RV J3 OwL.L
section
variable {A B:Prop}
def Zde(h:B:=by exact ⟨.nil,.nil,by rw [he];rfl,⟨OwL.nil_ok,OwL.nil_ok⟩,by rw [valuesV,if_pos za],by rw [valuesW,if_pos za],by rw [Kk,Kk];rfl,rfl⟩):=h
def Jqf(h:A→B:=by exact Jw zYc rfl):=h
def Zzf(h:A→B:=by exact Jw zvb rfl):=h
def Keg(h:A→B:=by exact Kq rfl (Kt (f:=XWatch.cells) (xs:=w) tb rfl rfl rfl ze rfl rfl (hw) yf za) rfl rfl):=h
def Jlg(h:A→B:=by exact J6a 5 hT8 yd zc rfl rfl rfl rfl rfl (K8 zob)):=h
def J9g(h:A→B:=by exact J6a 6 hT8 yd zc rfl rfl rfl rfl rfl (K8 zob)):=h
def Uog(h:A→B:=by exact Ku zrb rfl rfl rfl rfl):=h
end
def Yef {fl:List XSpan} {f:XFace}:Vpg fl [f]=[K1b fl f]:=rfl
abbrev Ktf (s:XSite) (w:List XWatch) (t:Int):Nat→Option Int:=fun i=>nzO (J1c (s.conds.l.getD i default) (w.getD i default) t)
abbrev Vmg (s:XSite) (m:List XMeas) (w:List XWatch) (fl:List XSpan) (t:Int):Nat→Int:=fun i=>Y5d s.sensors.l m fl (s.conds.l.getD i default) (w.getD i default) t
abbrev Vdg (s:XSite) (m:List XMeas) (w:List XWatch) (t:Int):Nat→XWatch:=fun i=>Krb s.sensors.l m (s.conds.l.getD i default) (w.getD i default) t
structure ValsA (s:XSite) (m:Arr XMeas) (w:Arr XWatch) (fl:Arr XSpan) (R:LS):Prop where
 site:SiteR s R
 mR:InR (Yu m) R
 wR:InR (Ztd w) R
 flR:InR (Jkc fl) R
 ok:∀x∈m.l,K5a x
def Zkc {s:XSite} {m:List XMeas} {w:List XWatch} {fl:List XSpan} {t:Int} (h0:Uf s=0) (h1:m.length=s.sensors.l.length∧w.length=s.conds.l.length∧fl.length=s.air.mine.roads.l.length) (h2:¬ (t < 0∨2147483648 < t)):valuesErr s m w fl t=((List.range w.length).findSome? (Ktf s w t)).getD 0:=by rw [valuesErr,if_neg za,if_neg (fun h=>h h1),if_neg h2]
def Y8d (s:XSite) (m:Arr XMeas) (w:Arr XWatch) (fl:Arr XSpan) (t:Int) (L:LB) (R:LS) (h:ValsA s m w fl R):
 Tri Tryz.prog 154 [s.val, m.val, w.val, fl.val, .int .i64 t].toArray L R
  (fun v U J=>∃(p:OwL Int) (q:OwL XWatch),v=.tuple #[p.val,q.val,.int .i64 (valuesErr s m.l w.l fl.l t)]∧(p.ok 1 Jj∧q.ok 3 XWatch.cells)∧p.l=valuesV s m.l w.l fl.l t∧q.l=valuesW s m.l w.l fl.l t∧p.L 3 Jj ++ (q.L 153 XWatch.cells ++ L)=U∧R=J):=by
 obtain ⟨hs,hm,hw,hfl,hok⟩:=h;have hsR:=hs.sensors;have hcR:=hs.conds;refine Je 152 Tryz.call154 Tryz.func154 rfl rfl rfl ?_;apply (Xaf);intro b5;apply Xbp∘Xar∘Zzf;refine q_l rfl (Kia s _ _ hs) ?_;apply (Xbb);refine q_c ?_ ?_<;>intro hc0;·
  apply Xbi∘Xbp∘Xao;refine q_r L R zfd ?_;have he:valuesErr s m.l w.l fl.l t=Uf s:=by rw [valuesErr,if_pos hc0]
  exact Zde
 have hsk:=Z5 (s:=s) za;have hsl:=hsk.len;have hrl:=(V3 hsk.air).mine.roads;apply qbo∘Xap∘Xab∘Xb7;apply Kf (G:=[_,_,_,_,_,_]) (j:=6) (cj:=32) rfl rfl zb rfl zmb rfl;·intro hg7;replace hg7:=qb hg7;exact (Xap∘Xab) zvd
 intro junk7;apply (qah);apply Kf (G:=[_,_,_,_,_,_,_,_]) (j:=14) (cj:=40) rfl rfl zb rfl zmb rfl;·
  intro hg15;replace hg15:=qb hg15;apply (Xap);iterate 3 apply (qab)
  exact (qac∘qag) zvd
 intro junk15;apply (qaf);refine q_c ?_ ?_<;>intro hc1;·
  apply qae∘Xbp∘Xao;refine q_r L R zfd ?_;have he:valuesErr s m.l w.l fl.l t=11:=by rw [valuesErr,if_neg za,if_pos za]
  exact Zde
 apply qbo∘Xck;apply Kf (G:=[_,_]) (j:=2) (cj:=52) rfl rfl zb rfl zmb rfl;·exact zsd
 intro junk3;apply (qaf);refine q_c ?_ ?_<;>intro hc2;·
  apply qae∘Xbp∘Xao;refine q_r L R zfd ?_;have he:valuesErr s m.l w.l fl.l t=8:=by rw [valuesErr,if_neg za,if_neg za,if_pos za]
  exact Zde
 have hve:=Zkc (s:=s) (m:=m.l) (w:=w.l) (fl:=fl.l) (t:=t) za za za;apply (qcl);refine Vqb [56,57,58,59,60,14,15] ((⟨fun g=>[(14,.slice (some ⟨g.1.1,0,none⟩) w.l.length w.l.length),(15,(⟨g.1.2,w.l⟩:OwL XWatch).val)],fun g=>(⟨.own g.1.1 w.l.length [],List.replicate w.l.length 0⟩:OwL Int).L 3 Jj ++ ((⟨g.1.2,w.l⟩:OwL XWatch).L 153 XWatch.cells ++ (⟨b5,s.cells,38⟩ :: L)),fun _=>R,fun _=>0⟩:Head {g:Nat×Ow // (⟨g.2,w.l⟩:OwL XWatch).ok 3 XWatch.cells})) ?_ ?_;·
  skip
  refine Job tb [] [0,1,3,2,4,5,6] [] (_) [] 7 Ko zc rfl rfl zi fun hT8=>?_;refine J6a 0 hT8 yd zc rfl rfl rfl rfl rfl zZc ?_;refine J6a 1 hT8 yd zc rfl rfl rfl rfl rfl zPb ?_;refine J6a 3 hT8 yd zc rfl rfl rfl rfl rfl zZc ?_;refine Jf [2,4] hT8 yd zc ?_;refine Jt ?_ ?_;·
   skip
   refine Kq rfl zZb rfl rfl ?_;rintro v U J ⟨b58,rfl,rfl,hR58⟩;replace hR58:=hR58.symm;subst hR58;apply (qa1);refine Jf [4] hT8 yd zc ?_;apply qca∘Keg;rintro v U J ⟨o60,rfl,hok60,rfl,rfl⟩;exact uaM
  apply qca∘Keg;rintro v U J ⟨o60,rfl,hok60,rfl,rfl⟩;apply (qa1);refine Jf [2] hT8 yd zc ?_;apply (qca);refine Kq rfl zZb rfl rfl ?_;rintro v U J ⟨b58,rfl,rfl,hR58⟩;replace hR58:=hR58.symm;subst hR58;exact uaM
 rintro ⟨⟨b,o⟩,hok60⟩ junk;try dsimp only
 dsimp only at hok60;apply qbi∘Xay;refine Jm [(1,.slice _ _ _),(2,.slice _ _ _),(3,.slice _ _ _),(4,.int _ _),(5,.pointer _),(14,.slice _ _ _),(15,.slice _ _ _),(62,.slice _ _ _),(63,.int _ _),(64,.int _ _)] zh fun tq0=>?_;refine q_p ([10,11,12,16,17,18,19,20]++rg 64 86) ((⟨fun g=>[(64,.int .i64 ((g.1.1:Nat):Int))],fun g=>(⟨.own b w.l.length [],g.1.2.1⟩:OwL Int).L 3 Jj ++ ((⟨o,g.1.2.2⟩:OwL XWatch).L 153 XWatch.cells ++ (⟨b5,s.cells,38⟩ :: L)),fun _=>R,fun g=>w.l.length - g.1.1⟩:Head {g:Nat×List Int×List XWatch // (g.1≤w.l.length∧(List.range w.l.length).findSome? (Ktf s w.l t)=((List.range w.l.length).drop g.1).findSome? (Ktf s w.l t))∧WrTo w.l.length 0 (Vmg s m.l w.l fl.l t) g.1 g.2.1∧WrO w.l (Vdg s m.l w.l t) g.1 g.2.2})) (⟨(0,List.replicate w.l.length 0,w.l),⟨by dsimp only;omega,by rw [ysb]⟩,.zero,.zero⟩) ?_;rintro ⟨⟨k,vs,ws⟩,⟨hk,hp⟩,hV,hW⟩ junk;try dsimp only
 dsimp only at hk hp hV hW;have hvl:=hV.len;have hwl:=hW.len;have hvk:(⟨.own b w.l.length [],vs⟩:OwL Int).ok 1 Jj:=by have:=U0 (f:=Jj) (wd:=1) (b:=b) (n:=w.l.length) (x:=0) K0 zB;exact OwL.len_ok K0 this (by simp;exact hvl)
 have hwk:(⟨o,ws⟩:OwL XWatch).ok 3 XWatch.cells:=OwL.len_ok yf hok60 hwl;apply (Xaj);refine q_c ?_ ?_<;>intro hc3;·
  have hcg:=Jp (l:=s.conds.l) (k:=k) default za;have hwg:=Jp (l:=w.l) (k:=k) default za;have hvg:=hV.non k (ym _) za;have hwg2:=hW.old k (ym _);rw [hwg] at hwg2;have hcf:=Vbc (hsk.cond _ (yh hcg));have hVn:=fun (v:Int)=>hV.next (x:=v) za;have hWn:=fun (v:XWatch)=>hW.next (x:=v) za;have hpn:=Zk (f:=Ktf s w.l t) hp za;have hps:=fun (e:Int) (he:Ktf s w.l t k=some e)=>Yi (f:=Ktf s w.l t) hp za he;obtain ⟨c,hc⟩:∃c,c=s.conds.l.getD k default:=⟨_,rfl⟩;obtain ⟨wk,hwe⟩:∃wk,wk=w.l.getD k default:=⟨_,rfl⟩;obtain ⟨X,hX⟩:∃X,X=K0a s.sensors.l m.l c.target t:=⟨_,rfl⟩;have hvE:Ktf s w.l t k=nzO (J1c c wk t):=by rw [hc,hwe]
  have hvV:Vmg s m.l w.l fl.l t k=Y5d s.sensors.l m.l fl.l c wk t:=by rw [hc,hwe]
  have hvW:Vdg s m.l w.l t k=Krb s.sensors.l m.l c wk t:=by rw [hc,hwe]
  rw [← hc] at hcg hcf;rw [← hwe] at hwg hwg2;rw [hvV] at hVn;rw [hvE] at hpn hps;rw [hvW] at hWn;rw [Y5d,← hX] at hVn;rw [J1c] at hpn hps;apply (Xa1);refine Jw zD rfl ?_;refine Jw zdb rfl ?_;apply (qaq);intro b17;apply qad∘Xaz∘Zzf∘qbm∘Xah;refine q_l rfl (Y1c s m c.target t _ _ hsR hm hok za) ?_;rw [← hX];apply (qaq);intro b18;apply (Xb9);refine J9 (Jb (Ki (Jq (Jg ?_))));apply (Xa2);refine q_c ?_ ?_<;>intro hc4;·
   refine Jq ?_;refine Ke tb [0,1,2,3,4,5,6,7,8,9,10,11,12,13,14] ([Blk.mk b18 _ _,Blk.mk b17 _ _]) Ko zc zi ?_;apply (qal);refine Ks zrb rfl rfl rfl ?_;refine Ks zZc rfl rfl rfl ?_;apply qao∘qds∘qdv∘qbd∘qao;refine q_d rfl (J3f c.level wk X t _ _) ?_;refine Ks zRb rfl rfl rfl ?_;refine Ks zXb rfl rfl rfl ?_;refine Ks zXb rfl rfl rfl ?_;apply (qbr);intro b19;apply Xdf∘qc6∘qaa∘Xat;refine q_c ?_ ?_<;>intro hc5;·apply Xbi∘Xbp∘qad;refine J9 (Jb (Uk (Kh (Kd (Kd (Kh (Ym (Kd (Kh ?_)))))))));refine q_r L R zfd ?_;have hfe:=hps (Yz c.level wk t) (by rw [if_pos hc4,Ujc hc5]);(have he:valuesErr s m.l w.l fl.l t=Yz c.level wk t:=by rw [hve,hfe];rfl);exact Zde
   (have hse:Yz c.level wk t=0:=by omega);rw [Ycd hse];refine J5 (Jb ?_);refine J7 tb [96,97] [0,1,2,3,4,5,6,7,8,9] [10,11,12] ([Blk.mk b19 _ _,Blk.mk b18 _ _,Blk.mk b17 _ _]) _ Ko zc zi (by (repeat (first | apply List.Sublist.cons (a:=Blk.mk b15 _ _) | apply List.Sublist.cons (a:=Blk.mk b14 _ _) | apply List.Sublist.cons_cons));exact yt _) ?_;apply (Xdl);refine Vd zZc rfl rfl rfl rfl ?_;refine Vd (Jz znb) rfl rfl rfl rfl ?_;apply (Uog);refine Ku (Js (row:=[_,_,_,_,_,_]) tb rfl rfl rfl zf zb zb) rfl rfl rfl rfl ?_;apply (Uog);refine Ku zGb rfl rfl rfl rfl ?_;refine K7 rfl (Jmf c (J3a c.level wk X t) X _ _) rfl rfl ?_;rintro v U J ⟨rfl,rfl,rfl⟩;refine ⟨zi,zt,?_⟩;refine Ku (Jo tb ((⟨o,ws⟩:OwL XWatch)) _ rfl rfl ((show _=Value.slice _ _ _ from rfl).trans (by simp only [OwL.val,hwl])) rfl zg (i:=k) zk zp) rfl rfl rfl rfl ?_;apply (qba);refine Ywa (Uw tb ((⟨o,ws⟩:OwL XWatch)) (J3a c.level wk X t) rfl rfl rfl rfl zj zg yf zg (yR rfl) zb zb) rfl rfl ?_;rintro v U J ⟨rfl,rfl⟩;apply (qa1);refine Ks zYc rfl rfl rfl ?_;refine Ywa (Jn tb ((⟨.own b w.l.length [],vs⟩:OwL Int)) (if (J3a c.level wk X t).over=false then -1 else if J2a X c.level.cut=1 then 1 else 0) rfl rfl rfl rfl zj zg yf zg ze zb zb) rfl rfl ?_;rintro v U J ⟨rfl,rfl⟩;apply (qa1);refine J1 (Jh (Jh (Jb (Jg ?_))));apply (Xad);exact q_k ⟨(k + 1,vs.set k (if (J3a c.level wk X t).over=false then -1 else if J2a X c.level.cut=1 then 1 else 0),ws.set k (J3a c.level wk X t)),hpn (by rw [if_pos hc4,hse];rfl),hVn _ (by rw [if_neg (show ¬ c.kind=5 by omega),if_neg (show ¬ c.kind=2 by omega),if_neg (show ¬ c.kind=3 by omega),if_neg (show ¬ c.kind=4 by omega)]),hWn _ (by rw [Krb,if_pos hc4,hX])⟩
  have hst:Krb s.sensors.l m.l c wk t=wk:=by rw [Krb,if_neg hc4]
  have hWk:=hW.stay (show w.l[k]?=some (Vdg s m.l w.l t k) by rw [hvW,hwg,hst]);have hpk:=hpn (by rw [if_neg hc4];rfl);apply (Xbv);refine q_c ?_ ?_<;>intro hc6;·apply Xb3∘qbe∘Xaa;refine q_l rfl (Zjb X c.value _ _) ?_;(have hab:-1≤J2a X c.value∧J2a X c.value≤1:=by rw [J2a];(repeat' split) <;> omega);apply qcq∘Jqf;refine Vk (Jn tb ((⟨.own b w.l.length [],vs⟩:OwL Int)) (-(J2a X c.value)) rfl rfl rfl rfl zj zg yf zg ze zb zb) ?_;rintro v U J ⟨rfl,rfl⟩;refine J9 (Jh (Jh (Jb (Jg ?_))));apply (Xad);exact q_k ⟨(k + 1,vs.set k (-(J2a X c.value)),ws),hpk,hVn _ (by rw [if_neg za,if_pos hc6]),hWk⟩
  apply (Xbv);refine q_c ?_ ?_<;>intro hc7;·apply Xb3∘qbe;refine q_l rfl (Und X _ _) ?_;apply (Jqf);refine Vk (Jn tb ((⟨.own b w.l.length [],vs⟩:OwL Int)) (Uja X) rfl rfl rfl rfl zj zg yf zg ze zb zb) ?_;rintro v U J ⟨rfl,rfl⟩;refine J9 (Jh (Jh (Jb (Jg ?_))));apply (Xad);exact q_k ⟨(k + 1,vs.set k (Uja X),ws),hpk,hVn _ (by rw [if_neg za,if_neg za,if_pos hc7]),hWk⟩
  apply (Xbv);refine q_c ?_ ?_<;>intro hc8;·
   apply qae∘Xaq∘Jqf;refine Vk (Jn tb ((⟨.own b w.l.length [],vs⟩:OwL Int)) (-1) rfl rfl rfl rfl zj zg yf zg ze zb zb) ?_;rintro v U J ⟨rfl,rfl⟩;apply (qa4);refine Ke tb [0,1,2] ([Blk.mk b18 _ _]) Ko zc zi ?_;apply (qbd);refine q_d rfl (Ub _ _) ?_;refine Ks (Zbb Uye rfl rfl) rfl rfl rfl ?_;apply (qbu);refine q_c ?_ ?_<;>intro hc9;·have hvk2:=OwL.set_ok (p:=(⟨.own b w.l.length [],vs⟩:OwL Int)) (i:=k) (x:= -1) K0 hvk;have hvg2:(vs.set k (-1))[k]?=some (-1):=yH za;apply (Xb3);refine Jw (Jo tb ((⟨.own b w.l.length [],vs.set k (-1)⟩:OwL Int)) _ rfl rfl ((show _=Value.slice _ _ _ from rfl).trans (K6 (by rw [yK];exact hvl))) rfl zg (i:=k) zk zp) rfl ?_;refine Vk (Jn tb ((⟨.own b w.l.length [],vs.set k (-1)⟩:OwL Int)) (1) rfl rfl rfl rfl zj zg yf zg ze zb zb) ?_;rintro v U J ⟨rfl,rfl⟩;refine J9 (Jh (Jh (Jb (Jg ?_))));apply (Xad);exact q_k ⟨(k + 1,(vs.set k (-1)).set k 1,ws),hpk,by dsimp only;rw [yLa];exact hVn _ (by rw [if_neg za,if_neg za,if_neg za,if_pos hc8,if_pos (Vjc.2 za)]),hWk⟩
   refine J5 (Jh (Jh (Jb (Jg ?_))));apply (Xad);exact q_k ⟨(k + 1,vs.set k (-1),ws),hpk,hVn _ (by rw [if_neg za,if_neg za,if_neg za,if_pos hc8,if_neg (fun e=>by rw [Vjc] at e;omega)]),hWk⟩
  apply (Xbv);refine q_c ?_ ?_<;>intro hc10;·apply Xb3∘qbm∘Xa0∘qcd;refine Za zKb rfl ?_;rintro v U J ⟨b143,rfl,rfl,hR143⟩;replace hR143:=hR143.symm;subst hR143;refine Kwa (wd:=2) (len:=1) (cap:=1) (rows:=[XFace.cells ⟨c.target,c.value⟩]) (subs:=[]) rfl ze ze (fun r hr=>by rw [List.mem_singleton.1 hr];rfl) ze rfl yg ?_;refine Jv rfl (J5f fl ⟨some ⟨b143,0,none⟩,1,[⟨c.target,c.value⟩]⟩ _ _ (hfl.mono fun r h=>Ja (by simp [h])) zFb (fun f hf=>by rw [List.mem_singleton.1 hf];dsimp only;omega) (show 1≤1000 by decide) za) rfl ?_;rintro v U J ⟨p,rfl,hpk1,hpl,rfl,rfl⟩;rw [Yef] at hpl;(have hp0:p.l[0]?=some (K1b fl.l ⟨c.target,c.value⟩):=by rw [hpl];rfl);(have hpn1:p.l.length=1:=by rw [hpl];rfl);(have hfb:-1≤K1b fl.l ⟨c.target,c.value⟩∧K1b fl.l ⟨c.target,c.value⟩≤1:=by rw [K1b,Yle];(repeat' split) <;> omega);refine Jw (Jo tb (p) _ rfl rfl rfl rfl zg (i:=0) zk zp) rfl ?_;refine Jw zJb rfl ?_;apply qcq∘Jqf;refine Vk (Jn tb ((⟨.own b w.l.length [],vs⟩:OwL Int)) (-(K1b fl.l ⟨c.target,c.value⟩)) rfl rfl rfl rfl zj zg yf zg ze zb zb) ?_;rintro v U J ⟨rfl,rfl⟩;refine J9 (Jh (Jh (Jb (Jg ?_))));apply (Xad);exact Ka ⟨(k + 1,vs.set k (-(K1b fl.l ⟨c.target,c.value⟩)),ws),hpk,hVn _ (by rw [if_pos hc10]),hWk⟩ zm zh zi (fun r h=>Ja (by simp [h])) zx
  (exfalso;omega)
 obtain rfl:k=w.l.length:=by omega
 have hn:=Jta (f:=Ktf s w.l t) hp (ym _);have he:valuesErr s m.l w.l fl.l t=0:=by rw [hve,hn];rfl
 apply Xch∘qbm∘Xbp∘Xam;refine q_r ((⟨.own b w.l.length [],vs⟩:OwL Int).L 3 Jj ++ ((⟨o,ws⟩:OwL XWatch).L 153 XWatch.cells ++ L)) R zfd ?_;exact ⟨(⟨.own b w.l.length [],vs⟩:OwL Int),(⟨o,ws⟩:OwL XWatch),by rw [he,OwL.val,OwL.val,hvl,hwl];try rfl,⟨hvk,hwk⟩,by rw [valuesV,if_neg za];exact hV.done,by rw [valuesW,if_neg za];exact hW.done,rfl,rfl⟩
end
section
attribute [local irreducible] CJ LJ DJ Tri YV Gives Uq J2 Kj Ut RV J3 OwL.L
section
variable {A B:Prop}
def Vaf(h:B:=by exact ⟨.nil,.nil,by rw [he];rfl,⟨OwL.nil_ok,OwL.nil_ok⟩,by rw [cutsC,if_pos za],by rw [cutsN,if_pos za],by rw [Kk,Kk];rfl,rfl⟩):=h
end
def Jme {s:XSite} {v:List Int} {c:List XCut} {k:Nat}:Vma s v c (k + 1)=if Zxa (s.zones.l.getD k default).rule.l v≠-1∧(c.getD k default).off=false then Vma s v c k ++ [(k:Int)] else Vma s v c k:=rfl
def Z7c {s : XSite} {v : List Int} {c : List XCut} : ∀ n, (Vma s v c n).length ≤ n
 | 0=>by simp [Vma]
 | n + 1=>by
  have:=Z7c (s:=s) (v:=v) (c:=c) n
  rw [Vma]
  split
  ·rw [yl,yx];omega
  ·omega
def Y8e (s:XSite) (u:Arr Int) (c:Arr XCut) (t:Int) (L:LB) (R:LS) (hs:SiteR s R) (hv:InR (isl u) R) (hc:InR (Vuc c) R):
 Tri Tryz.prog 155 [s.val, u.val, c.val, .int .i64 t].toArray L R
  (fun z U J=>∃(p:OwL XCut) (q:OwL Int),z=.tuple #[p.val,q.val,.int .i64 (cutsErr s u.l c.l t)]∧(p.ok 3 XCut.cells∧q.ok 1 Jj)∧p.l=cutsC s u.l c.l t∧q.l=cutsN s u.l c.l t∧q.L 3 Jj ++ (p.L 71 XCut.cells ++ L)=U∧R=J):=by
 have hzR:=hs.zones;refine Je 93 Tryz.call155 Tryz.func155 rfl rfl rfl ?_;apply (Xaf);intro b4;apply Xbp∘Xar;refine Jw zvb rfl ?_;refine q_l rfl (Kia s _ _ hs) ?_;apply (Xbb);refine q_c ?_ ?_<;>intro hc0;·
  apply Xbi∘Xbp∘Xao;refine q_r L R zfd ?_;have he:cutsErr s u.l c.l t=Uf s:=by rw [cutsErr,if_pos hc0]
  exact Vaf
 have hsk:=Z5 (s:=s) za;have hsl:=hsk.len;apply qbo∘Xap∘Xab∘Xb7;apply Kf (G:=[_,_,_,_,_,_]) (j:=6) (cj:=29) rfl rfl zb rfl zmb rfl;·intro hg7;replace hg7:=qb hg7;exact (Xap∘Xab) zvd
 intro junk7;apply (qaf);refine q_c ?_ ?_<;>intro hc1;·
  apply qae∘Xbp∘Xao;refine q_r L R zfd ?_;have he:cutsErr s u.l c.l t=11:=by rw [cutsErr,if_neg za,if_pos za]
  exact Vaf
 apply qbo∘Xck;apply Kf (G:=[_,_]) (j:=2) (cj:=39) rfl rfl zb rfl zmb rfl;·exact zsd
 intro junk3;apply (qaf);refine q_c ?_ ?_<;>intro hc2;·
  apply qae∘Xbp∘Xao;refine q_r L R zfd ?_;have he:cutsErr s u.l c.l t=8:=by rw [cutsErr,if_neg za,if_neg za,if_pos za]
  exact Vaf
 have he:cutsErr s u.l c.l t=0:=by rw [cutsErr,if_neg za,if_neg za,if_neg za]
 apply qbv∘qbm;refine Za (Kt (f:=XCut.cells) (xs:=c) tb rfl rfl rfl ze rfl rfl (hc) yf za) rfl ?_;rintro v U J ⟨o44,rfl,hok44,rfl,rfl⟩;apply (Xc0);obtain ⟨OO,hOO⟩:∃OO,OO=o44:=⟨_,rfl⟩;rw [← hOO] at hok44 ⊢;apply qay∘Xb5∘Xay;refine Jm [(1,.slice _ _ _),(3,.int _ _),(12,.slice _ _ _),(13,.slice _ _ _),(46,.slice _ _ _),(47,.int _ _),(48,.int _ _)] zh fun tq0=>?_;refine Up ([13,14,15,16,17]++rg 48 43) ((⟨fun g=>[(48,.int .i64 ((g.1.1:Nat):Int)),(13,g.1.2.2.val)],fun g=>g.1.2.2.L 3 Jj ++ ((⟨OO,g.1.2.1⟩:OwL XCut).L 71 XCut.cells ++ (⟨b4,s.cells,38⟩ :: L)),fun _=>R,fun g=>c.l.length - g.1.1⟩:Head {g:Nat×List XCut×OwL Int // g.1≤c.l.length∧WrO c.l (cutAt s u.l c.l t) g.1 g.2.1∧g.2.2.ok 1 Jj∧g.2.2.l=Vma s u.l c.l g.1})) (⟨(0,c.l,OwL.nil),by dsimp only;omega,.zero,OwL.nil_ok,rfl⟩) zh zW zAb ?_;rintro ⟨⟨k,cs,q⟩,hk,hW,hqk,hql⟩ junk;try dsimp only
 dsimp only at hk hW hqk hql;have hwl:=hW.len;have hck:(⟨OO,cs⟩:OwL XCut).ok 3 XCut.cells:=OwL.len_ok yf hok44 hwl;have hqn:q.l.length≤k:=by rw [hql];exact Z7c k
 apply (Xaj);refine q_c ?_ ?_<;>intro hc3;·
  have hzg:=Jp (l:=s.zones.l) (k:=k) default za;have hcg0:=Jp (l:=c.l) (k:=k) default za;have hcg:=hW.old k (ym _);rw [hcg0] at hcg;have hWn:=fun (x:XCut)=>hW.next (x:=x) za;have hWs:=hW.stay (i:=k);have hns:=Jme (s:=s) (v:=u.l) (c:=c.l) (k:=k);obtain ⟨z,hz⟩:∃z,z=s.zones.l.getD k default:=⟨_,rfl⟩;obtain ⟨ck,hcke⟩:∃ck,ck=c.l.getD k default:=⟨_,rfl⟩;obtain ⟨V,hV⟩:∃V,V=Zxa z.rule.l u.l:=⟨_,rfl⟩;have hat:cutAt s u.l c.l t k=Y8f V ck t:=by rw [cutAt,hV,hz,hcke]
  rw [← hz] at hzg;rw [← hcke] at hcg hcg0;rw [← hz,← hcke,← hV] at hns;rw [hat] at hWn;rw [hat,hcg0] at hWs;apply (Xa1);refine Jw zD rfl ?_;apply (Xdk);intro b15;apply qad∘Xaz∘Xaq;refine Jw (Jo tb ((⟨OO,cs⟩:OwL XCut)) _ rfl rfl ((show _=Value.slice _ _ _ from rfl).trans (by simp only [OwL.val,hwl])) rfl zg (i:=k) zk zp) rfl ?_;apply qc1∘Xde∘qbm;refine q_l rfl (J9c z.rule u _ _ (InR.rule hzR hzg) hv) ?_;rw [← hV];apply Xc5∘Xbu;refine q_c ?_ ?_<;>intro hc4;·
   apply qbi∘qa6;refine Jw zQb rfl ?_;apply (qb0);refine Jw (J4 tb ((⟨OO,cs⟩:OwL XCut)) rfl rfl rfl zj zg yf zg zb) rfl ?_;apply (Xbu);refine q_c ?_ ?_<;>intro hc5;·apply qay∘Xco;refine Jw zQb rfl ?_;apply (qb0);refine Vk (Jn tb ((⟨OO,cs⟩:OwL XCut)) (⟨ck.off,t,ck.reason⟩) rfl rfl rfl rfl zj zg yf zg ze zb zb) ?_;rintro v U J ⟨rfl,rfl⟩;refine J9 (Jb (K9 (Km (J6 (Jb (Jg ?_))))));apply (Xad);exact q_k ⟨(k + 1,cs.set k ⟨ck.off,t,ck.reason⟩,q),by dsimp only;omega,hWn _ (by rw [Y8f,if_pos hc4,if_pos hc5]),hqk,by dsimp only;rw [hns,if_neg za];exact hql⟩
   refine J5 (Jb (K9 (Km (J6 (Jb (Jg ?_))))));apply (Xad);exact q_k ⟨(k + 1,cs,q),by dsimp only;omega,hWs (by rw [Y8f,if_pos hc4,if_neg hc5]),hqk,by dsimp only;rw [hns,if_neg za];exact hql⟩
  apply qbv∘qa6;refine Jw zQb rfl ?_;apply (qb0);refine Vk (Jn tb ((⟨OO,cs⟩:OwL XCut)) (⟨ck.off,-1,ck.reason⟩) rfl rfl rfl rfl zj zg yf zg ze zb zb) ?_;rintro v U J ⟨rfl,rfl⟩;apply (qa4);have hck1:=OwL.set_ok (f:=XCut.cells) (wd:=3) (p:=(⟨OO,cs⟩:OwL XCut)) (i:=k) (x:=⟨ck.off,-1,ck.reason⟩) yf hck;have hcg1:(cs.set k ⟨ck.off,-1,ck.reason⟩)[k]?=some ⟨ck.off,-1,ck.reason⟩:=yH za;apply qay∘qa6;refine Jw zQb rfl ?_;apply (qb0);refine Jw (J4 tb ((⟨OO,cs.set k ⟨ck.off,-1,ck.reason⟩⟩:OwL XCut)) rfl rfl rfl zj zg yf zg zb) rfl ?_;apply (Xbj);refine q_c ?_ ?_<;>intro hc6;·have hck2:=OwL.set_ok (f:=XCut.cells) (wd:=3) (p:=(⟨OO,cs.set k ⟨ck.off,-1,ck.reason⟩⟩:OwL XCut)) (i:=k) (x:=⟨true,-1,ck.reason⟩) yf hck1;have hcg2:((cs.set k ⟨ck.off,-1,ck.reason⟩).set k ⟨true,-1,ck.reason⟩)[k]?=some ⟨true,-1,ck.reason⟩:=yH zha;apply qae∘qa6∘Xco;refine Jw zQb rfl ?_;apply (qb0);refine Vk (Jn tb ((⟨OO,cs.set k ⟨ck.off,-1,ck.reason⟩⟩:OwL XCut)) (⟨true,-1,ck.reason⟩) rfl rfl rfl rfl zj zg yf zg ze zb zb) ?_;rintro v U J ⟨rfl,rfl⟩;refine Jw zQb rfl ?_;apply (qb0);refine Vk (Jn tb ((⟨OO,(cs.set k ⟨ck.off,-1,ck.reason⟩).set k ⟨true,-1,ck.reason⟩⟩:OwL XCut)) (⟨true,-1,V⟩) rfl rfl rfl rfl zj zg yf zg ze zb zb) ?_;rintro v U J ⟨rfl,rfl⟩;refine J9 (Jb (Jg ?_));apply Xaq∘qcx;rintro v U J ⟨b88,rfl,rfl,hR88⟩;replace hR88:=hR88.symm;subst hR88;refine Za (Jy (f:=Jj) (a:=(k:Int)) tb rfl rfl rfl rfl (hqk) zj zwb rfl zy) rfl ?_;rintro v U J ⟨o89,rfl,hok89,rfl,rfl⟩;apply (Xdr);exact q_k ⟨(k + 1,((cs.set k ⟨ck.off,-1,ck.reason⟩).set k ⟨true,-1,ck.reason⟩).set k ⟨true,-1,V⟩,(⟨o89,_⟩:OwL Int)),by dsimp only;omega,by dsimp only;rw [yLa,yLa];exact hWn _ (by rw [Y8f,if_neg hc4,if_neg (by simpa using hc6)]),hok89,by dsimp only;rw [hns,if_pos ⟨hc4,by simpa using hc6⟩,hql]⟩
  apply (Xaw);exact q_k ⟨(k + 1,cs.set k ⟨ck.off,-1,ck.reason⟩,q),by dsimp only;omega,hWn _ (by rw [Y8f,if_neg hc4,if_pos (by simpa using hc6)];rw [show ck.off=true by simpa using hc6]),hqk,by dsimp only;rw [hns,if_neg (fun h=>by have:=h.2;simp [this] at hc6)];exact hql⟩
 obtain rfl:k=c.l.length:=by omega
 apply Xch∘qbm∘Xbp∘Xam;refine q_r (q.L 3 Jj ++ ((⟨OO,cs⟩:OwL XCut).L 71 XCut.cells ++ L)) R zfd ?_;exact ⟨(⟨OO,cs⟩:OwL XCut),q,by rw [he,OwL.val,OwL.val,hwl];try rfl,⟨hck,hqk⟩,by rw [cutsC,if_neg za];exact hW.done,by rw [cutsN,if_neg za];exact hql,rfl,rfl⟩
end
end Go.Proofs.YtchfclmokpbldaaGreat
