/-
  Merged texts. By an AI agent.
-/
import Derived.Test.YtchfclmokpbldaaGreatRestP
import Derived.Test.YtchfclmokpbldaaGreatRuleD
import Derived.Test.YtchfclmokpbldaaGreatSiteD
set_option linter.all false
set_option maxHeartbeats 4000000
set_option maxRecDepth 20000
namespace Go.Proofs.YtchfclmokpbldaaGreat
open Go.Aw Go
section
attribute [local irreducible] CJ LJ DJ Tri YV Gives U5 J2 Kn U6 RV J4 OwL.L
section
variable {A B:Prop}
def Zje(h:B:=by exact ⟨.nil,.nil,by rw [he];rfl,⟨OwL.nil_ok,OwL.nil_ok⟩,by rw [valuesV,if_pos za],by rw [valuesW,if_pos za],by rw [Km,Km];rfl,rfl⟩):=h
def Z0e(h:A→B:=by exact Jy zpd rfl):=h
def Vrg(h:A→B:=by exact Jy zAb rfl):=h
def U8g(h:A→B:=by exact Ks rfl (Kp (f:=XWatch.cells) (xs:=w) tb rfl rfl rfl ze rfl rfl (hw) yf za) rfl rfl):=h
def Jag(h:A→B:=by exact U6a 5 hT8 yd zc rfl rfl rfl rfl rfl (Uo zub)):=h
def Z9f(h:A→B:=by exact U6a 6 hT8 yd zc rfl rfl rfl rfl rfl (Uo zub)):=h
def Jwg(h:A→B:=by exact Kt zxb rfl rfl rfl rfl):=h
end
def Zef {fl:List XSpan} {f:XFace}:Ydg fl [f]=[K8b fl f]:=rfl
abbrev Uyf (s:XSite) (w:List XWatch) (t:Int):Nat→Option Int:=fun i=>nzO (K3c (s.conds.l.getD i default) (w.getD i default) t)
abbrev Yfg (s:XSite) (m:List XMeas) (w:List XWatch) (fl:List XSpan) (t:Int):Nat→Int:=fun i=>Yid s.sensors.l m fl (s.conds.l.getD i default) (w.getD i default) t
abbrev V6g (s:XSite) (m:List XMeas) (w:List XWatch) (t:Int):Nat→XWatch:=fun i=>Kqb s.sensors.l m (s.conds.l.getD i default) (w.getD i default) t
structure ValsA (s:XSite) (m:Arr XMeas) (w:Arr XWatch) (fl:Arr XSpan) (R:LS):Prop where
 site:SiteR s R
 mR:InR (Yy m) R
 wR:InR (Jqe w) R
 flR:InR (Yob fl) R
 ok:∀x∈m.l,K9a x
def Z6c {s:XSite} {m:List XMeas} {w:List XWatch} {fl:List XSpan} {t:Int} (h0:Ue s=0) (h1:m.length=s.sensors.l.length∧w.length=s.conds.l.length∧fl.length=s.air.mine.roads.l.length) (h2:¬ (t < 0∨2147483648 < t)):valuesErr s m w fl t=((List.range w.length).findSome? (Uyf s w t)).getD 0:=by rw [valuesErr,if_neg za,if_neg (fun h=>h h1),if_neg h2]
def Khe (s:XSite) (m:Arr XMeas) (w:Arr XWatch) (fl:Arr XSpan) (t:Int) (L:LB) (R:LS) (h:ValsA s m w fl R):
 Tri Tryz.prog 154 [s.val, m.val, w.val, fl.val, .int .i64 t].toArray L R
  (fun v U J=>∃(p:OwL Int) (q:OwL XWatch),v=.tuple #[p.val,q.val,.int .i64 (valuesErr s m.l w.l fl.l t)]∧(p.ok 1 Jk∧q.ok 3 XWatch.cells)∧p.l=valuesV s m.l w.l fl.l t∧q.l=valuesW s m.l w.l fl.l t∧p.L 3 Jk ++ (q.L 153 XWatch.cells ++ L)=U∧R=J):=by
 obtain ⟨hs,hm,hw,hfl,hok⟩:=h;have hsR:=hs.sensors;have hcR:=hs.conds;refine Je 152 Tryz.call154 Tryz.func154 rfl rfl rfl ?_;apply (Xaf);intro b5;apply Xb2∘Xar∘Vrg;refine q_l rfl (Kqa s _ _ hs) ?_;apply (Xbh);refine q_c ?_ ?_<;>intro hc0;·
  apply Xbk∘Xb2∘Xao;refine q_r L R zyd ?_;have he:valuesErr s m.l w.l fl.l t=Ue s:=by rw [valuesErr,if_pos hc0]
  exact Zje
 have hsk:=Z2 (s:=s) za;have hsl:=hsk.len;have hrl:=(V1 hsk.air).mine.roads;apply qbo∘Xaq∘Xab∘Xb7;apply J6 (G:=[_,_,_,_,_,_]) (j:=6) (cj:=32) rfl rfl zb rfl zsb rfl;·intro hg7;replace hg7:=qb hg7;exact (Xaq∘Xab) zNd
 intro junk7;apply (qah);apply J6 (G:=[_,_,_,_,_,_,_,_]) (j:=14) (cj:=40) rfl rfl zb rfl zsb rfl;·
  intro hg15;replace hg15:=qb hg15;apply (Xaq);iterate 3 apply (qab)
  exact (qac∘qag) zNd
 intro junk15;apply (qaf);refine q_c ?_ ?_<;>intro hc1;·
  apply qae∘Xb2∘Xao;refine q_r L R zyd ?_;have he:valuesErr s m.l w.l fl.l t=11:=by rw [valuesErr,if_neg za,if_pos za]
  exact Zje
 apply Xc4∘Xav;apply J6 (G:=[_,_]) (j:=2) (cj:=52) rfl rfl zb rfl zsb rfl;·exact zKd
 intro junk3;apply (qaf);refine q_c ?_ ?_<;>intro hc2;·
  apply qae∘Xb2∘Xao;refine q_r L R zyd ?_;have he:valuesErr s m.l w.l fl.l t=8:=by rw [valuesErr,if_neg za,if_neg za,if_pos za]
  exact Zje
 have hve:=Z6c (s:=s) (m:=m.l) (w:=w.l) (fl:=fl.l) (t:=t) za za za;apply (qcl);refine Vkc [56,57,58,59,60,14,15] ((⟨fun g=>[(14,.slice (some ⟨g.1.1,0,none⟩) w.l.length w.l.length),(15,(⟨g.1.2,w.l⟩:OwL XWatch).val)],fun g=>(⟨.own g.1.1 w.l.length [],List.replicate w.l.length 0⟩:OwL Int).L 3 Jk ++ ((⟨g.1.2,w.l⟩:OwL XWatch).L 153 XWatch.cells ++ (⟨b5,s.cells,38⟩ :: L)),fun _=>R,fun _=>0⟩:Head {g:Nat×Ow // (⟨g.2,w.l⟩:OwL XWatch).ok 3 XWatch.cells})) ?_ ?_;·
  skip
  refine Uwb tb [] [0,1,3,2,4,5,6] [] (_) [] 7 Kq zc rfl rfl zi fun hT8=>?_;refine U6a 0 hT8 yd zc rfl rfl rfl rfl rfl zrd ?_;refine U6a 1 hT8 yd zc rfl rfl rfl rfl rfl zVb ?_;refine U6a 3 hT8 yd zc rfl rfl rfl rfl rfl zrd ?_;refine Jg [2,4] hT8 yd zc ?_;refine Jt ?_ ?_;·
   skip
   refine Ks rfl zrc rfl rfl ?_;rintro v U J ⟨b58,rfl,rfl,hR58⟩;replace hR58:=hR58.symm;subst hR58;apply (qa1);refine Jg [4] hT8 yd zc ?_;apply qca∘U8g;rintro v U J ⟨o60,rfl,hok60,rfl,rfl⟩;exact uaP
  apply qca∘U8g;rintro v U J ⟨o60,rfl,hok60,rfl,rfl⟩;apply (qa1);refine Jg [2] hT8 yd zc ?_;apply (qca);refine Ks rfl zrc rfl rfl ?_;rintro v U J ⟨b58,rfl,rfl,hR58⟩;replace hR58:=hR58.symm;subst hR58;exact uaP
 rintro ⟨⟨b,o⟩,hok60⟩ junk;try dsimp only
 dsimp only at hok60;apply qbi∘Xay;refine Jm [(1,.slice _ _ _),(2,.slice _ _ _),(3,.slice _ _ _),(4,.int _ _),(5,.pointer _),(14,.slice _ _ _),(15,.slice _ _ _),(62,.slice _ _ _),(63,.int _ _),(64,.int _ _)] zh fun tq0=>?_;refine q_p ([10,11,12,16,17,18,19,20]++rg 64 86) ((⟨fun g=>[(64,.int .i64 ((g.1.1:Nat):Int))],fun g=>(⟨.own b w.l.length [],g.1.2.1⟩:OwL Int).L 3 Jk ++ ((⟨o,g.1.2.2⟩:OwL XWatch).L 153 XWatch.cells ++ (⟨b5,s.cells,38⟩ :: L)),fun _=>R,fun g=>w.l.length - g.1.1⟩:Head {g:Nat×List Int×List XWatch // (g.1≤w.l.length∧(List.range w.l.length).findSome? (Uyf s w.l t)=((List.range w.l.length).drop g.1).findSome? (Uyf s w.l t))∧WrTo w.l.length 0 (Yfg s m.l w.l fl.l t) g.1 g.2.1∧WrO w.l (V6g s m.l w.l t) g.1 g.2.2})) (⟨(0,List.replicate w.l.length 0,w.l),⟨by dsimp only;omega,by rw [ypb]⟩,.zero,.zero⟩) ?_;rintro ⟨⟨k,vs,ws⟩,⟨hk,hp⟩,hV,hW⟩ junk;try dsimp only
 dsimp only at hk hp hV hW;have hvl:=hV.len;have hwl:=hW.len;have hvk:(⟨.own b w.l.length [],vs⟩:OwL Int).ok 1 Jk:=by have:=Yc (f:=Jk) (wd:=1) (b:=b) (n:=w.l.length) (x:=0) Vh zD;exact OwL.len_ok Vh this (by simp;exact hvl)
 have hwk:(⟨o,ws⟩:OwL XWatch).ok 3 XWatch.cells:=OwL.len_ok yf hok60 hwl;apply (Xam);refine q_c ?_ ?_<;>intro hc3;·
  have hcg:=Jn (l:=s.conds.l) (k:=k) default za;have hwg:=Jn (l:=w.l) (k:=k) default za;have hvg:=hV.non k (ym _) za;have hwg2:=hW.old k (ym _);rw [hwg] at hwg2;have hcf:=V4c (hsk.cond _ (yi hcg));have hVn:=fun (v:Int)=>hV.next (x:=v) za;have hWn:=fun (v:XWatch)=>hW.next (x:=v) za;have hpn:=Zu (f:=Uyf s w.l t) hp za;have hps:=fun (e:Int) (he:Uyf s w.l t k=some e)=>Yn (f:=Uyf s w.l t) hp za he;obtain ⟨c,hc⟩:∃c,c=s.conds.l.getD k default:=⟨_,rfl⟩;obtain ⟨wk,hwe⟩:∃wk,wk=w.l.getD k default:=⟨_,rfl⟩;obtain ⟨X,hX⟩:∃X,X=Uca s.sensors.l m.l c.target t:=⟨_,rfl⟩;have hvE:Uyf s w.l t k=nzO (K3c c wk t):=by rw [hc,hwe]
  have hvV:Yfg s m.l w.l fl.l t k=Yid s.sensors.l m.l fl.l c wk t:=by rw [hc,hwe]
  have hvW:V6g s m.l w.l t k=Kqb s.sensors.l m.l c wk t:=by rw [hc,hwe]
  rw [← hc] at hcg hcf;rw [← hwe] at hwg hwg2;rw [hvV] at hVn;rw [hvE] at hpn hps;rw [hvW] at hWn;rw [Yid,← hX] at hVn;rw [K3c] at hpn hps;apply (Xa1);refine Jy zC rfl ?_;refine Jy zhb rfl ?_;apply (qaq);intro b17;apply qad∘Xaz∘Vrg∘qbm∘Xah;refine q_l rfl (Kbd s m c.target t _ _ hsR hm hok za) ?_;rw [← hX];apply (qaq);intro b18;apply (Xcd);refine Kc (Jb (Kk (Jq (Jh ?_))));apply (Xa6);refine q_c ?_ ?_<;>intro hc4;·
   refine Jq ?_;refine Ki tb [0,1,2,3,4,5,6,7,8,9,10,11,12,13,14] ([Blk.mk b18 _ _,Blk.mk b17 _ _]) Kq zc zi ?_;apply (qal);refine K0 zxb rfl rfl rfl ?_;refine K0 zrd rfl rfl rfl ?_;apply qao∘qds∘qdv∘qbd∘qao;refine q_d rfl (J1f c.level wk X t _ _) ?_;refine K0 zSb rfl rfl rfl ?_;refine K0 zhc rfl rfl rfl ?_;refine K0 zhc rfl rfl rfl ?_;apply (qbr);intro b19;apply Xdj∘qc6∘qaa∘Xat;refine q_c ?_ ?_<;>intro hc5;·apply Xbk∘Xb2∘qad;refine Kc (Jb (Uq (Kg (Kf (Kf (Kg (Yt (Kf (Kg ?_)))))))));refine q_r L R zyd ?_;have hfe:=hps (Ze c.level wk t) (by rw [if_pos hc4,Ymc hc5]);(have he:valuesErr s m.l w.l fl.l t=Ze c.level wk t:=by rw [hve,hfe];rfl);exact Zje
   (have hse:Ze c.level wk t=0:=by omega);rw [Zhd hse];refine J5 (Jb ?_);refine J7 tb [96,97] [0,1,2,3,4,5,6,7,8,9] [10,11,12] ([Blk.mk b19 _ _,Blk.mk b18 _ _,Blk.mk b17 _ _]) _ Kq zc zi (by (repeat (first | apply List.Sublist.cons (a:=Blk.mk b15 _ _) | apply List.Sublist.cons (a:=Blk.mk b14 _ _) | apply List.Sublist.cons_cons));exact yt _) ?_;apply (Xdq);refine Vo zrd rfl rfl rfl rfl ?_;refine Vo zqd rfl rfl rfl rfl ?_;apply (Jwg);refine Kt (Jo (row:=[_,_,_,_,_,_]) tb rfl rfl rfl zf zb zb) rfl rfl rfl rfl ?_;apply (Jwg);refine Kt zIb rfl rfl rfl rfl ?_;refine K6 rfl (K5f c (Kga c.level wk X t) X _ _) rfl rfl ?_;rintro v U J ⟨rfl,rfl,rfl⟩;refine ⟨zi,zq,?_⟩;refine Kt (Js tb ((⟨o,ws⟩:OwL XWatch)) _ rfl rfl ((show _=Value.slice _ _ _ from rfl).trans (by simp only [OwL.val,hwl])) rfl zg (i:=k) zk zt) rfl rfl rfl rfl ?_;apply (qba);refine Kjb (Uj tb ((⟨o,ws⟩:OwL XWatch)) (Kga c.level wk X t) rfl rfl rfl rfl zj zg yf zg (yQ rfl) zb zb) rfl rfl ?_;rintro v U J ⟨rfl,rfl⟩;apply (qa1);refine K0 zpd rfl rfl rfl ?_;refine Kjb (Ju tb ((⟨.own b w.l.length [],vs⟩:OwL Int)) (if (Kga c.level wk X t).over=false then -1 else if Kea X c.level.cut=1 then 1 else 0) rfl rfl rfl rfl zj zg yf zg ze zb zb) rfl rfl ?_;rintro v U J ⟨rfl,rfl⟩;apply (qa1);refine J1 (Ji (Ji (Jb (Jh ?_))));apply (Xad);exact q_k ⟨(k + 1,vs.set k (if (Kga c.level wk X t).over=false then -1 else if Kea X c.level.cut=1 then 1 else 0),ws.set k (Kga c.level wk X t)),hpn (by rw [if_pos hc4,hse];rfl),hVn _ (by rw [if_neg (show ¬ c.kind=5 by omega),if_neg (show ¬ c.kind=2 by omega),if_neg (show ¬ c.kind=3 by omega),if_neg (show ¬ c.kind=4 by omega)]),hWn _ (by rw [Kqb,if_pos hc4,hX])⟩
  have hst:Kqb s.sensors.l m.l c wk t=wk:=by rw [Kqb,if_neg hc4]
  have hWk:=hW.stay (show w.l[k]?=some (V6g s m.l w.l t k) by rw [hvW,hwg,hst]);have hpk:=hpn (by rw [if_neg hc4];rfl);apply (Xbx);refine q_c ?_ ?_<;>intro hc6;·apply Xb5∘qbe∘Xaa;refine q_l rfl (Jcc X c.value _ _) ?_;(have hab:-1≤Kea X c.value∧Kea X c.value≤1:=by rw [Kea];(repeat' split) <;> omega);apply qcq∘Z0e;refine V6 (Ju tb ((⟨.own b w.l.length [],vs⟩:OwL Int)) (-(Kea X c.value)) rfl rfl rfl rfl zj zg yf zg ze zb zb) ?_;rintro v U J ⟨rfl,rfl⟩;refine Kc (Ji (Ji (Jb (Jh ?_))));apply (Xad);exact q_k ⟨(k + 1,vs.set k (-(Kea X c.value)),ws),hpk,hVn _ (by rw [if_neg za,if_pos hc6]),hWk⟩
  apply (Xbx);refine q_c ?_ ?_<;>intro hc7;·apply Xb5∘qbe;refine q_l rfl (K0d X _ _) ?_;apply (Z0e);refine V6 (Ju tb ((⟨.own b w.l.length [],vs⟩:OwL Int)) (Uqa X) rfl rfl rfl rfl zj zg yf zg ze zb zb) ?_;rintro v U J ⟨rfl,rfl⟩;refine Kc (Ji (Ji (Jb (Jh ?_))));apply (Xad);exact q_k ⟨(k + 1,vs.set k (Uqa X),ws),hpk,hVn _ (by rw [if_neg za,if_neg za,if_pos hc7]),hWk⟩
  apply (Xbx);refine q_c ?_ ?_<;>intro hc8;·
   apply qae∘Xap∘Z0e;refine V6 (Ju tb ((⟨.own b w.l.length [],vs⟩:OwL Int)) (-1) rfl rfl rfl rfl zj zg yf zg ze zb zb) ?_;rintro v U J ⟨rfl,rfl⟩;apply (qa4);refine Ki tb [0,1,2] ([Blk.mk b18 _ _]) Kq zc zi ?_;apply (qbd);refine q_d rfl (Ud _ _) ?_;refine K0 (Jbc Vde rfl rfl) rfl rfl rfl ?_;apply (qbu);refine q_c ?_ ?_<;>intro hc9;·have hvk2:=OwL.set_ok (p:=(⟨.own b w.l.length [],vs⟩:OwL Int)) (i:=k) (x:= -1) Vh hvk;have hvg2:(vs.set k (-1))[k]?=some (-1):=yI za;apply (Xb5);refine Jy (Js tb ((⟨.own b w.l.length [],vs.set k (-1)⟩:OwL Int)) _ rfl rfl ((show _=Value.slice _ _ _ from rfl).trans (Un (by rw [yL];exact hvl))) rfl zg (i:=k) zk zt) rfl ?_;refine V6 (Ju tb ((⟨.own b w.l.length [],vs.set k (-1)⟩:OwL Int)) (1) rfl rfl rfl rfl zj zg yf zg ze zb zb) ?_;rintro v U J ⟨rfl,rfl⟩;refine Kc (Ji (Ji (Jb (Jh ?_))));apply (Xad);exact q_k ⟨(k + 1,(vs.set k (-1)).set k 1,ws),hpk,by dsimp only;rw [yPa];exact hVn _ (by rw [if_neg za,if_neg za,if_neg za,if_pos hc8,if_pos (Vtc.2 za)]),hWk⟩
   refine J5 (Ji (Ji (Jb (Jh ?_))));apply (Xad);exact q_k ⟨(k + 1,vs.set k (-1),ws),hpk,hVn _ (by rw [if_neg za,if_neg za,if_neg za,if_pos hc8,if_neg (fun e=>by rw [Vtc] at e;omega)]),hWk⟩
  apply (Xbx);refine q_c ?_ ?_<;>intro hc10;·apply Xb5∘qbm∘Xa2∘qcd;refine Yv zec rfl ?_;rintro v U J ⟨b143,rfl,rfl,hR143⟩;replace hR143:=hR143.symm;subst hR143;refine Uga (wd:=2) (len:=1) (cap:=1) (rows:=[XFace.cells ⟨c.target,c.value⟩]) (subs:=[]) rfl ze ze (fun r hr=>by rw [List.mem_singleton.1 hr];rfl) ze rfl yg ?_;refine Jw rfl (Z6e fl ⟨some ⟨b143,0,none⟩,1,[⟨c.target,c.value⟩]⟩ _ _ (hfl.mono fun r h=>Ja (by simp [h])) zJb (fun f hf=>by rw [List.mem_singleton.1 hf];dsimp only;omega) (show 1≤1000 by decide) za) rfl ?_;rintro v U J ⟨p,rfl,hpk1,hpl,rfl,rfl⟩;rw [Zef] at hpl;(have hp0:p.l[0]?=some (K8b fl.l ⟨c.target,c.value⟩):=by rw [hpl];rfl);(have hpn1:p.l.length=1:=by rw [hpl];rfl);(have hfb:-1≤K8b fl.l ⟨c.target,c.value⟩∧K8b fl.l ⟨c.target,c.value⟩≤1:=by rw [K8b,Zae];(repeat' split) <;> omega);refine Jy (Js tb (p) _ rfl rfl rfl rfl zg (i:=0) zk zt) rfl ?_;refine Jy zPb rfl ?_;apply qcq∘Z0e;refine V6 (Ju tb ((⟨.own b w.l.length [],vs⟩:OwL Int)) (-(K8b fl.l ⟨c.target,c.value⟩)) rfl rfl rfl rfl zj zg yf zg ze zb zb) ?_;rintro v U J ⟨rfl,rfl⟩;refine Kc (Ji (Ji (Jb (Jh ?_))));apply (Xad);exact Kd ⟨(k + 1,vs.set k (-(K8b fl.l ⟨c.target,c.value⟩)),ws),hpk,hVn _ (by rw [if_pos hc10]),hWk⟩ zm zh zi (fun r h=>Ja (by simp [h])) zx
  (exfalso;omega)
 obtain rfl:k=w.l.length:=by omega
 have hn:=J9a (f:=Uyf s w.l t) hp (ym _);have he:valuesErr s m.l w.l fl.l t=0:=by rw [hve,hn];rfl
 apply Xcm∘qbm∘Xb2∘Xak;refine q_r ((⟨.own b w.l.length [],vs⟩:OwL Int).L 3 Jk ++ ((⟨o,ws⟩:OwL XWatch).L 153 XWatch.cells ++ L)) R zyd ?_;exact ⟨(⟨.own b w.l.length [],vs⟩:OwL Int),(⟨o,ws⟩:OwL XWatch),by rw [he,OwL.val,OwL.val,hvl,hwl];try rfl,⟨hvk,hwk⟩,by rw [valuesV,if_neg za];exact hV.done,by rw [valuesW,if_neg za];exact hW.done,rfl,rfl⟩
end
section
attribute [local irreducible] CJ LJ DJ Tri YV Gives U5 J2 Kn U6 RV J4 OwL.L
section
variable {A B:Prop}
def Y7f(h:B:=by exact ⟨.nil,.nil,by rw [he];rfl,⟨OwL.nil_ok,OwL.nil_ok⟩,by rw [cutsC,if_pos za],by rw [cutsN,if_pos za],by rw [Km,Km];rfl,rfl⟩):=h
end
def Z1d {s:XSite} {v:List Int} {c:List XCut} {k:Nat}:Yqa s v c (k + 1)=if Z6a (s.zones.l.getD k default).rule.l v≠-1∧(c.getD k default).off=false then Yqa s v c k ++ [(k:Int)] else Yqa s v c k:=rfl
def J7d {s : XSite} {v : List Int} {c : List XCut} : ∀ n, (Yqa s v c n).length ≤ n
 | 0=>by simp [Yqa]
 | n + 1=>by
  have:=J7d (s:=s) (v:=v) (c:=c) n
  rw [Yqa]
  split
  ·rw [yl,yx];omega
  ·omega
def Zte (s:XSite) (u:Arr Int) (c:Arr XCut) (t:Int) (L:LB) (R:LS) (hs:SiteR s R) (hv:InR (isl u) R) (hc:InR (Vic c) R):
 Tri Tryz.prog 155 [s.val, u.val, c.val, .int .i64 t].toArray L R
  (fun z U J=>∃(p:OwL XCut) (q:OwL Int),z=.tuple #[p.val,q.val,.int .i64 (cutsErr s u.l c.l t)]∧(p.ok 3 XCut.cells∧q.ok 1 Jk)∧p.l=cutsC s u.l c.l t∧q.l=cutsN s u.l c.l t∧q.L 3 Jk ++ (p.L 71 XCut.cells ++ L)=U∧R=J):=by
 have hzR:=hs.zones;refine Je 93 Tryz.call155 Tryz.func155 rfl rfl rfl ?_;apply (Xaf);intro b4;apply Xb2∘Xar;refine Jy zAb rfl ?_;refine q_l rfl (Kqa s _ _ hs) ?_;apply (Xbh);refine q_c ?_ ?_<;>intro hc0;·
  apply Xbk∘Xb2∘Xao;refine q_r L R zyd ?_;have he:cutsErr s u.l c.l t=Ue s:=by rw [cutsErr,if_pos hc0]
  exact Y7f
 have hsk:=Z2 (s:=s) za;have hsl:=hsk.len;apply qbo∘Xaq∘Xab∘Xb7;apply J6 (G:=[_,_,_,_,_,_]) (j:=6) (cj:=29) rfl rfl zb rfl zsb rfl;·intro hg7;replace hg7:=qb hg7;exact (Xaq∘Xab) zNd
 intro junk7;apply (qaf);refine q_c ?_ ?_<;>intro hc1;·
  apply qae∘Xb2∘Xao;refine q_r L R zyd ?_;have he:cutsErr s u.l c.l t=11:=by rw [cutsErr,if_neg za,if_pos za]
  exact Y7f
 apply Xc4∘Xav;apply J6 (G:=[_,_]) (j:=2) (cj:=39) rfl rfl zb rfl zsb rfl;·exact zKd
 intro junk3;apply (qaf);refine q_c ?_ ?_<;>intro hc2;·
  apply qae∘Xb2∘Xao;refine q_r L R zyd ?_;have he:cutsErr s u.l c.l t=8:=by rw [cutsErr,if_neg za,if_neg za,if_pos za]
  exact Y7f
 have he:cutsErr s u.l c.l t=0:=by rw [cutsErr,if_neg za,if_neg za,if_neg za]
 apply qbv∘qbm;refine Yv (Kp (f:=XCut.cells) (xs:=c) tb rfl rfl rfl ze rfl rfl (hc) yf za) rfl ?_;rintro v U J ⟨o44,rfl,hok44,rfl,rfl⟩;apply (Xcy);obtain ⟨OO,hOO⟩:∃OO,OO=o44:=⟨_,rfl⟩;rw [← hOO] at hok44 ⊢;apply qay∘Xbr∘Xay;refine Jm [(1,.slice _ _ _),(3,.int _ _),(12,.slice _ _ _),(13,.slice _ _ _),(46,.slice _ _ _),(47,.int _ _),(48,.int _ _)] zh fun tq0=>?_;refine Uh ([13,14,15,16,17]++rg 48 43) ((⟨fun g=>[(48,.int .i64 ((g.1.1:Nat):Int)),(13,g.1.2.2.val)],fun g=>g.1.2.2.L 3 Jk ++ ((⟨OO,g.1.2.1⟩:OwL XCut).L 71 XCut.cells ++ (⟨b4,s.cells,38⟩ :: L)),fun _=>R,fun g=>c.l.length - g.1.1⟩:Head {g:Nat×List XCut×OwL Int // g.1≤c.l.length∧WrO c.l (cutAt s u.l c.l t) g.1 g.2.1∧g.2.2.ok 1 Jk∧g.2.2.l=Yqa s u.l c.l g.1})) (⟨(0,c.l,OwL.nil),by dsimp only;omega,.zero,OwL.nil_ok,rfl⟩) zh zU zLb ?_;rintro ⟨⟨k,cs,q⟩,hk,hW,hqk,hql⟩ junk;try dsimp only
 dsimp only at hk hW hqk hql;have hwl:=hW.len;have hck:(⟨OO,cs⟩:OwL XCut).ok 3 XCut.cells:=OwL.len_ok yf hok44 hwl;have hqn:q.l.length≤k:=by rw [hql];exact J7d k
 apply (Xam);refine q_c ?_ ?_<;>intro hc3;·
  have hzg:=Jn (l:=s.zones.l) (k:=k) default za;have hcg0:=Jn (l:=c.l) (k:=k) default za;have hcg:=hW.old k (ym _);rw [hcg0] at hcg;have hWn:=fun (x:XCut)=>hW.next (x:=x) za;have hWs:=hW.stay (i:=k);have hns:=Z1d (s:=s) (v:=u.l) (c:=c.l) (k:=k);obtain ⟨z,hz⟩:∃z,z=s.zones.l.getD k default:=⟨_,rfl⟩;obtain ⟨ck,hcke⟩:∃ck,ck=c.l.getD k default:=⟨_,rfl⟩;obtain ⟨V,hV⟩:∃V,V=Z6a z.rule.l u.l:=⟨_,rfl⟩;have hat:cutAt s u.l c.l t k=Zxf V ck t:=by rw [cutAt,hV,hz,hcke]
  rw [← hz] at hzg;rw [← hcke] at hcg hcg0;rw [← hz,← hcke,← hV] at hns;rw [hat] at hWn;rw [hat,hcg0] at hWs;apply (Xa1);refine Jy zC rfl ?_;apply (Xdo);intro b15;apply qad∘Xaz∘Xap;refine Jy (Js tb ((⟨OO,cs⟩:OwL XCut)) _ rfl rfl ((show _=Value.slice _ _ _ from rfl).trans (by simp only [OwL.val,hwl])) rfl zg (i:=k) zk zt) rfl ?_;apply qc1∘Xd8∘qbm;refine q_l rfl (K8c z.rule u _ _ (InR.rule hzR hzg) hv) ?_;rw [← hV];apply Xck∘Xbu;refine q_c ?_ ?_<;>intro hc4;·
   apply qbi∘qa6;refine Jy zWb rfl ?_;apply (qb0);refine Jy (J9 tb ((⟨OO,cs⟩:OwL XCut)) rfl rfl rfl zj zg yf zg zb) rfl ?_;apply (Xbu);refine q_c ?_ ?_<;>intro hc5;·apply qay∘Xcu;refine Jy zWb rfl ?_;apply (qb0);refine V6 (Ju tb ((⟨OO,cs⟩:OwL XCut)) (⟨ck.off,t,ck.reason⟩) rfl rfl rfl rfl zj zg yf zg ze zb zb) ?_;rintro v U J ⟨rfl,rfl⟩;refine Kc (Jb (K5 (Kj (J3 (Jb (Jh ?_))))));apply (Xad);exact q_k ⟨(k + 1,cs.set k ⟨ck.off,t,ck.reason⟩,q),by dsimp only;omega,hWn _ (by rw [Zxf,if_pos hc4,if_pos hc5]),hqk,by dsimp only;rw [hns,if_neg za];exact hql⟩
   refine J5 (Jb (K5 (Kj (J3 (Jb (Jh ?_))))));apply (Xad);exact q_k ⟨(k + 1,cs,q),by dsimp only;omega,hWs (by rw [Zxf,if_pos hc4,if_neg hc5]),hqk,by dsimp only;rw [hns,if_neg za];exact hql⟩
  apply qbv∘qa6;refine Jy zWb rfl ?_;apply (qb0);refine V6 (Ju tb ((⟨OO,cs⟩:OwL XCut)) (⟨ck.off,-1,ck.reason⟩) rfl rfl rfl rfl zj zg yf zg ze zb zb) ?_;rintro v U J ⟨rfl,rfl⟩;apply (qa4);have hck1:=OwL.set_ok (f:=XCut.cells) (wd:=3) (p:=(⟨OO,cs⟩:OwL XCut)) (i:=k) (x:=⟨ck.off,-1,ck.reason⟩) yf hck;have hcg1:(cs.set k ⟨ck.off,-1,ck.reason⟩)[k]?=some ⟨ck.off,-1,ck.reason⟩:=yI za;apply qay∘qa6;refine Jy zWb rfl ?_;apply (qb0);refine Jy (J9 tb ((⟨OO,cs.set k ⟨ck.off,-1,ck.reason⟩⟩:OwL XCut)) rfl rfl rfl zj zg yf zg zb) rfl ?_;apply (Xbl);refine q_c ?_ ?_<;>intro hc6;·have hck2:=OwL.set_ok (f:=XCut.cells) (wd:=3) (p:=(⟨OO,cs.set k ⟨ck.off,-1,ck.reason⟩⟩:OwL XCut)) (i:=k) (x:=⟨true,-1,ck.reason⟩) yf hck1;have hcg2:((cs.set k ⟨ck.off,-1,ck.reason⟩).set k ⟨true,-1,ck.reason⟩)[k]?=some ⟨true,-1,ck.reason⟩:=yI zha;apply qae∘qa6∘Xcu;refine Jy zWb rfl ?_;apply (qb0);refine V6 (Ju tb ((⟨OO,cs.set k ⟨ck.off,-1,ck.reason⟩⟩:OwL XCut)) (⟨true,-1,ck.reason⟩) rfl rfl rfl rfl zj zg yf zg ze zb zb) ?_;rintro v U J ⟨rfl,rfl⟩;refine Jy zWb rfl ?_;apply (qb0);refine V6 (Ju tb ((⟨OO,(cs.set k ⟨ck.off,-1,ck.reason⟩).set k ⟨true,-1,ck.reason⟩⟩:OwL XCut)) (⟨true,-1,V⟩) rfl rfl rfl rfl zj zg yf zg ze zb zb) ?_;rintro v U J ⟨rfl,rfl⟩;refine Kc (Jb (Jh ?_));apply Xap∘qcx;rintro v U J ⟨b88,rfl,rfl,hR88⟩;replace hR88:=hR88.symm;subst hR88;refine Yv (Jx (f:=Jk) (a:=(k:Int)) tb rfl rfl rfl rfl (hqk) zj zDb rfl zy) rfl ?_;rintro v U J ⟨o89,rfl,hok89,rfl,rfl⟩;apply (Xdh);exact q_k ⟨(k + 1,((cs.set k ⟨ck.off,-1,ck.reason⟩).set k ⟨true,-1,ck.reason⟩).set k ⟨true,-1,V⟩,(⟨o89,_⟩:OwL Int)),by dsimp only;omega,by dsimp only;rw [yPa,yPa];exact hWn _ (by rw [Zxf,if_neg hc4,if_neg (by simpa using hc6)]),hok89,by dsimp only;rw [hns,if_pos ⟨hc4,by simpa using hc6⟩,hql]⟩
  apply (Xaw);exact q_k ⟨(k + 1,cs.set k ⟨ck.off,-1,ck.reason⟩,q),by dsimp only;omega,hWn _ (by rw [Zxf,if_neg hc4,if_pos (by simpa using hc6)];rw [show ck.off=true by simpa using hc6]),hqk,by dsimp only;rw [hns,if_neg (fun h=>by have:=h.2;simp [this] at hc6)];exact hql⟩
 obtain rfl:k=c.l.length:=by omega
 apply Xcm∘qbm∘Xb2∘Xak;refine q_r (q.L 3 Jk ++ ((⟨OO,cs⟩:OwL XCut).L 71 XCut.cells ++ L)) R zyd ?_;exact ⟨(⟨OO,cs⟩:OwL XCut),q,by rw [he,OwL.val,OwL.val,hwl];try rfl,⟨hck,hqk⟩,by rw [cutsC,if_neg za];exact hW.done,by rw [cutsN,if_neg za];exact hql,rfl,rfl⟩
end
end Go.Proofs.YtchfclmokpbldaaGreat
