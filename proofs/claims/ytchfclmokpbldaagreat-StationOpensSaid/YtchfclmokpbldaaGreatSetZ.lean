/-
  Merged texts. By an AI agent.
-/
import Derived.Test.YtchfclmokpbldaaGreatLevK
import Derived.Test.YtchfclmokpbldaaGreatRefN
import Derived.Test.YtchfclmokpbldaaGreatCongrS
import Derived.Test.YtchfclmokpbldaaGreatMadeB
set_option linter.all false
set_option maxHeartbeats 4000000
set_option maxRecDepth 20000
namespace Go.Proofs.YtchfclmokpbldaaGreat
open Go.Aw Go
section
attribute [local irreducible] CJ LJ DJ Tri YV Gives U7 Kb Kp U8 RV Ke OwL.L
section
variable {A B:Prop}
def Kbg(h:A→B:=by exact J0 zC rfl):=h
def Y5f(h:A→B:=by exact Kz zBb rfl rfl rfl rfl):=h
end
def Uyb (x:XSta) (kind target n:Int) (L:LB) (R:LS) (h:StaV x R):
 Tri Tryz.prog 129 [x.val,.int .i64 kind,.int .i64 target,.int .i64 n].toArray L R (fun v M U=>v=.int .i64 (Zb x.site.sensors.l x.meas.l x.time kind target n)∧L=M∧R=U):=by
 have hsR:=h.site.sensors;have hln:=(Ys h.ok).len;refine Jd 65 Tryz.call129 Tryz.func129 rfl rfl rfl ?_;apply (Xag);intro b4;apply Xau∘Xat;refine Jh [(1,.int _ _),(2,.int _ _),(3,.int _ _),(4,.pointer _),(9,.int _ _)] zg fun tq0=>?_;refine q_s (rg 8 57) (fun g:{k:Nat // k≤x.site.sensors.l.length∧∀j:Nat,j < k→¬ ((x.site.sensors.l.getD j default).kind=kind∧(x.site.sensors.l.getD j default).target=target)}=>[(9,.int .i64 ((g.1:Nat):Int))]) (fun g=>x.site.sensors.l.length - g.1) (⟨0,by omega,fun j hj=>by omega⟩) ?_;rintro ⟨k,hk,hal⟩ junk;try dsimp only
 apply Xap∘qab∘Xa9;refine q_c ?_ ?_<;>intro hc0;·
  have hg:=Js (l:=x.site.sensors.l) (k:=k) default zc;refine Jt (Ja (Ji (Jy (Ji (Ji (Je ?_))))));apply Xc3∘Kbg∘Xdt∘Xb8;apply J3 (G:=[_,_,_,_,_,_,_,_,_]) (j:=9) (cj:=28) rfl rfl ze rfl ztb rfl;·intro hg10;replace hg10:=qb hg10;exact (Xc3∘Kbg∘Xdt) zUd
  intro junk10;apply (qaf);refine q_c ?_ ?_<;>intro hc1;·refine K5 (Kk (J8 (Ja (Je ?_))));apply (Xak);exact uaw
  have hfs:=Ykb (S:=x.site.sensors.l) (kind:=kind) (target:=target) (k:=k) zc zc hal;apply qbv∘qab;refine J0 zxb rfl ?_;apply Xaf∘Xaa;refine q_l rfl (Yqc x.site x.meas (k:Int) x.time _ _ hsR h.meas h.mok h.time) ?_;apply (qaq);intro b10;apply Xbi∘Xbl∘Xcn;apply Ue (G:=[_,_,_]) (j:=5) (cj:=52) rfl rfl ze rfl ztb rfl;·intro hg6;replace hg6:=qb hg6;exact (Xaa) zie
  intro junk6;apply (qah);apply Ue (G:=[_,_,_,_]) (j:=10) (cj:=57) rfl rfl ze rfl ztb rfl;·intro hg11;replace hg11:=qb hg11;exact (Xaf) zJe
  exact ubT
 exact ubC
def Z9a (x:XSta) (L:LB) (R:LS) (h:StaV x R):
 Tri Tryz.prog 55 [x.val].toArray L R (fun v M U=>∃pf pd:Arr Int,v=.agg #[pf.val,pd.val]∧pf.l=Vaa x.site x.meas.l x.time x.site.air.fans.l.length∧pd.l=J6a x.site x.meas.l x.time x.site.air.doors.l.length∧L=M∧isl pd :: isl pf :: R=U):=by
 have hfR:=h.site.air.fans;have hdR:=h.site.air.doors;have hao:=Ve (Ys h.ok).air;have hnf:=hao.nfans;have hnd:=hao.ndoors;refine Jd 50 Tryz.call55 Tryz.func55 rfl rfl rfl ?_;apply (Xag);intro b1;apply (qaq);intro b2;apply qam∘qaq;intro b3;apply qaw∘Xat;refine Jh [(1,.pointer _),(2,.pointer _),(3,.pointer _),(4,.int _ _)] zg fun tq0=>?_;refine K8 ([4]++rg 6 17) ((⟨fun g=>[(4,.int .i64 ((g.1.1:Nat):Int))],fun g=>⟨b3,[g.1.2.val,.slice none 0 0],80⟩ :: (g.1.2.L 3 Jj ++ (⟨b2,[.slice none 0 0,.slice none 0 0],80⟩ :: ⟨b1,x.cells,54⟩ :: L)),fun _=>R,fun g=>x.site.air.fans.l.length - g.1.1⟩:Head {g:Nat×OwL Int // g.1≤x.site.air.fans.l.length∧g.2.ok 1 Jj∧g.2.l=Vaa x.site x.meas.l x.time g.1})) (⟨(0,OwL.nil),by dsimp only;omega,OwL.nil_ok,rfl⟩) zg zZ zJb ?_;rintro ⟨⟨k,pf⟩,hk,hfk,hfl⟩ junk;try dsimp only
 dsimp only at hk hfk hfl;have hfn:pf.l.length=k:=by rw [hfl,Knb]
 apply (Xap);iterate 3 apply (qab)
 apply Xcc∘Xao;refine q_c ?_ ?_<;>intro hc0;·refine Jt (Ja (Ji (Jy ?_)));refine Kh tb [] [0,1,2,3,4,5] [6,7,8] ([Blk.mk b3 _ _,Blk.mk b1 _ _]) _ Kn zf zk yd ?_;apply Xah∘Y5f∘qbf;refine Kv rfl (Uyb x 5 (k:Int) 3 _ _ h) rfl rfl ?_;rintro v M U ⟨rfl,rfl,rfl⟩;refine ⟨zk,zu,?_⟩;apply (qc9);rintro v M U ⟨b20,rfl,rfl,hR20⟩;replace hR20:=hR20.symm;subst hR20;apply (Xb3);refine V7a zsd rfl rfl rfl ?_;rintro v M U ⟨o21,rfl,hok21,rfl,rfl⟩;exact (Xdb∘Xcd) zNe
 obtain rfl:k=x.site.air.fans.l.length:=by omega
 apply (Xdl);refine Jh [(1,.pointer _),(2,.pointer _),(3,.pointer _),(5,.int _ _)] zg fun tq1=>?_;refine K8 ([5]++rg 23 26) ((⟨fun g=>[(5,.int .i64 ((g.1.1:Nat):Int))],fun g=>⟨b3,[pf.val,g.1.2.val],80⟩ :: (g.1.2.L 3 Jj ++ (pf.L 3 Jj ++ (⟨b2,[.slice none 0 0,.slice none 0 0],80⟩ :: ⟨b1,x.cells,54⟩ :: L))),fun _=>R,fun g=>x.site.air.doors.l.length - g.1.1⟩:Head {g:Nat×OwL Int // g.1≤x.site.air.doors.l.length∧g.2.ok 1 Jj∧g.2.l=J6a x.site x.meas.l x.time g.1})) (⟨(0,OwL.nil),by dsimp only;omega,OwL.nil_ok,rfl⟩) zg zZ zJb ?_;rintro ⟨⟨j,pd⟩,hj,hdk,hdl⟩ junk;try dsimp only
 dsimp only at hj hdk hdl;have hdn:pd.l.length=j:=by rw [hdl,Y8a]
 apply (Xap);iterate 3 apply (qab)
 apply Xcc∘Xao;refine q_c ?_ ?_<;>intro hc1;·
  have hg:=Js (l:=x.site.air.doors.l) (k:=j) default zc;refine Jt (Ja (Ji (Jy ?_)));refine Kh tb [] [0,1,2,3,4,5,6,7,8,9,10,11,12,13,14] [15,16,17] ([Blk.mk b3 _ _,Blk.mk b1 _ _]) _ Kn zf zk yd ?_;apply Xah∘Y5f∘qbf;iterate 3 apply (qan)
  apply qau∘qbf;refine Kz zX rfl rfl rfl rfl ?_;apply qcv∘qci;refine Kz zHb rfl rfl rfl rfl ?_;refine Kv rfl (Uyb x 6 (j:Int) _ _ _ h) rfl rfl ?_;rintro v M U ⟨rfl,rfl,rfl⟩;refine ⟨zk,zu,?_⟩;apply (qc9);rintro v M U ⟨b46,rfl,rfl,hR46⟩;replace hR46:=hR46.symm;subst hR46;apply (Xb3);refine V7a zhd rfl rfl rfl ?_;rintro v M U ⟨o47,rfl,hok47,rfl,rfl⟩;apply Xdb∘Xcd;exact q_k ⟨(j + 1,⟨o47,pd.l ++ [Zb x.site.sensors.l x.meas.l x.time 6 (j:Int) ((x.site.air.doors.l.getD j default).rests.l.length:Int)]⟩),by dsimp only;omega,hok47,by dsimp only;rw [V9b,hdl]⟩
 exact zWd
def Z2c (x:XSta) (A:List Bool) (L:LB) (R:LS) (h:StaV x R) (hA:AiryIs x.site.air.mine A):
 Tri Tryz.prog 59 [x.val].toArray L R (fun v M U=>∃fl:Arr XSpan,v=fl.val∧fl.l=Uka x.site A x.meas.l x.time∧L=M∧J2c fl :: R=U):=by
 have hsR:=h.site.sensors;have hso:=Ys h.ok;have hln:=hso.len;have hrn:=(Ve hso.air).mine.roads;refine Jd 31 Tryz.call59 Tryz.func59 rfl rfl rfl ?_;apply (Xag);intro b1;apply (Xd3);refine Kg tb [0,1,2,3,4,5,6,7,8,9,10] ([Blk.mk b1 _ _]) Kn zf zk ?_;apply qal∘qal∘qbc;refine Kq zBb rfl rfl rfl ?_;refine Vn rfl (Z9a x _ _ h) rfl rfl ?_;rintro v M U ⟨pf,pd,rfl,hfl,hdl,rfl,rfl⟩;refine ⟨zk,zu,?_⟩;refine Vn rfl (Z2b x.site.air ⟨pf,pd⟩ A _ _ (Vs h.site.air fun r hr=>Jb (.tail _ (.tail _ hr))) ⟨Jb (.tail _ (.head _)),Jb (.head _)⟩ (fun _=>hA)) rfl rfl ?_;rintro v M U ⟨q,rfl,hqk,hql,rfl,rfl⟩;refine ⟨zk,zu,?_⟩;refine Kq zcc rfl rfl rfl ?_;refine Kq zkc rfl rfl rfl ?_;refine Kq zkc rfl rfl rfl ?_;refine Kq (Ux zvb) rfl rfl rfl ?_;apply (qcg);refine J9 (Ja (Ji (Ji ?_)));have hfit:J8a x.site.air ⟨pf,pd⟩=true:=by exact zWe
 have hqn:q.l.length=x.site.air.mine.roads.l.length:=by rw [hql];exact J6d hso.air hfit hA
 refine Kt (T:=90) (f:=XSpan.cells) (wd:=2) q [] zm yf zj hqk yg ?_;refine V4 zA ?_;have h4:∀r∈R,InR r (J2c q.arr :: isl pd :: isl pf :: R):=fun r hr=>Jb (.tail _ (.tail _ (.tail _ hr)));have hok:=Z7e hso.air hfit hA;apply Xb0∘Xaw;refine q_c ?_ ?_<;>intro hc0;·
  apply Xdi∘qbh;refine Ku (M:=L) (U:=R) zzd ?hp ?hL ?hR;case hp=>exact absurd (by first | exact hok | exact hok.1) hc0
  case hL=>exact zk
  case hR=>exact fun r hr=>Jb zJ
 apply Xdx∘qab∘Xbl∘Xaa;refine Ju rfl (Jic q.arr x.site.sensors x.meas x.time _ _ zRb (hsR.mono h4) (h.meas.mono h4) (by show q.l.length≤1000;omega) zc h.mlen h.mok h.time) rfl ?_;rintro v M U ⟨p2,q2,rfl,hp2k,hp2l,rfl,hR2⟩;refine J0 zcc rfl ?_;apply Xbq∘Xb7∘qa4;refine Kt (T:=90) (f:=XSpan.cells) (wd:=2) p2 [] zm yf zj hp2k yg ?_;refine V4 zA ?_;apply qay∘Xej;refine Ku (M:=L) (U:=J2c p2.arr :: R) zzd ?hp ?hL ?hR;case hp=>exact ⟨p2.arr,rfl,by show p2.l=_;rw [hp2l,V0c x.site A x.meas.l x.time hfl hdl,← hql],rfl,rfl⟩
 case hL=>exact zk
 case hR=>
  exact fun r hr=>by
   rcases List.mem_cons.1 hr with h | h;·rw [h];exact Jb (.head _)
   ·exact ((h4 r h).mono hR2).mono fun r hr=>Jb (.tail _ hr)
end
section
attribute [local irreducible] CJ LJ DJ Tri YV Gives U7 Kb Kp U8 RV Ke OwL.L
def Zne (L:LB) (R:LS):
 Tri Tryz.prog 54 [staZ.val].toArray L R (fun v M U=>v=.agg #[.slice none 0 0,.slice none 0 0]∧L=M∧R=U):=by
 refine Jd 47 Tryz.call54 Tryz.func54 rfl rfl rfl ?_;apply (Xag);intro b1;apply (qaq);intro b2;apply qam∘qaq;intro b3;apply (qaw);iterate 3 apply (qab)
 apply Xcc∘Xa0;refine Jh [(1,.pointer _),(2,.pointer _),(3,.pointer _),(11,.int _ _),(12,.int _ _)] zg fun tq0=>?_;refine q_s ([4]++rg 12 12) (fun g:{k:Nat // k=0}=>[(12,.int .i64 ((g.1:Nat):Int))]) (fun g=>0) (⟨0,rfl⟩) ?_;rintro ⟨k,hk⟩ junk;try dsimp only
 apply (Xay);refine q_c ?_ ?_<;>intro hc0;·refine Jt (Ja (Ji (Jy (Ji ?_))));exact ubU
 apply (qcf);iterate 3 apply (qab)
 apply Xcc∘Xa0;refine Jh [(1,.pointer _),(2,.pointer _),(3,.pointer _),(27,.slice _ _ _),(28,.int _ _),(29,.int _ _)] zg fun tq1=>?_;refine q_s ([5,6]++rg 29 17) (fun g:{k:Nat // k=0}=>[(29,.int .i64 ((g.1:Nat):Int))]) (fun g=>0) (⟨0,rfl⟩) ?_;rintro ⟨j,hj⟩ junk;try dsimp only
 apply (Xay);refine q_c ?_ ?_<;>intro hc1;·refine Jt (Ja (Ji (Jy (Ji ?_))));exact ubV
 exact zOf
def Kkd (L:LB) (R:LS):
 Tri Tryz.prog 55 [staZ.val].toArray L R (fun v M U=>v=.agg #[.slice none 0 0,.slice none 0 0]∧L=M∧R=U):=by
 refine Jd 50 Tryz.call55 Tryz.func55 rfl rfl rfl ?_;apply (Xag);intro b1;apply (qaq);intro b2;apply qam∘qaq;intro b3;apply qaw∘Xat;refine Jh [(1,.pointer _),(2,.pointer _),(3,.pointer _),(4,.int _ _)] zg fun tq0=>?_;refine q_s ([4]++rg 6 17) (fun g:{k:Nat // k=0}=>[(4,.int .i64 ((g.1:Nat):Int))]) (fun g=>0) (⟨0,rfl⟩) ?_;rintro ⟨k,hk⟩ junk;try dsimp only
 apply (Xap);iterate 3 apply (qab)
 apply Xcc∘Xao;refine q_c ?_ ?_<;>intro hc0;·refine Jt (Ja (Ji (Jy ?_)));exact ubU
 apply (Xdl);refine Jh [(1,.pointer _),(2,.pointer _),(3,.pointer _),(5,.int _ _)] zg fun tq1=>?_;refine q_s ([5]++rg 23 26) (fun g:{k:Nat // k=0}=>[(5,.int .i64 ((g.1:Nat):Int))]) (fun g=>0) (⟨0,rfl⟩) ?_;rintro ⟨j,hj⟩ junk;try dsimp only
 apply (Xap);iterate 3 apply (qab)
 apply Xcc∘Xao;refine q_c ?_ ?_<;>intro hc1;·refine Jt (Ja (Ji (Jy ?_)));exact ubV
 exact zOf
end
end Go.Proofs.YtchfclmokpbldaaGreat
