/-
  Merged texts. By an AI agent.
-/
import Derived.Test.YtchfclmokpbldaaGreatStaA
import Derived.Test.YtchfclmokpbldaaGreatStatM
set_option linter.all false
set_option maxHeartbeats 4000000
set_option maxRecDepth 20000
namespace Go.Proofs.YtchfclmokpbldaaGreat
open Go.Aw Go
section
attribute [local irreducible] CJ LJ DJ Tri YV Gives U7 Kb Kp U8 RV Ke OwL.L
section
variable {A B:Prop}
def Jmg(h:A→B:=by exact Kz zBb rfl rfl rfl rfl):=h
end
def SiteE.set {s s':XSite} (h:SiteE s s') (m:List XMeas) (t:Int):Uie s m t=Uie s' m t:=by rw [Uie,Uie,Vaa,Vaa,J6a,J6a,h.nfans,h.ndoors,h.sens];have e:∀i:Nat,(s.air.doors.l.getD i default).rests.l=(s'.air.doors.l.getD i default).rests.l:=h.door;simp only [e]
def SiteE.flows {s s':XSite} (h:SiteE s s') (A:List Bool) (m:List XMeas) (t:Int):Uka s A m t=Uka s' A m t:=by
 have e:∀q:Sts,flS s.air A q=flS s'.air A q:=fun q=>by rw [flS,flS,(AirE.of (s:=mkS q) (s':=mkS q) h.air rfl).ana A]
 rw [Uka,Uka,h.set,e,h.sens]
def K3c {m:XMine} {u v:Nat} (h:Conn (Ync m) u v):Conn m u v:=by
 induction h with
 | refl=>exact .refl
 | tail _ k ih=>exact .tail ih k
def Kvc {m:XMine} {u v:Nat} (h:Conn m u v):Conn (Ync m) u v:=by
 induction h with
 | refl=>exact .refl
 | tail _ k ih=>exact .tail ih k
def Zcc (m:XMine) (A:List Bool):AiryIs (Ync m) A↔AiryIs m A:=
 ⟨fun h=>⟨h.len,fun i hi=>(h.iff i hi).trans ⟨fun ⟨j,h1,h2,h3⟩=>⟨j,h1,h2,K3c h3⟩,fun ⟨j,h1,h2,h3⟩=>⟨j,h1,h2,Kvc h3⟩⟩⟩,fun h=>⟨h.len,fun i hi=>(h.iff i hi).trans ⟨fun ⟨j,h1,h2,h3⟩=>⟨j,h1,h2,Kvc h3⟩,fun ⟨j,h1,h2,h3⟩=>⟨j,h1,h2,K3c h3⟩⟩⟩⟩
def SiteE.airy {s s':XSite} (h:SiteE s s') {A:List Bool} (hA:AiryIs s'.air.mine A):AiryIs s.air.mine A:=by have e:Ync s.air.mine=Ync s'.air.mine:=congrArg XAir.mine h.air;rw [← Zcc,e,Zcc];exact hA
def Ykb {S:List XSens} {kind target:Int} {k:Nat} (hk:k < S.length) (h:(S.getD k default).kind=kind∧(S.getD k default).target=target) (hal:∀j:Nat,j < k→¬ ((S.getD j default).kind=kind∧(S.getD j default).target=target)):Ypc S kind target=some k:=by rw [Ypc,ynb];exact ⟨by simpa using h,by rw [yKa];exact hk,fun j hj=>by have:=hal j hj;simp only [yfb,decide_eq_false_iff_not];exact this⟩
def Ztb {S:List XSens} {kind target:Int} (hal:∀j:Nat,j < S.length→¬ ((S.getD j default).kind=kind∧(S.getD j default).target=target)):Ypc S kind target=none:=by rw [Ypc,List.find?_eq_none];intro j hj;rw [yKa] at hj;simpa using hal j hj
structure StaV (x:XSta) (R:LS):Prop where
 site:SiteR x.site R
 meas:InR (V3a x.meas) R
 mok:∀m∈x.meas.l,Uua m
 mlen:x.meas.l.length≤1000
 time:0≤x.time∧x.time≤2147483648
 ok:K7 x.site=0
def StaV.of {g:PSite} {p:PSta} {x:XSta} {R:LS} (hI:Inv g p) (hx:StaIs g p x) (h1:SiteR x.site R) (h2:InR (V3a x.meas) R):StaV x R:=
 ⟨h1,h2,by rw [hx.meas];exact hI.mok,by rw [hx.meas,hI.meas];have:=hI.sok.len;omega,by rw [hx.time];exact hI.time,by rw [hx.site.err];exact hI.site⟩
def Y8c (x:XSta) (kind target n:Int) (L:LB) (R:LS) (h:StaV x R):
 Tri Tryz.prog 128 [x.val,.int .i64 kind,.int .i64 target,.int .i64 n].toArray L R (fun v M U=>v=.int .i64 (Zb x.site.sensors.l x.meas.l x.time kind target n)∧L=M∧R=U):=by
 have hsR:=h.site.sensors;have hln:=(Ys h.ok).len;refine Jd 58 Tryz.call128 Tryz.func128 rfl rfl rfl ?_;apply (Xag);intro b4;apply Xau∘qab∘Xbh;refine Jh [(1,.int _ _),(2,.int _ _),(3,.int _ _),(4,.pointer _),(14,.slice _ _ _),(15,.int _ _),(16,.int _ _)] zg fun tq0=>?_;refine q_s ([8,9,10,11]++rg 16 42) (fun g:{k:Nat // k≤x.site.sensors.l.length∧∀j:Nat,j < k→¬ ((x.site.sensors.l.getD j default).kind=kind∧(x.site.sensors.l.getD j default).target=target)}=>[(16,.int .i64 ((g.1:Nat):Int))]) (fun g=>x.site.sensors.l.length - g.1) (⟨0,by omega,fun j hj=>by omega⟩) ?_;rintro ⟨k,hk,hal⟩ junk;try dsimp only
 apply (Xay);refine q_c ?_ ?_<;>intro hc0;·
  have hg:=Js (l:=x.site.sensors.l) (k:=k) default zc;apply (Xbv);refine J0 zC rfl ?_;refine J0 zia rfl ?_;apply (qaq);intro b10;apply qad∘Xbi∘Xaf∘Xb8;apply J3 (G:=[_,_,_,_]) (j:=4) (cj:=25) rfl rfl ze rfl ztb rfl;·intro hg5;replace hg5:=qb hg5;exact (Xaf) zUd
  intro junk5;apply (qaf);refine q_c ?_ ?_<;>intro hc1;·refine K5 (Kk (J8 (Ja (Je ?_))));apply (Xan);exact uaw
  have hfs:=Ykb (S:=x.site.sensors.l) (kind:=kind) (target:=target) (k:=k) zc zc hal;apply qbo∘qab;refine J0 zxb rfl ?_;apply Xaf∘Xaa;refine q_l rfl (Zwc x.site x.meas (k:Int) x.time _ _ hsR h.meas h.mok h.time) ?_;apply (qaq);intro b11;apply Xbe∘Xbl∘Xcn;apply Ue (G:=[_,_,_]) (j:=5) (cj:=44) rfl rfl ze rfl ztb rfl;·intro hg6;replace hg6:=qb hg6;exact (Xaa) zie
  intro junk6;apply (qah);apply Ue (G:=[_,_,_,_]) (j:=10) (cj:=49) rfl rfl ze rfl ztb rfl;·intro hg11;replace hg11:=qb hg11;exact (Xaf) zJe
  exact ubT
 exact ubC
def Zub (x:XSta) (L:LB) (R:LS) (h:StaV x R):
 Tri Tryz.prog 54 [x.val].toArray L R (fun v M U=>∃pf pd:Arr Int,v=.agg #[pf.val,pd.val]∧pf.l=Vaa x.site x.meas.l x.time x.site.air.fans.l.length∧pd.l=J6a x.site x.meas.l x.time x.site.air.doors.l.length∧L=M∧isl pd :: isl pf :: R=U):=by
 have hfR:=h.site.air.fans;have hdR:=h.site.air.doors;have hao:=Ve (Ys h.ok).air;have hnf:=hao.nfans;have hnd:=hao.ndoors;refine Jd 47 Tryz.call54 Tryz.func54 rfl rfl rfl ?_;apply (Xag);intro b1;apply (qaq);intro b2;apply qam∘qaq;intro b3;apply (qaw);iterate 3 apply (qab)
 apply Xcc∘Xa0;refine Jh [(1,.pointer _),(2,.pointer _),(3,.pointer _),(11,.int _ _),(12,.int _ _)] zg fun tq0=>?_;refine K8 ([4]++rg 12 12) ((⟨fun g=>[(12,.int .i64 ((g.1.1:Nat):Int))],fun g=>⟨b3,[g.1.2.val,.slice none 0 0],80⟩ :: (g.1.2.L 3 Jj ++ (⟨b2,[.slice none 0 0,.slice none 0 0],80⟩ :: ⟨b1,x.cells,54⟩ :: L)),fun _=>R,fun g=>x.site.air.fans.l.length - g.1.1⟩:Head {g:Nat×OwL Int // g.1≤x.site.air.fans.l.length∧g.2.ok 1 Jj∧g.2.l=Vaa x.site x.meas.l x.time g.1})) (⟨(0,OwL.nil),by dsimp only;omega,OwL.nil_ok,rfl⟩) zg zZ zJb ?_;rintro ⟨⟨k,pf⟩,hk,hfk,hfl⟩ junk;try dsimp only
 dsimp only at hk hfk hfl;have hfn:pf.l.length=k:=by rw [hfl,Knb]
 apply (Xay);refine q_c ?_ ?_<;>intro hc0;·apply Xbv∘qad∘qaf;refine Kh tb [] [0,1,2,3,4,5] [6,7,8] (_) _ Kn zf zk yd ?_;apply Xah∘Jmg∘qbf;refine Kv rfl (Y8c x 5 (k:Int) 3 _ _ h) rfl rfl ?_;rintro v M U ⟨rfl,rfl,rfl⟩;refine ⟨zk,zu,?_⟩;apply (qc9);rintro v M U ⟨b20,rfl,rfl,hR20⟩;replace hR20:=hR20.symm;subst hR20;apply (Xb3);refine V7a zsd rfl rfl rfl ?_;rintro v M U ⟨o21,rfl,hok21,rfl,rfl⟩;exact (Xdb∘Xer) zNe
 obtain rfl:k=x.site.air.fans.l.length:=by omega
 apply (qcf);iterate 3 apply (qab)
 apply Xcc∘Xa0;refine Jh [(1,.pointer _),(2,.pointer _),(3,.pointer _),(27,.slice _ _ _),(28,.int _ _),(29,.int _ _)] zg fun tq1=>?_;refine K8 ([5,6]++rg 29 17) ((⟨fun g=>[(29,.int .i64 ((g.1.1:Nat):Int))],fun g=>⟨b3,[pf.val,g.1.2.val],80⟩ :: (g.1.2.L 3 Jj ++ (pf.L 3 Jj ++ (⟨b2,[.slice none 0 0,.slice none 0 0],80⟩ :: ⟨b1,x.cells,54⟩ :: L))),fun _=>R,fun g=>x.site.air.doors.l.length - g.1.1⟩:Head {g:Nat×OwL Int // g.1≤x.site.air.doors.l.length∧g.2.ok 1 Jj∧g.2.l=J6a x.site x.meas.l x.time g.1})) (⟨(0,OwL.nil),by dsimp only;omega,OwL.nil_ok,rfl⟩) zg zZ zJb ?_;rintro ⟨⟨j,pd⟩,hj,hdk,hdl⟩ junk;try dsimp only
 dsimp only at hj hdk hdl;have hdn:pd.l.length=j:=by rw [hdl,Y8a]
 apply (Xay);refine q_c ?_ ?_<;>intro hc1;·have hg:=Js (l:=x.site.air.doors.l) (k:=j) default zc;apply (Xbv);refine J0 zX rfl ?_;apply qdk∘qaq;intro b6;apply qad∘qak∘qaf;refine Kh tb [] [0,1,2,3,4,5,6,7,8] [9,10,11] (_) _ Kn zf zk yd ?_;apply Xah∘Jmg∘qbf∘Xah;refine Kz zHb rfl rfl rfl rfl ?_;refine Kv rfl (Y8c x 6 (j:Int) _ _ _ h) rfl rfl ?_;rintro v M U ⟨rfl,rfl,rfl⟩;refine ⟨zk,zu,?_⟩;apply (qc9);rintro v M U ⟨b42,rfl,rfl,hR42⟩;replace hR42:=hR42.symm;subst hR42;apply (Xb3);refine V7a zhd rfl rfl rfl ?_;rintro v M U ⟨o43,rfl,hok43,rfl,rfl⟩;apply Xdb∘Xer;exact q_k ⟨(j + 1,⟨o43,pd.l ++ [Zb x.site.sensors.l x.meas.l x.time 6 (j:Int) ((x.site.air.doors.l.getD j default).rests.l.length:Int)]⟩),by dsimp only;omega,hok43,by dsimp only;rw [V9b,hdl]⟩
 exact zWd
def V0c (s:XSite) (A:List Bool) (m:List XMeas) (t:Int) {pf pd:Arr Int} (h1:pf.l=Vaa s m t s.air.fans.l.length) (h2:pd.l=J6a s m t s.air.doors.l.length):Uka s A m t=(J1e (Zza s.air ⟨pf,pd⟩ A).2 nothingS 3 s.sensors.l m t).out:=by
 rw [Uka,← V7f s.air ⟨pf,pd⟩ A];have e:Jlc (⟨pf,pd⟩:XSetting)=Uie s m t:=by show (pf.l,pd.l)=_;rw [h1,h2,Uie]
 rw [e]
def Kbb (x:XSta) (A:List Bool) (L:LB) (R:LS) (h:StaV x R) (hA:AiryIs x.site.air.mine A):
 Tri Tryz.prog 58 [x.val].toArray L R (fun v M U=>∃fl:Arr XSpan,v=fl.val∧fl.l=Uka x.site A x.meas.l x.time∧L=M∧J2c fl :: R=U):=by
 have hsR:=h.site.sensors;have hso:=Ys h.ok;have hln:=hso.len;have hrn:=(Ve hso.air).mine.roads;refine Jd 27 Tryz.call58 Tryz.func58 rfl rfl rfl ?_;apply (Xag);intro b1;apply (Xd3);refine Kg tb [0,1,2,3,4,5,6,7,8,9,10] _ Kn zf ye ?_;apply qal∘qal∘qbc;refine Kq zBb rfl rfl rfl ?_;refine Vn rfl (Zub x _ _ h) rfl rfl ?_;rintro v M U ⟨pf,pd,rfl,hfl,hdl,rfl,rfl⟩;refine ⟨zk,zu,?_⟩;refine Vn rfl (Ubd x.site.air ⟨pf,pd⟩ A _ _ (Vs h.site.air fun r hr=>Jb (.tail _ (.tail _ hr))) ⟨Jb (.tail _ (.head _)),Jb (.head _)⟩ (fun _=>hA)) rfl rfl ?_;rintro v M U ⟨q,rfl,hqk,hql,rfl,rfl⟩;refine ⟨zk,zu,?_⟩;refine Kq zcc rfl rfl rfl ?_;refine Kq zkc rfl rfl rfl ?_;refine Kq zkc rfl rfl rfl ?_;refine Kq (Ux zvb) rfl rfl rfl ?_;apply qcg∘qb9;have hfit:J8a x.site.air ⟨pf,pd⟩=true:=by exact zWe
 have hqn:q.l.length=x.site.air.mine.roads.l.length:=by rw [hql];exact J6d hso.air hfit hA
 refine Kt (T:=90) (f:=XSpan.cells) (wd:=2) q [] zm yf zj hqk yg ?_;refine V4 zA ?_;have h4:∀r∈R,InR r (J2c q.arr :: isl pd :: isl pf :: R):=fun r hr=>Jb (.tail _ (.tail _ (.tail _ hr)));apply qay∘qbm∘qab∘Xbl∘Xaa;refine Ju rfl (Jzd q.arr x.site.sensors x.meas x.time _ _ zRb (hsR.mono h4) (h.meas.mono h4) (by show q.l.length≤1000;omega) zc h.mlen h.mok h.time) rfl ?_;rintro v M U ⟨p2,q2,rfl,⟨hp2k,hq2k⟩,hp2l,hq2l,rfl,rfl⟩;refine J0 zcc rfl ?_;apply Xbq∘Xd3;refine Kt (T:=90) (f:=XSpan.cells) (wd:=2) p2 [] zm yf zj hp2k yg ?_;refine V4 zA ?_;apply qay∘Xej;refine Ku (M:=L) (U:=J2c p2.arr :: R) zzd ?hp ?hL ?hR;case hp=>exact ⟨p2.arr,rfl,by show p2.l=_;rw [hp2l,V0c x.site A x.meas.l x.time hfl hdl,← hql],rfl,rfl⟩
 case hL=>exact zk
 case hR=>
  exact fun r hr=>by
   rcases List.mem_cons.1 hr with h | h;·rw [h];exact Jb (.head _)
   ·exact Jb (.tail _ (.tail _ (.tail _ (.tail _ h))))
end
section
attribute [local irreducible] CJ LJ DJ Tri YV Gives U7 Kb Kp U8 RV Ke OwL.L
section
variable {A B:Prop}
def Zlf(h:A→B:=by exact J0 (by first | exact Jf tb rfl rfl rfl rfl zB (i:=r.zone.toNat) zo zc | exact Jm tb rfl rfl rfl rfl (i:=r.zone.toNat) zo zc) rfl):=h
end
def Jee (L:LB) (R:LS):
 Tri Tryz.prog 79 ([]:List Value).toArray L R (fun v M U=>v=(⟨true,-1,0⟩:XWatch).val∧L=M∧R=U):=by refine Jd 2 Tryz.call79 Tryz.func79 rfl rfl rfl ?_;exact zWf
def Jpd (L:LB) (R:LS):Tri Tryz.prog 123 ([]:List Value).toArray L R (fun v M U=>v=noRest.val∧L=M∧R=U):=by refine Jd 2 Tryz.call123 Tryz.func123 rfl rfl rfl ?_;exact zXf
def Uve (c:Arr XCut) (r:XRest) (L:LB) (R:LS) (hc:InR (J6c c) R):
 Tri Tryz.prog 157 [c.val,r.val].toArray L R (fun v M U=>v=(J1a c.l r).val∧L=M∧R=U):=by
 refine Ua Tryz.call157 hc fun hcn=>?_;refine Jd 39 Tryz.call157 Tryz.func157 rfl rfl rfl ?_;apply (Xag);intro b3;apply (qaq);intro b4;apply qaw∘Xaa∘Xcn;apply J3 (G:=[_,_,_,_,_,_,_,_,_,_,_,_,_,_,_,_,_,_,_,_,_,_,_,_,_,_,_]) (j:=3) (cj:=8) rfl rfl ze rfl ztb rfl;·
  intro hg4;replace hg4:=qb hg4;apply Xaa∘qbz∘qah;apply Ue (G:=[_,_,_,_,_]) (j:=7) (cj:=12) rfl rfl ze rfl ztb rfl;·intro hg8;replace hg8:=qb hg8;exact (Xaa∘Xaq) zJe
  intro junk8;apply (qah);apply Ue (G:=[_,_,_,_,_,_]) (j:=14) (cj:=19) rfl rfl ze rfl ztb rfl;·intro hg15;replace hg15:=qb hg15;have hcg:=Js (l:=c.l) (k:=r.zone.toNat) default zc;exact (Xc9∘Zlf∘Xbd) qai
  intro junk15;apply (qah);apply Ue (G:=[_,_,_,_,_,_,_]) (j:=22) (cj:=27) rfl rfl ze rfl ztb rfl;·intro hg23;replace hg23:=qb hg23;have hcg:=Js (l:=c.l) (k:=r.zone.toNat) default zc;exact (Xc9∘Zlf∘Xex) qai
  intro junk23;exact qai
 intro junk4;apply (qaf);refine q_c ?_ ?_<;>intro hc0;·apply (qae);refine J0 zZb rfl ?_;apply (Xdj);refine q_r L R (U3 rfl zLb) ?_;exact ⟨by rw [J1a,if_pos (by rw [Ksc];simpa [and_assoc] using hc0)],rfl,rfl⟩
 apply (qbv);refine q_l rfl (V3d _ _) ?_;apply (Xbf);refine q_r L R (U3 rfl zLb) ?_;exact ⟨by
 rw [J1a,if_neg];rw [Ksc];rintro (h | ⟨h1,h2,h3⟩);·exact hc0.1 h
 ·
  rcases hc0.2 with (h | h) | h;·omega
  ·rw [h] at h2;cases h2
  ·exact h h3,rfl,rfl⟩
def Zhe {A:LB} {R:LS} {p:OwL XCut} (r:XRest) (hp:InB (p.L 71 XCut.cells) A) (okp:p.ok 3 XCut.cells):
 Tri Tryz.prog 157 [p.val,r.val].toArray A R (fun v M U=>v=(J1a p.l r).val∧A=M∧R=U):=
 Tri.lendU (S:=[J6c p.arr]) (fun w G hh s hs=>by
  rw [List.mem_singleton.1 hs]
  exact Y2 (T:=71) hh hp okp yf zj yg) (Uve p.arr r [] _ zRb)
end
end Go.Proofs.YtchfclmokpbldaaGreat
