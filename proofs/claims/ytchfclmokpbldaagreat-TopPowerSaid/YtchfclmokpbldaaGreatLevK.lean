/-
  Merged texts. By an AI agent.
-/
import Derived.Test.YtchfclmokpbldaaGreatStaA
import Derived.Test.YtchfclmokpbldaaGreatStatM
set_option linter.all false
set_option maxHeartbeats 4000000
set_option maxRecDepth 20000
namespace Go.Proofs.YtchfclmokpbldaaGreat
open Go.Aw Go
section
attribute [local irreducible] CJ LJ DJ Tri YV Gives U0 J3 Kj Uz RV J5 OwL.L
section
variable {A B:Prop}
def V3f(h:A→B:=by exact Ku zlb rfl rfl rfl rfl):=h
end
def SiteE.set {s s':XSite} (h:SiteE s s') (m:List XMeas) (t:Int):V3e s m t=V3e s' m t:=by rw [V3e,V3e,Jjb,Jjb,U5a,U5a,h.nfans,h.ndoors,h.sens];have e:∀i:Nat,(s.air.doors.l.getD i default).rests.l=(s'.air.doors.l.getD i default).rests.l:=h.door;simp only [e]
def SiteE.flows {s s':XSite} (h:SiteE s s') (A:List Bool) (m:List XMeas) (t:Int):V9a s A m t=V9a s' A m t:=by
 have e:∀q:Sts,flS s.air A q=flS s'.air A q:=fun q=>by rw [flS,flS,(AirE.of (s:=mkS q) (s':=mkS q) h.air rfl).ana A]
 rw [V9a,V9a,h.set,e,h.sens]
def J0c {m:XMine} {u v:Nat} (h:Conn (Uxc m) u v):Conn m u v:=by
 induction h with
 | refl=>exact .refl
 | tail _ k ih=>exact .tail ih k
def J1c {m:XMine} {u v:Nat} (h:Conn m u v):Conn (Uxc m) u v:=by
 induction h with
 | refl=>exact .refl
 | tail _ k ih=>exact .tail ih k
def Ybc (m:XMine) (A:List Bool):AiryIs (Uxc m) A↔AiryIs m A:=
 ⟨fun h=>⟨h.len,fun i hi=>(h.iff i hi).trans ⟨fun ⟨j,h1,h2,h3⟩=>⟨j,h1,h2,J0c h3⟩,fun ⟨j,h1,h2,h3⟩=>⟨j,h1,h2,J1c h3⟩⟩⟩,fun h=>⟨h.len,fun i hi=>(h.iff i hi).trans ⟨fun ⟨j,h1,h2,h3⟩=>⟨j,h1,h2,J1c h3⟩,fun ⟨j,h1,h2,h3⟩=>⟨j,h1,h2,J0c h3⟩⟩⟩⟩
def SiteE.airy {s s':XSite} (h:SiteE s s') {A:List Bool} (hA:AiryIs s'.air.mine A):AiryIs s.air.mine A:=by have e:Uxc s.air.mine=Uxc s'.air.mine:=congrArg XAir.mine h.air;rw [← Ybc,e,Ybc];exact hA
def J1d {S:List XSens} {kind target:Int} {k:Nat} (hk:k < S.length) (h:(S.getD k default).kind=kind∧(S.getD k default).target=target) (hal:∀j:Nat,j < k→¬ ((S.getD j default).kind=kind∧(S.getD j default).target=target)):V7c S kind target=some k:=by rw [V7c,yTa];exact ⟨by simpa using h,by rw [yya];exact hk,fun j hj=>by have:=hal j hj;simp only [yhb,decide_eq_false_iff_not];exact this⟩
def Kqd {S:List XSens} {kind target:Int} (hal:∀j:Nat,j < S.length→¬ ((S.getD j default).kind=kind∧(S.getD j default).target=target)):V7c S kind target=none:=by rw [V7c,List.find?_eq_none];intro j hj;rw [yya] at hj;simpa using hal j hj
structure StaV (x:XSta) (R:LS):Prop where
 site:SiteR x.site R
 meas:InR (V5 x.meas) R
 mok:∀m∈x.meas.l,Uca m
 mlen:x.meas.l.length≤1000
 time:0≤x.time∧x.time≤2147483648
 ok:K6 x.site=0
def StaV.of {g:PSite} {p:PSta} {x:XSta} {R:LS} (hI:Inv g p) (hx:StaIs g p x) (h1:SiteR x.site R) (h2:InR (V5 x.meas) R):StaV x R:=
 ⟨h1,h2,by rw [hx.meas];exact hI.mok,by rw [hx.meas,hI.meas];have:=hI.sok.len;omega,by rw [hx.time];exact hI.time,by rw [hx.site.err];exact hI.site⟩
def Y6c (x:XSta) (kind target n:Int) (L:LB) (R:LS) (h:StaV x R):
 Tri Tryz.prog 128 [x.val,.int .i64 kind,.int .i64 target,.int .i64 n].toArray L R (fun v M U=>v=.int .i64 (Kfa x.site.sensors.l x.meas.l x.time kind target n)∧L=M∧R=U):=by
 have hsR:=h.site.sensors;have hln:=(Zz h.ok).len;refine Jj 58 Tryz.call128 Tryz.func128 rfl rfl rfl ?_;apply (Xaf);intro b4;apply Xap∘qab∘Xaw;refine Jp [(1,.int _ _),(2,.int _ _),(3,.int _ _),(4,.pointer _),(14,.slice _ _ _),(15,.int _ _),(16,.int _ _)] zh fun tq0=>?_;refine q_s ([8,9,10,11]++rg 16 42) (fun g:{k:Nat // k≤x.site.sensors.l.length∧∀j:Nat,j < k→¬ ((x.site.sensors.l.getD j default).kind=kind∧(x.site.sensors.l.getD j default).target=target)}=>[(16,.int .i64 ((g.1:Nat):Int))]) (fun g=>x.site.sensors.l.length - g.1) (⟨0,by omega,fun j hj=>by omega⟩) ?_;rintro ⟨k,hk,hal⟩ junk;try dsimp only
 apply (Xak);refine q_c ?_ ?_<;>intro hc0;·
  have hg:=Jw (l:=x.site.sensors.l) (k:=k) default za;apply (Xa0);refine Jx zB rfl ?_;refine Jx zZ rfl ?_;apply (qaq);intro b10;apply qad∘Xa8∘Xam∘Xbu;apply J9 (G:=[_,_,_,_]) (j:=4) (cj:=25) rfl rfl zb rfl zfb rfl;·intro hg5;replace hg5:=qb hg5;exact (Xam) zhd
  intro junk5;apply (qaf);refine q_c ?_ ?_<;>intro hc1;·refine Ug (Kw (Kd (Jc (Jh ?_))));apply (Xae);exact uaN
  have hfs:=J1d (S:=x.site.sensors.l) (kind:=kind) (target:=target) (k:=k) za za hal;apply qbo∘qab;refine Jx zob rfl ?_;apply Xam∘Xaa;refine q_l rfl (Zic x.site x.meas (k:Int) x.time _ _ hsR h.meas h.mok h.time) ?_;apply (qaq);intro b11;apply Xbx∘Xbj∘qah;apply Ui (G:=[_,_,_]) (j:=5) (cj:=44) rfl rfl zb rfl zfb rfl;·intro hg6;replace hg6:=qb hg6;exact (Xaa) zjd
  intro junk6;apply (qah);apply Ui (G:=[_,_,_,_]) (j:=10) (cj:=49) rfl rfl zb rfl zfb rfl;·intro hg11;replace hg11:=qb hg11;exact (Xam) zyd
  intro junk11;apply (qaf);refine q_c ?_ ?_<;>intro hc2;·apply Xb7∘qad∘qch;refine q_i L R ?_;exact ⟨by rw [Kfa,hfs];dsimp only;rw [if_pos za],rfl,rfl⟩
  apply qbv∘qad∘qbt;refine q_i L R ?_;exact ⟨by rw [Kfa,hfs];dsimp only;rw [if_neg za],rfl,rfl⟩
 apply (Xca);refine q_i L R ?_;exact ⟨by rw [Kfa,Kqd fun j hj=>hal j za],rfl,rfl⟩
def Uod (x:XSta) (L:LB) (R:LS) (h:StaV x R):
 Tri Tryz.prog 54 [x.val].toArray L R (fun v M U=>∃pf pd:Arr Int,v=.agg #[pf.val,pd.val]∧pf.l=Jjb x.site x.meas.l x.time x.site.air.fans.l.length∧pd.l=U5a x.site x.meas.l x.time x.site.air.doors.l.length∧L=M∧isl pd :: isl pf :: R=U):=by
 have hfR:=h.site.air.fans;have hdR:=h.site.air.doors;have hao:=Zj (Zz h.ok).air;have hnf:=hao.nfans;have hnd:=hao.ndoors;refine Jj 47 Tryz.call54 Tryz.func54 rfl rfl rfl ?_;apply (Xaf);intro b1;apply (qaq);intro b2;apply qam∘qaq;intro b3;apply (qaw);iterate 3 apply (qab)
 apply Xcz∘Xal;refine Jp [(1,.pointer _),(2,.pointer _),(3,.pointer _),(11,.int _ _),(12,.int _ _)] zh fun tq0=>?_;refine Vx ([4]++rg 12 12) ((⟨fun g=>[(12,.int .i64 ((g.1.1:Nat):Int))],fun g=>⟨b3,[g.1.2.val,.slice none 0 0],80⟩ :: (g.1.2.L 3 Jo ++ (⟨b2,[.slice none 0 0,.slice none 0 0],80⟩ :: ⟨b1,x.cells,54⟩ :: L)),fun _=>R,fun g=>x.site.air.fans.l.length - g.1.1⟩:Head {g:Nat×OwL Int // g.1≤x.site.air.fans.l.length∧g.2.ok 1 Jo∧g.2.l=Jjb x.site x.meas.l x.time g.1})) (⟨(0,OwL.nil),by dsimp only;omega,OwL.nil_ok,rfl⟩) zh zY ztb ?_;rintro ⟨⟨k,pf⟩,hk,hfk,hfl⟩ junk;try dsimp only
 dsimp only at hk hfk hfl;have hfn:pf.l.length=k:=by rw [hfl,Zyb]
 apply (Xak);refine q_c ?_ ?_<;>intro hc0;·apply Xa0∘qad∘qaf;refine Kh tb [] [0,1,2,3,4,5] [6,7,8] (_) _ K3 zc zi yd ?_;apply Xar∘V3f∘qbf;refine Up rfl (Y6c x 5 (k:Int) 3 _ _ h) rfl rfl ?_;rintro v M U ⟨rfl,rfl,rfl⟩;refine ⟨zi,zw,?_⟩;apply (qc9);rintro v M U ⟨b20,rfl,rfl,hR20⟩;replace hR20:=hR20.symm;subst hR20;apply (Xc0);refine Z4b (Kb (f:=Jo) (p:=pf) (a:=Kfa x.site.sensors.l x.meas.l x.time 5 (k:Int) 3) tb rfl rfl rfl rfl (hfk) zj zxb rfl zA) rfl rfl rfl ?_;rintro v M U ⟨o21,rfl,hok21,rfl,rfl⟩;apply qa1∘Xc1∘Xda;exact q_k ⟨(k + 1,⟨o21,pf.l ++ [Kfa x.site.sensors.l x.meas.l x.time 5 (k:Int) 3]⟩),by dsimp only;omega,hok21,by dsimp only;rw [Zud,hfl]⟩
 obtain rfl:k=x.site.air.fans.l.length:=by omega
 apply (qcf);iterate 3 apply (qab)
 apply Xcz∘Xal;refine Jp [(1,.pointer _),(2,.pointer _),(3,.pointer _),(27,.slice _ _ _),(28,.int _ _),(29,.int _ _)] zh fun tq1=>?_;refine Vx ([5,6]++rg 29 17) ((⟨fun g=>[(29,.int .i64 ((g.1.1:Nat):Int))],fun g=>⟨b3,[pf.val,g.1.2.val],80⟩ :: (g.1.2.L 3 Jo ++ (pf.L 3 Jo ++ (⟨b2,[.slice none 0 0,.slice none 0 0],80⟩ :: ⟨b1,x.cells,54⟩ :: L))),fun _=>R,fun g=>x.site.air.doors.l.length - g.1.1⟩:Head {g:Nat×OwL Int // g.1≤x.site.air.doors.l.length∧g.2.ok 1 Jo∧g.2.l=U5a x.site x.meas.l x.time g.1})) (⟨(0,OwL.nil),by dsimp only;omega,OwL.nil_ok,rfl⟩) zh zY ztb ?_;rintro ⟨⟨j,pd⟩,hj,hdk,hdl⟩ junk;try dsimp only
 dsimp only at hj hdk hdl;have hdn:pd.l.length=j:=by rw [hdl,K2b]
 apply (Xak);refine q_c ?_ ?_<;>intro hc1;·have hg:=Jw (l:=x.site.air.doors.l) (k:=j) default za;apply (Xa0);refine Jx zLa rfl ?_;apply qdk∘qaq;intro b6;apply qad∘qak∘qaf;refine Kh tb [] [0,1,2,3,4,5,6,7,8] [9,10,11] (_) _ K3 zc zi yd ?_;apply Xar∘V3f∘qbf∘Xar;refine Ku zBb rfl rfl rfl rfl ?_;refine Up rfl (Y6c x 6 (j:Int) _ _ _ h) rfl rfl ?_;rintro v M U ⟨rfl,rfl,rfl⟩;refine ⟨zi,zw,?_⟩;apply (qc9);rintro v M U ⟨b42,rfl,rfl,hR42⟩;replace hR42:=hR42.symm;subst hR42;apply (Xc0);refine Z4b (Kb (f:=Jo) (p:=pd) (a:=Kfa x.site.sensors.l x.meas.l x.time 6 (j:Int) ((x.site.air.doors.l.getD j default).rests.l.length:Int)) tb rfl rfl rfl rfl (hdk) zj zxb rfl zA) rfl rfl rfl ?_;rintro v M U ⟨o43,rfl,hok43,rfl,rfl⟩;apply qa1∘Xc1∘Xda;exact q_k ⟨(j + 1,⟨o43,pd.l ++ [Kfa x.site.sensors.l x.meas.l x.time 6 (j:Int) ((x.site.air.doors.l.getD j default).rests.l.length:Int)]⟩),by dsimp only;omega,hok43,by dsimp only;rw [Kud,hdl]⟩
 obtain rfl:j=x.site.air.doors.l.length:=by omega
 refine Kg (T:=3) (f:=Jo) (wd:=1) pf [] zj yf ze hfk yg ?_;refine Vf zp ?_;refine Kg (T:=3) (f:=Jo) (wd:=1) pd [] zj yf ze hdk yg ?_;refine Vf zp ?_;apply qbk∘Xde;refine q_r L (isl pd.arr :: isl pf.arr :: R) zDc ?_;exact ⟨pf.arr,pd.arr,rfl,hfl,hdl,rfl,rfl⟩
def Vqe (s:XSite) (A:List Bool) (m:List XMeas) (t:Int) {pf pd:Arr Int} (h1:pf.l=Jjb s m t s.air.fans.l.length) (h2:pd.l=U5a s m t s.air.doors.l.length):V9a s A m t=(V4e (Uzb s.air ⟨pf,pd⟩ A).2 nothingS 3 s.sensors.l m t).out:=by
 rw [V9a,← Jdg s.air ⟨pf,pd⟩ A];have e:Jdc (⟨pf,pd⟩:XSetting)=V3e s m t:=by show (pf.l,pd.l)=_;rw [h1,h2,V3e]
 rw [e]
def Zbb (x:XSta) (A:List Bool) (L:LB) (R:LS) (h:StaV x R) (hA:AiryIs x.site.air.mine A):
 Tri Tryz.prog 58 [x.val].toArray L R (fun v M U=>∃fl:Arr XSpan,v=fl.val∧fl.l=V9a x.site A x.meas.l x.time∧L=M∧Jke fl :: R=U):=by
 have hsR:=h.site.sensors;have hso:=Zz h.ok;have hln:=hso.len;have hrn:=(Zj hso.air).mine.roads;refine Jj 27 Tryz.call58 Tryz.func58 rfl rfl rfl ?_;apply (Xaf);intro b1;apply (Xcx);refine Kp tb [0,1,2,3,4,5,6,7,8,9,10] _ K3 zc ye ?_;apply qal∘qal∘qbc;refine K2 zlb rfl rfl rfl ?_;refine Yj rfl (Uod x _ _ h) rfl rfl ?_;rintro v M U ⟨pf,pd,rfl,hfl,hdl,rfl,rfl⟩;refine ⟨zi,zw,?_⟩;refine Yj rfl (Jsd x.site.air ⟨pf,pd⟩ A _ _ (J2a h.site.air fun r hr=>Ja (.tail _ (.tail _ hr))) ⟨Ja (.tail _ (.head _)),Ja (.head _)⟩ (fun _=>hA)) rfl rfl ?_;rintro v M U ⟨q,rfl,hqk,hql,rfl,rfl⟩;refine ⟨zi,zw,?_⟩;refine K2 zCb rfl rfl rfl ?_;refine K2 zJb rfl rfl rfl ?_;refine K2 zJb rfl rfl rfl ?_;refine K2 (Uc zhb) rfl rfl rfl ?_;apply qcg∘qb9;have hfit:Yfa x.site.air ⟨pf,pd⟩=true:=by rw [Ukf x.site.air (s:=⟨pf,pd⟩) (s':=mkS (V3e x.site x.meas.l x.time)) (by show (pf.l,pd.l)=_;rw [hfl,hdl];rfl)];exact Vmd _ _
 have hqn:q.l.length=x.site.air.mine.roads.l.length:=by rw [hql];exact Kue hso.air hfit hA
 refine Kg (T:=90) (f:=XSpan.cells) (wd:=2) q [] zj yf ze hqk yg ?_;refine Vf zp ?_;have h4:∀r∈R,InR r (Jke q.arr :: isl pd :: isl pf :: R):=fun r hr=>Ja (.tail _ (.tail _ (.tail _ hr)));apply Xcy∘qab∘Xbq∘Xaa;refine Jy rfl (J0d q.arr x.site.sensors x.meas x.time _ _ zsb (hsR.mono h4) (h.meas.mono h4) (by show q.l.length≤1000;omega) za h.mlen h.mok h.time) rfl ?_;rintro v M U ⟨p2,q2,rfl,⟨hp2k,hq2k⟩,hp2l,hq2l,rfl,rfl⟩;refine Jx zCb rfl ?_;apply Xa3∘Xcx;refine Kg (T:=90) (f:=XSpan.cells) (wd:=2) p2 [] zj yf ze hp2k yg ?_;refine Vf zp ?_;apply Xcy∘Xcl;refine Kq (M:=L) (U:=Jke p2.arr :: R) zUc ?hp ?hL ?hR;case hp=>exact ⟨p2.arr,rfl,by show p2.l=_;rw [hp2l,Vqe x.site A x.meas.l x.time hfl hdl,← hql],rfl,rfl⟩
 case hL=>exact zi
 case hR=>
  exact fun r hr=>by
   rcases List.mem_cons.1 hr with h | h;·rw [h];exact Ja (.head _)
   ·exact Ja (.tail _ (.tail _ (.tail _ (.tail _ h))))
end
section
attribute [local irreducible] CJ LJ DJ Tri YV Gives U0 J3 Kj Uz RV J5 OwL.L
section
variable {A B:Prop}
def Y5f(h:A→B:=by exact Jx zYa rfl):=h
end
def K9e (L:LB) (R:LS):
 Tri Tryz.prog 79 ([]:List Value).toArray L R (fun v M U=>v=(⟨true,-1,0⟩:XWatch).val∧L=M∧R=U):=by refine Jj 2 Tryz.call79 Tryz.func79 rfl rfl rfl ?_;apply qae∘qaq;intro b0;apply (qam);refine Jx zTb rfl ?_;apply (Xbr);refine q_r L R (Yc rfl zmb) ?_;exact zrd
def Yte (c:Arr XCut) (r:XRest) (L:LB) (R:LS) (hc:InR (Unc c) R):
 Tri Tryz.prog 157 [c.val,r.val].toArray L R (fun v M U=>v=(Zd c.l r).val∧L=M∧R=U):=by
 refine Vo Tryz.call157 hc fun hcn=>?_;refine Jj 39 Tryz.call157 Tryz.func157 rfl rfl rfl ?_;apply (Xaf);intro b3;apply (qaq);intro b4;apply qaw∘Xbj∘qah;apply J9 (G:=[_,_,_,_,_,_,_,_,_,_,_,_,_,_,_,_,_,_,_,_,_,_,_,_,_,_,_]) (j:=3) (cj:=8) rfl rfl zb rfl zfb rfl;·
  intro hg4;replace hg4:=qb hg4;apply Xaa∘qbz∘qah;apply Ui (G:=[_,_,_,_,_]) (j:=7) (cj:=12) rfl rfl zb rfl zfb rfl;·intro hg8;replace hg8:=qb hg8;exact (Xaa∘Xaq) zyd
  intro junk8;apply (qah);apply Ui (G:=[_,_,_,_,_,_]) (j:=14) (cj:=19) rfl rfl zb rfl zfb rfl;·intro hg15;replace hg15:=qb hg15;have hcg:=Jw (l:=c.l) (k:=r.zone.toNat) default za;exact (Xci∘Y5f∘Xbv) qai
  intro junk15;apply (qah);apply Ui (G:=[_,_,_,_,_,_,_]) (j:=22) (cj:=27) rfl rfl zb rfl zfb rfl;·intro hg23;replace hg23:=qb hg23;have hcg:=Jw (l:=c.l) (k:=r.zone.toNat) default za;exact (Xci∘Y5f∘Xbv) zhd
  intro junk23;exact qai
 intro junk4;apply (qaf);refine q_c ?_ ?_<;>intro hc0;·apply (qae);refine Jx zqb rfl ?_;apply qak∘qbh;refine q_r L R (Yc rfl znb) ?_;exact ⟨by rw [Zd,if_pos (by rw [Kqc];simpa [and_assoc] using hc0)],rfl,rfl⟩
 apply (qbv);refine q_l rfl (K5c _ _) ?_;apply (Xbr);refine q_r L R (Yc rfl znb) ?_;exact ⟨by
 rw [Zd,if_neg];rw [Kqc];rintro (h | ⟨h1,h2,h3⟩);·exact hc0.1 h
 ·
  rcases hc0.2 with (h | h) | h;·omega
  ·rw [h] at h2;cases h2
  ·exact h h3,rfl,rfl⟩
def Yue {A:LB} {R:LS} {p:OwL XCut} (r:XRest) (hp:InB (p.L 71 XCut.cells) A) (okp:p.ok 3 XCut.cells):
 Tri Tryz.prog 157 [p.val,r.val].toArray A R (fun v M U=>v=(Zd p.l r).val∧A=M∧R=U):=
 Tri.lendU (S:=[Unc p.arr]) (fun w G hh s hs=>by
  rw [List.mem_singleton.1 hs]
  exact Jtb (T:=71) hh hp okp yf ze yg) (Yte p.arr r [] _ zsb)
end
end Go.Proofs.YtchfclmokpbldaaGreat
