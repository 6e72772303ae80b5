/-
  Merged texts. By an AI agent.
-/
import Derived.Test.YtchfclmokpbldaaGreatStaA
import Derived.Test.YtchfclmokpbldaaGreatStatM
set_option linter.all false
set_option maxHeartbeats 4000000
set_option maxRecDepth 20000
namespace Go.Proofs.YtchfclmokpbldaaGreat
open Go.Aw Go
section
attribute [local irreducible] CJ LJ DJ Tri YV Gives Uq J2 Kj Ut RV J3 OwL.L
section
variable {A B:Prop}
def Kig(h:A→B:=by exact Ku zub rfl rfl rfl rfl):=h
end
def SiteE.set {s s':XSite} (h:SiteE s s') (m:List XMeas) (t:Int):Yme s m t=Yme s' m t:=by rw [Yme,Yme,Jxb,Jxb,U9a,U9a,h.nfans,h.ndoors,h.sens];have e:∀i:Nat,(s.air.doors.l.getD i default).rests.l=(s'.air.doors.l.getD i default).rests.l:=h.door;simp only [e]
def SiteE.flows {s s':XSite} (h:SiteE s s') (A:List Bool) (m:List XMeas) (t:Int):Yga s A m t=Yga s' A m t:=by
 have e:∀q:Sts,flS s.air A q=flS s'.air A q:=fun q=>by rw [flS,flS,(AirE.of (s:=mkS q) (s':=mkS q) h.air rfl).ana A]
 rw [Yga,Yga,h.set,e,h.sens]
def Kyc {m:XMine} {u v:Nat} (h:Conn (Vpc m) u v):Conn m u v:=by
 induction h with
 | refl=>exact .refl
 | tail _ k ih=>exact .tail ih k
def Kxc {m:XMine} {u v:Nat} (h:Conn m u v):Conn (Vpc m) u v:=by
 induction h with
 | refl=>exact .refl
 | tail _ k ih=>exact .tail ih k
def Yxc (m:XMine) (A:List Bool):AiryIs (Vpc m) A↔AiryIs m A:=
 ⟨fun h=>⟨h.len,fun i hi=>(h.iff i hi).trans ⟨fun ⟨j,h1,h2,h3⟩=>⟨j,h1,h2,Kyc h3⟩,fun ⟨j,h1,h2,h3⟩=>⟨j,h1,h2,Kxc h3⟩⟩⟩,fun h=>⟨h.len,fun i hi=>(h.iff i hi).trans ⟨fun ⟨j,h1,h2,h3⟩=>⟨j,h1,h2,Kxc h3⟩,fun ⟨j,h1,h2,h3⟩=>⟨j,h1,h2,Kyc h3⟩⟩⟩⟩
def SiteE.airy {s s':XSite} (h:SiteE s s') {A:List Bool} (hA:AiryIs s'.air.mine A):AiryIs s.air.mine A:=by have e:Vpc s.air.mine=Vpc s'.air.mine:=congrArg XAir.mine h.air;rw [← Yxc,e,Yxc];exact hA
def Ked {S:List XSens} {kind target:Int} {k:Nat} (hk:k < S.length) (h:(S.getD k default).kind=kind∧(S.getD k default).target=target) (hal:∀j:Nat,j < k→¬ ((S.getD j default).kind=kind∧(S.getD j default).target=target)):Jkd S kind target=some k:=by rw [Jkd,ybb];exact ⟨by simpa using h,by rw [yMa];exact hk,fun j hj=>by have:=hal j hj;simp only [yPa,decide_eq_false_iff_not];exact this⟩
def Kdd {S:List XSens} {kind target:Int} (hal:∀j:Nat,j < S.length→¬ ((S.getD j default).kind=kind∧(S.getD j default).target=target)):Jkd S kind target=none:=by rw [Jkd,List.find?_eq_none];intro j hj;rw [yMa] at hj;simpa using hal j hj
structure StaV (x:XSta) (R:LS):Prop where
 site:SiteR x.site R
 meas:InR (Yu x.meas) R
 mok:∀m∈x.meas.l,K5a m
 mlen:x.meas.l.length≤1000
 time:0≤x.time∧x.time≤2147483648
 ok:Uf x.site=0
def StaV.of {g:PSite} {p:PSta} {x:XSta} {R:LS} (hI:Inv g p) (hx:StaIs g p x) (h1:SiteR x.site R) (h2:InR (Yu x.meas) R):StaV x R:=
 ⟨h1,h2,by rw [hx.meas];exact hI.mok,by rw [hx.meas,hI.meas];have:=hI.sok.len;omega,by rw [hx.time];exact hI.time,by rw [hx.site.err];exact hI.site⟩
def Jgd (x:XSta) (kind target n:Int) (L:LB) (R:LS) (h:StaV x R):
 Tri Tryz.prog 128 [x.val,.int .i64 kind,.int .i64 target,.int .i64 n].toArray L R (fun v U J=>v=.int .i64 (Kea x.site.sensors.l x.meas.l x.time kind target n)∧L=U∧R=J):=by
 have hsR:=h.site.sensors;have hln:=(Z5 h.ok).len;refine Je 58 Tryz.call128 Tryz.func128 rfl rfl rfl ?_;apply (Xaf);intro b4;apply Xar∘qab∘Xay;refine Jm [(1,.int _ _),(2,.int _ _),(3,.int _ _),(4,.pointer _),(14,.slice _ _ _),(15,.int _ _),(16,.int _ _)] zh fun tq0=>?_;refine q_s ([8,9,10,11]++rg 16 42) (fun g:{k:Nat // k≤x.site.sensors.l.length∧∀j:Nat,j < k→¬ ((x.site.sensors.l.getD j default).kind=kind∧(x.site.sensors.l.getD j default).target=target)}=>[(16,.int .i64 ((g.1:Nat):Int))]) (fun g=>x.site.sensors.l.length - g.1) (⟨0,by omega,fun j hj=>by omega⟩) ?_;rintro ⟨k,hk,hal⟩ junk;try dsimp only
 apply (Xaj);refine q_c ?_ ?_<;>intro hc0;·
  have hg:=Jp (l:=x.site.sensors.l) (k:=k) default za;apply (Xa1);refine Jw zD rfl ?_;refine Jw zda rfl ?_;apply (qaq);intro b10;apply qad∘Xa9∘Xah∘Xb7;apply Kf (G:=[_,_,_,_]) (j:=4) (cj:=25) rfl rfl zb rfl zmb rfl;·intro hg5;replace hg5:=qb hg5;exact (Xah) zvd
  intro junk5;apply (qaf);refine q_c ?_ ?_<;>intro hc1;·refine K9 (Km (J6 (Jb (Jg ?_))));apply (Xad);exact uaV
  have hfs:=Ked (S:=x.site.sensors.l) (kind:=kind) (target:=target) (k:=k) za za hal;apply qbo∘qab;refine Jw zvb rfl ?_;apply Xah∘Xaa;refine q_l rfl (Y1c x.site x.meas (k:Int) x.time _ _ hsR h.meas h.mok h.time) ?_;apply (qaq);intro b11;apply Xaz∘Xa0∘Xcl;apply Ui (G:=[_,_,_]) (j:=5) (cj:=44) rfl rfl zb rfl zmb rfl;·intro hg6;replace hg6:=qb hg6;exact (Xaa) zyd
  intro junk6;apply (qah);apply Ui (G:=[_,_,_,_]) (j:=10) (cj:=49) rfl rfl zb rfl zmb rfl;·intro hg11;replace hg11:=qb hg11;exact (Xah) zOd
  intro junk11;apply (qaf);refine q_c ?_ ?_<;>intro hc2;·apply Xcr∘qad∘qch;refine q_i L R ?_;exact ⟨by rw [Kea,hfs];dsimp only;rw [if_pos za],rfl,rfl⟩
  apply qbv∘qad∘qbt;refine q_i L R ?_;exact ⟨by rw [Kea,hfs];dsimp only;rw [if_neg za],rfl,rfl⟩
 apply (Xcq);refine q_i L R ?_;exact ⟨by rw [Kea,Kdd fun j hj=>hal j za],rfl,rfl⟩
def Udd (x:XSta) (L:LB) (R:LS) (h:StaV x R):
 Tri Tryz.prog 54 [x.val].toArray L R (fun v U J=>∃pf pd:Arr Int,v=.agg #[pf.val,pd.val]∧pf.l=Jxb x.site x.meas.l x.time x.site.air.fans.l.length∧pd.l=U9a x.site x.meas.l x.time x.site.air.doors.l.length∧L=U∧isl pd :: isl pf :: R=J):=by
 have hfR:=h.site.air.fans;have hdR:=h.site.air.doors;have hao:=V3 (Z5 h.ok).air;have hnf:=hao.nfans;have hnd:=hao.ndoors;refine Je 47 Tryz.call54 Tryz.func54 rfl rfl rfl ?_;apply (Xaf);intro b1;apply (qaq);intro b2;apply qam∘qaq;intro b3;apply (qaw);iterate 3 apply (qab)
 apply qac∘Xc1;refine Jm [(1,.pointer _),(2,.pointer _),(3,.pointer _),(11,.int _ _),(12,.int _ _)] zh fun tq0=>?_;refine Up ([4]++rg 12 12) ((⟨fun g=>[(12,.int .i64 ((g.1.1:Nat):Int))],fun g=>⟨b3,[g.1.2.val,.slice none 0 0],80⟩ :: (g.1.2.L 3 Jj ++ (⟨b2,[.slice none 0 0,.slice none 0 0],80⟩ :: ⟨b1,x.cells,54⟩ :: L)),fun _=>R,fun g=>x.site.air.fans.l.length - g.1.1⟩:Head {g:Nat×OwL Int // g.1≤x.site.air.fans.l.length∧g.2.ok 1 Jj∧g.2.l=Jxb x.site x.meas.l x.time g.1})) (⟨(0,OwL.nil),by dsimp only;omega,OwL.nil_ok,rfl⟩) zh zS zAb ?_;rintro ⟨⟨k,pf⟩,hk,hfk,hfl⟩ junk;try dsimp only
 dsimp only at hk hfk hfl;have hfn:pf.l.length=k:=by rw [hfl,Zcb]
 apply (Xaj);refine q_c ?_ ?_<;>intro hc0;·apply Xa1∘qad∘qaf;refine J7 tb [] [0,1,2,3,4,5] [6,7,8] (_) _ Ko zc zi yd ?_;apply Xak∘Kig∘qbf;refine K7 rfl (Jgd x 5 (k:Int) 3 _ _ h) rfl rfl ?_;rintro v U J ⟨rfl,rfl,rfl⟩;refine ⟨zi,zt,?_⟩;apply (qc9);rintro v U J ⟨b20,rfl,rfl,hR20⟩;replace hR20:=hR20.symm;subst hR20;apply (Xcd);refine Jzb (Jy (f:=Jj) (p:=pf) (a:=Kea x.site.sensors.l x.meas.l x.time 5 (k:Int) 3) tb rfl rfl rfl rfl (hfk) zj zwb rfl zy) rfl rfl rfl ?_;rintro v U J ⟨o21,rfl,hok21,rfl,rfl⟩;apply qa1∘Xb1∘Xc4;exact q_k ⟨(k + 1,⟨o21,pf.l ++ [Kea x.site.sensors.l x.meas.l x.time 5 (k:Int) 3]⟩),by dsimp only;omega,hok21,by dsimp only;rw [Zld,hfl]⟩
 obtain rfl:k=x.site.air.fans.l.length:=by omega
 apply (qcf);iterate 3 apply (qab)
 apply qac∘Xc1;refine Jm [(1,.pointer _),(2,.pointer _),(3,.pointer _),(27,.slice _ _ _),(28,.int _ _),(29,.int _ _)] zh fun tq1=>?_;refine Up ([5,6]++rg 29 17) ((⟨fun g=>[(29,.int .i64 ((g.1.1:Nat):Int))],fun g=>⟨b3,[pf.val,g.1.2.val],80⟩ :: (g.1.2.L 3 Jj ++ (pf.L 3 Jj ++ (⟨b2,[.slice none 0 0,.slice none 0 0],80⟩ :: ⟨b1,x.cells,54⟩ :: L))),fun _=>R,fun g=>x.site.air.doors.l.length - g.1.1⟩:Head {g:Nat×OwL Int // g.1≤x.site.air.doors.l.length∧g.2.ok 1 Jj∧g.2.l=U9a x.site x.meas.l x.time g.1})) (⟨(0,OwL.nil),by dsimp only;omega,OwL.nil_ok,rfl⟩) zh zS zAb ?_;rintro ⟨⟨j,pd⟩,hj,hdk,hdl⟩ junk;try dsimp only
 dsimp only at hj hdk hdl;have hdn:pd.l.length=j:=by rw [hdl,Udb]
 apply (Xaj);refine q_c ?_ ?_<;>intro hc1;·have hg:=Jp (l:=x.site.air.doors.l) (k:=j) default za;apply (Xa1);refine Jw zQa rfl ?_;apply (Xc7);intro b6;apply qad∘qak∘qaf;refine J7 tb [] [0,1,2,3,4,5,6,7,8] [9,10,11] (_) _ Ko zc zi yd ?_;apply Xak∘Kig∘qbf∘Xak;refine Ku zPb rfl rfl rfl rfl ?_;refine K7 rfl (Jgd x 6 (j:Int) _ _ _ h) rfl rfl ?_;rintro v U J ⟨rfl,rfl,rfl⟩;refine ⟨zi,zt,?_⟩;apply (qc9);rintro v U J ⟨b42,rfl,rfl,hR42⟩;replace hR42:=hR42.symm;subst hR42;apply (Xcd);refine Jzb (Jy (f:=Jj) (p:=pd) (a:=Kea x.site.sensors.l x.meas.l x.time 6 (j:Int) ((x.site.air.doors.l.getD j default).rests.l.length:Int)) tb rfl rfl rfl rfl (hdk) zj zwb rfl zy) rfl rfl rfl ?_;rintro v U J ⟨o43,rfl,hok43,rfl,rfl⟩;apply qa1∘Xb1∘Xc4;exact q_k ⟨(j + 1,⟨o43,pd.l ++ [Kea x.site.sensors.l x.meas.l x.time 6 (j:Int) ((x.site.air.doors.l.getD j default).rests.l.length:Int)]⟩),by dsimp only;omega,hok43,by dsimp only;rw [Kvd,hdl]⟩
 obtain rfl:j=x.site.air.doors.l.length:=by omega
 refine Kp (T:=3) (f:=Jj) (wd:=1) pf [] zj yf ze hfk yg ?_;refine U2 zq ?_;refine Kp (T:=3) (f:=Jj) (wd:=1) pd [] zj yf ze hdk yg ?_;refine U2 zq ?_;apply qbk∘Xcz;refine q_r L (isl pd.arr :: isl pf.arr :: R) zQc ?_;exact ⟨pf.arr,pd.arr,rfl,hfl,hdl,rfl,rfl⟩
def Yke (s:XSite) (A:List Bool) (m:List XMeas) (t:Int) {pf pd:Arr Int} (h1:pf.l=Jxb s m t s.air.fans.l.length) (h2:pd.l=U9a s m t s.air.doors.l.length):Yga s A m t=(Ycc (K3b s.air ⟨pf,pd⟩ A).2 nothingS 3 s.sensors.l m t).out:=by
 rw [Yga,← Zef s.air ⟨pf,pd⟩ A];have e:Jrc (⟨pf,pd⟩:XSetting)=Yme s m t:=by show (pf.l,pd.l)=_;rw [h1,h2,Yme]
 rw [e]
def Z0b (x:XSta) (A:List Bool) (L:LB) (R:LS) (h:StaV x R) (hA:AiryIs x.site.air.mine A):
 Tri Tryz.prog 58 [x.val].toArray L R (fun v U J=>∃fl:Arr XSpan,v=fl.val∧fl.l=Yga x.site A x.meas.l x.time∧L=U∧Jkc fl :: R=J):=by
 have hsR:=h.site.sensors;have hso:=Z5 h.ok;have hln:=hso.len;have hrn:=(V3 hso.air).mine.roads;refine Je 27 Tryz.call58 Tryz.func58 rfl rfl rfl ?_;apply (Xaf);intro b1;apply (Xc0);refine Ke tb [0,1,2,3,4,5,6,7,8,9,10] _ Ko zc ye ?_;apply qal∘qal∘qbc;refine Ks zub rfl rfl rfl ?_;refine Vo rfl (Udd x _ _ h) rfl rfl ?_;rintro v U J ⟨pf,pd,rfl,hfl,hdl,rfl,rfl⟩;refine ⟨zi,zt,?_⟩;refine Vo rfl (Y9b x.site.air ⟨pf,pd⟩ A _ _ (Zw h.site.air fun r hr=>Ja (.tail _ (.tail _ hr))) ⟨Ja (.tail _ (.head _)),Ja (.head _)⟩ (fun _=>hA)) rfl rfl ?_;rintro v U J ⟨q,rfl,hqk,hql,rfl,rfl⟩;refine ⟨zi,zt,?_⟩;refine Ks zRb rfl rfl rfl ?_;refine Ks zXb rfl rfl rfl ?_;refine Ks zXb rfl rfl rfl ?_;refine Ks (K8 zob) rfl rfl rfl ?_;apply qcg∘qb9;have hfit:Uka x.site.air ⟨pf,pd⟩=true:=by rw [Usf x.site.air (s:=⟨pf,pd⟩) (s':=mkS (Yme x.site x.meas.l x.time)) (by show (pf.l,pd.l)=_;rw [hfl,hdl];rfl)];exact Ywd _ _
 have hqn:q.l.length=x.site.air.mine.roads.l.length:=by rw [hql];exact Uvc hso.air hfit hA
 refine Kp (T:=90) (f:=XSpan.cells) (wd:=2) q [] zj yf ze hqk yg ?_;refine U2 zq ?_;have h4:∀r∈R,InR r (Jkc q.arr :: isl pd :: isl pf :: R):=fun r hr=>Ja (.tail _ (.tail _ (.tail _ hr)));apply Xcj∘qab∘Xa0∘Xaa;refine Jv rfl (Ucd q.arr x.site.sensors x.meas x.time _ _ zFb (hsR.mono h4) (h.meas.mono h4) (by show q.l.length≤1000;omega) za h.mlen h.mok h.time) rfl ?_;rintro v U J ⟨p2,q2,rfl,⟨hp2k,hq2k⟩,hp2l,hq2l,rfl,rfl⟩;refine Jw zRb rfl ?_;apply Xba∘Xc0;refine Kp (T:=90) (f:=XSpan.cells) (wd:=2) p2 [] zj yf ze hp2k yg ?_;refine U2 zq ?_;apply Xcj∘Xci;refine K2 (U:=L) (J:=Jkc p2.arr :: R) zhd ?hp ?hL ?hR;case hp=>exact ⟨p2.arr,rfl,by show p2.l=_;rw [hp2l,Yke x.site A x.meas.l x.time hfl hdl,← hql],rfl,rfl⟩
 case hL=>exact zi
 case hR=>
  exact fun r hr=>by
   rcases List.mem_cons.1 hr with h | h;·rw [h];exact Ja (.head _)
   ·exact Ja (.tail _ (.tail _ (.tail _ (.tail _ h))))
end
section
attribute [local irreducible] CJ LJ DJ Tri YV Gives Uq J2 Kj Ut RV J3 OwL.L
section
variable {A B:Prop}
def Uxg(h:A→B:=by exact Jw zeb rfl):=h
end
def J9e (L:LB) (R:LS):
 Tri Tryz.prog 79 ([]:List Value).toArray L R (fun v U J=>v=(⟨true,-1,0⟩:XWatch).val∧L=U∧R=J):=by refine Je 2 Tryz.call79 Tryz.func79 rfl rfl rfl ?_;apply (Xd2);intro b0;apply (qam);refine Jw zgc rfl ?_;apply (Xbl);refine q_r L R (Vs rfl zsb) ?_;exact zDd
def Y0e (c:Arr XCut) (r:XRest) (L:LB) (R:LS) (hc:InR (Vuc c) R):
 Tri Tryz.prog 157 [c.val,r.val].toArray L R (fun v U J=>v=(Kla c.l r).val∧L=U∧R=J):=by
 refine Vm Tryz.call157 hc fun hcn=>?_;refine Je 39 Tryz.call157 Tryz.func157 rfl rfl rfl ?_;apply (Xaf);intro b3;apply (qaq);intro b4;apply qaw∘Xaa∘Xcl;apply Kf (G:=[_,_,_,_,_,_,_,_,_,_,_,_,_,_,_,_,_,_,_,_,_,_,_,_,_,_,_]) (j:=3) (cj:=8) rfl rfl zb rfl zmb rfl;·
  intro hg4;replace hg4:=qb hg4;apply Xaa∘qbz∘qah;apply Ui (G:=[_,_,_,_,_]) (j:=7) (cj:=12) rfl rfl zb rfl zmb rfl;·intro hg8;replace hg8:=qb hg8;exact (Xaa∘Xap) zOd
  intro junk8;apply (qah);apply Ui (G:=[_,_,_,_,_,_]) (j:=14) (cj:=19) rfl rfl zb rfl zmb rfl;·intro hg15;replace hg15:=qb hg15;have hcg:=Jp (l:=c.l) (k:=r.zone.toNat) default za;exact (Xbx∘Uxg∘Xbc) qai
  intro junk15;apply (qah);apply Ui (G:=[_,_,_,_,_,_,_]) (j:=22) (cj:=27) rfl rfl zb rfl zmb rfl;·intro hg23;replace hg23:=qb hg23;have hcg:=Jp (l:=c.l) (k:=r.zone.toNat) default za;exact (Xbx∘Uxg∘Xbc) zvd
  intro junk23;exact qai
 intro junk4;apply (qaf);refine q_c ?_ ?_<;>intro hc0;·apply (qae);refine Jw zCb rfl ?_;apply (Xdb);refine q_r L R (Vs rfl ztb) ?_;exact ⟨by rw [Kla,if_pos (by rw [Kfc];simpa [and_assoc] using hc0)],rfl,rfl⟩
 apply (qbv);refine q_l rfl (Uqc _ _) ?_;apply (Xbl);refine q_r L R (Vs rfl ztb) ?_;exact ⟨by
 rw [Kla,if_neg];rw [Kfc];rintro (h | ⟨h1,h2,h3⟩);·exact hc0.1 h
 ·
  rcases hc0.2 with (h | h) | h;·omega
  ·rw [h] at h2;cases h2
  ·exact h h3,rfl,rfl⟩
def Jef {A:LB} {R:LS} {p:OwL XCut} (r:XRest) (hp:InB (p.L 71 XCut.cells) A) (okp:p.ok 3 XCut.cells):
 Tri Tryz.prog 157 [p.val,r.val].toArray A R (fun v U J=>v=(Kla p.l r).val∧A=U∧R=J):=
 Tri.lendU (S:=[Vuc p.arr]) (fun w G hh s hs=>by
  rw [List.mem_singleton.1 hs]
  exact Yw (T:=71) hh hp okp yf ze yg) (Y0e p.arr r [] _ zFb)
end
end Go.Proofs.YtchfclmokpbldaaGreat
