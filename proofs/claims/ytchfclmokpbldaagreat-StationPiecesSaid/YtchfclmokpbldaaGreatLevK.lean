/-
  Merged texts. By an AI agent.
-/
import Derived.Test.YtchfclmokpbldaaGreatStaA
import Derived.Test.YtchfclmokpbldaaGreatAppR
set_option linter.all false
set_option maxHeartbeats 4000000
set_option maxRecDepth 20000
namespace Go.Proofs.YtchfclmokpbldaaGreat
open Go.Aw Go
section
attribute [local irreducible] CJ LJ DJ Tri YV Gives Uo J0 Kj Un RV J2 OwL.L
section
variable {A B:Prop}
def Vsf(h:A→B:=by exact Kn znb rfl rfl rfl rfl):=h
end
def SiteE.set {s s':XSite} (h:SiteE s s') (m:List XMeas) (t:Int):Vie s m t=Vie s' m t:=by rw [Vie,Vie,Zja,Zja,Uaa,Uaa,h.nfans,h.ndoors,h.sens];have e:∀i:Nat,(s.air.doors.l.getD i default).rests.l=(s'.air.doors.l.getD i default).rests.l:=h.door;simp only [e]
def SiteE.flows {s s':XSite} (h:SiteE s s') (A:List Bool) (m:List XMeas) (t:Int):Vna s A m t=Vna s' A m t:=by
 have e:∀q:Sts,flS s.air A q=flS s'.air A q:=fun q=>by rw [flS,flS,(AirE.of (s:=mkS q) (s':=mkS q) h.air rfl).ana A]
 rw [Vna,Vna,h.set,e,h.sens]
def Zmb {m:XMine} {u v:Nat} (h:Conn (V2c m) u v):Conn m u v:=by
 induction h with
 | refl=>exact .refl
 | tail _ k ih=>exact .tail ih k
def Jhc {m:XMine} {u v:Nat} (h:Conn m u v):Conn (V2c m) u v:=by
 induction h with
 | refl=>exact .refl
 | tail _ k ih=>exact .tail ih k
def U6c (m:XMine) (A:List Bool):AiryIs (V2c m) A↔AiryIs m A:=
 ⟨fun h=>⟨h.len,fun i hi=>(h.iff i hi).trans ⟨fun ⟨j,h1,h2,h3⟩=>⟨j,h1,h2,Zmb h3⟩,fun ⟨j,h1,h2,h3⟩=>⟨j,h1,h2,Jhc h3⟩⟩⟩,fun h=>⟨h.len,fun i hi=>(h.iff i hi).trans ⟨fun ⟨j,h1,h2,h3⟩=>⟨j,h1,h2,Jhc h3⟩,fun ⟨j,h1,h2,h3⟩=>⟨j,h1,h2,Zmb h3⟩⟩⟩⟩
def SiteE.airy {s s':XSite} (h:SiteE s s') {A:List Bool} (hA:AiryIs s'.air.mine A):AiryIs s.air.mine A:=by have e:V2c s.air.mine=V2c s'.air.mine:=congrArg XAir.mine h.air;rw [← U6c,e,U6c];exact hA
def Zuc {S:List XSens} {kind target:Int} {k:Nat} (hk:k < S.length) (h:(S.getD k default).kind=kind∧(S.getD k default).target=target) (hal:∀j:Nat,j < k→¬ ((S.getD j default).kind=kind∧(S.getD j default).target=target)):Ync S kind target=some k:=by rw [Ync,yXa];exact ⟨by simpa using h,by rw [ysa];exact hk,fun j hj=>by have:=hal j hj;simp only [ylb,decide_eq_false_iff_not];exact this⟩
def Zfc {S:List XSens} {kind target:Int} (hal:∀j:Nat,j < S.length→¬ ((S.getD j default).kind=kind∧(S.getD j default).target=target)):Ync S kind target=none:=by rw [Ync,List.find?_eq_none];intro j hj;rw [ysa] at hj;simpa using hal j hj
structure StaV (x:XSta) (R:LS):Prop where
 site:SiteR x.site R
 meas:InR (Vsa x.meas) R
 mok:∀m∈x.meas.l,Kza m
 mlen:x.meas.l.length≤1000
 time:0≤x.time∧x.time≤2147483648
 ok:K5 x.site=0
def StaV.of {g:PSite} {p:PSta} {x:XSta} {R:LS} (hI:Inv g p) (hx:StaIs g p x) (h1:SiteR x.site R) (h2:InR (Vsa x.meas) R):StaV x R:=
 ⟨h1,h2,by rw [hx.meas];exact hI.mok,by rw [hx.meas,hI.meas];have:=hI.sok.len;omega,by rw [hx.time];exact hI.time,by rw [hx.site.err];exact hI.site⟩
def Vfc (x:XSta) (kind target n:Int) (L:LB) (R:LS) (h:StaV x R):
 Tri Tryz.prog 128 [x.val,.int .i64 kind,.int .i64 target,.int .i64 n].toArray L R (fun v M U=>v=.int .i64 (J1a x.site.sensors.l x.meas.l x.time kind target n)∧L=M∧R=U):=by
 have hsR:=h.site.sensors;have hln:=(Z4 h.ok).len;refine Je 58 Tryz.call128 Tryz.func128 rfl rfl rfl ?_;apply (Xag);intro b4;apply Xaq∘qab∘Xaz;refine Jk [(1,.int _ _),(2,.int _ _),(3,.int _ _),(4,.pointer _),(14,.slice _ _ _),(15,.int _ _),(16,.int _ _)] zh fun tq0=>?_;refine q_s ([8,9,10,11]++rg 16 42) (fun g:{k:Nat // k≤x.site.sensors.l.length∧∀j:Nat,j < k→¬ ((x.site.sensors.l.getD j default).kind=kind∧(x.site.sensors.l.getD j default).target=target)}=>[(16,.int .i64 ((g.1:Nat):Int))]) (fun g=>x.site.sensors.l.length - g.1) (⟨0,by omega,fun j hj=>by omega⟩) ?_;rintro ⟨k,hk,hal⟩ junk;try dsimp only
 apply (Xan);refine q_c ?_ ?_<;>intro hc0;·
  have hg:=Ju (l:=x.site.sensors.l) (k:=k) default za;apply (Xbb);refine Jx zD rfl ?_;refine Jx zba rfl ?_;apply (qaq);intro b10;apply qad∘Xbh∘Xaj∘Xcn;apply Kf (G:=[_,_,_,_]) (j:=4) (cj:=25) rfl rfl zb rfl zfb rfl;·intro hg5;replace hg5:=qb hg5;exact (Xaj) zfd
  intro junk5;apply (qaf);refine q_c ?_ ?_<;>intro hc1;·refine K4 (Km (J8 (Jb (Jf ?_))));apply (Xae);exact uaP
  have hfs:=Zuc (S:=x.site.sensors.l) (kind:=kind) (target:=target) (k:=k) za za hal;apply qbo∘qab;refine Jx zmb rfl ?_;apply Xaj∘Xaa;refine q_l rfl (Vsc x.site x.meas (k:Int) x.time _ _ hsR h.meas h.mok h.time) ?_;apply (qaq);intro b11;apply Xa1∘Xbo∘Xcq;apply Vp (G:=[_,_,_]) (j:=5) (cj:=44) rfl rfl zb rfl zfb rfl;·intro hg6;replace hg6:=qb hg6;exact (Xaa) zhd
  intro junk6;apply (qah);apply Vp (G:=[_,_,_,_]) (j:=10) (cj:=49) rfl rfl zb rfl zfb rfl;·intro hg11;replace hg11:=qb hg11;exact (Xaj) zxd
  intro junk11;apply (qaf);refine q_c ?_ ?_<;>intro hc2;·apply Xcb∘qad∘qch;refine q_i L R ?_;exact ⟨by rw [J1a,hfs];dsimp only;rw [if_pos za],rfl,rfl⟩
  apply qbv∘qad∘qbt;refine q_i L R ?_;exact ⟨by rw [J1a,hfs];dsimp only;rw [if_neg za],rfl,rfl⟩
 apply (Xcx);refine q_i L R ?_;exact ⟨by rw [J1a,Zfc fun j hj=>hal j za],rfl,rfl⟩
def Z7c (x:XSta) (L:LB) (R:LS) (h:StaV x R):
 Tri Tryz.prog 54 [x.val].toArray L R (fun v M U=>∃pf pd:Arr Int,v=.agg #[pf.val,pd.val]∧pf.l=Zja x.site x.meas.l x.time x.site.air.fans.l.length∧pd.l=Uaa x.site x.meas.l x.time x.site.air.doors.l.length∧L=M∧isl pd :: isl pf :: R=U):=by
 have hfR:=h.site.air.fans;have hdR:=h.site.air.doors;have hao:=Yy (Z4 h.ok).air;have hnf:=hao.nfans;have hnd:=hao.ndoors;refine Je 47 Tryz.call54 Tryz.func54 rfl rfl rfl ?_;apply (Xag);intro b1;apply (qaq);intro b2;apply qam∘qaq;intro b3;apply (qaw);iterate 3 apply (qab)
 apply Xcw∘Xao;refine Jk [(1,.pointer _),(2,.pointer _),(3,.pointer _),(11,.int _ _),(12,.int _ _)] zh fun tq0=>?_;refine K7 ([4]++rg 12 12) ((⟨fun g=>[(12,.int .i64 ((g.1.1:Nat):Int))],fun g=>⟨b3,[g.1.2.val,.slice none 0 0],80⟩ :: (g.1.2.L 3 Ji ++ (⟨b2,[.slice none 0 0,.slice none 0 0],80⟩ :: ⟨b1,x.cells,54⟩ :: L)),fun _=>R,fun g=>x.site.air.fans.l.length - g.1.1⟩:Head {g:Nat×OwL Int // g.1≤x.site.air.fans.l.length∧g.2.ok 1 Ji∧g.2.l=Zja x.site x.meas.l x.time g.1})) (⟨(0,OwL.nil),by dsimp only;omega,OwL.nil_ok,rfl⟩) zh zY zxb ?_;rintro ⟨⟨k,pf⟩,hk,hfk,hfl⟩ junk;try dsimp only
 dsimp only at hk hfk hfl;have hfn:pf.l.length=k:=by rw [hfl,V4b]
 apply (Xan);refine q_c ?_ ?_<;>intro hc0;·apply Xbb∘qad∘qaf;refine J6 tb [] [0,1,2,3,4,5] [6,7,8] (_) _ Kr zc zi yd ?_;apply Xaf∘Vsf∘qbf;refine Kp rfl (Vfc x 5 (k:Int) 3 _ _ h) rfl rfl ?_;rintro v M U ⟨rfl,rfl,rfl⟩;refine ⟨zi,zq,?_⟩;apply (qc9);rintro v M U ⟨b20,rfl,rfl,hR20⟩;replace hR20:=hR20.symm;subst hR20;apply (Xbs);refine Yqa (Jr (f:=Ji) (p:=pf) (a:=J1a x.site.sensors.l x.meas.l x.time 5 (k:Int) 3) tb rfl rfl rfl rfl (hfk) zj zob rfl zA) rfl rfl rfl ?_;rintro v M U ⟨o21,rfl,hok21,rfl,rfl⟩;apply Xcu∘Xae;exact q_k ⟨(k + 1,⟨o21,pf.l ++ [J1a x.site.sensors.l x.meas.l x.time 5 (k:Int) 3]⟩),by dsimp only;omega,hok21,by dsimp only;rw [V8d,hfl]⟩
 obtain rfl:k=x.site.air.fans.l.length:=by omega
 apply (qcf);iterate 3 apply (qab)
 apply Xcw∘Xao;refine Jk [(1,.pointer _),(2,.pointer _),(3,.pointer _),(27,.slice _ _ _),(28,.int _ _),(29,.int _ _)] zh fun tq1=>?_;refine K7 ([5,6]++rg 29 17) ((⟨fun g=>[(29,.int .i64 ((g.1.1:Nat):Int))],fun g=>⟨b3,[pf.val,g.1.2.val],80⟩ :: (g.1.2.L 3 Ji ++ (pf.L 3 Ji ++ (⟨b2,[.slice none 0 0,.slice none 0 0],80⟩ :: ⟨b1,x.cells,54⟩ :: L))),fun _=>R,fun g=>x.site.air.doors.l.length - g.1.1⟩:Head {g:Nat×OwL Int // g.1≤x.site.air.doors.l.length∧g.2.ok 1 Ji∧g.2.l=Uaa x.site x.meas.l x.time g.1})) (⟨(0,OwL.nil),by dsimp only;omega,OwL.nil_ok,rfl⟩) zh zY zxb ?_;rintro ⟨⟨j,pd⟩,hj,hdk,hdl⟩ junk;try dsimp only
 dsimp only at hj hdk hdl;have hdn:pd.l.length=j:=by rw [hdl,J0b]
 apply (Xan);refine q_c ?_ ?_<;>intro hc1;·have hg:=Ju (l:=x.site.air.doors.l) (k:=j) default za;apply (Xbb);refine Jx zwa rfl ?_;apply qdk∘qaq;intro b6;apply qad∘qak∘qaf;refine J6 tb [] [0,1,2,3,4,5,6,7,8] [9,10,11] (_) _ Kr zc zi yd ?_;apply Xaf∘Vsf∘qbf∘Xaf;refine Kn zzb rfl rfl rfl rfl ?_;refine Kp rfl (Vfc x 6 (j:Int) _ _ _ h) rfl rfl ?_;rintro v M U ⟨rfl,rfl,rfl⟩;refine ⟨zi,zq,?_⟩;apply (qc9);rintro v M U ⟨b42,rfl,rfl,hR42⟩;replace hR42:=hR42.symm;subst hR42;apply (Xbs);refine Yqa (Jr (f:=Ji) (p:=pd) (a:=J1a x.site.sensors.l x.meas.l x.time 6 (j:Int) ((x.site.air.doors.l.getD j default).rests.l.length:Int)) tb rfl rfl rfl rfl (hdk) zj zob rfl zA) rfl rfl rfl ?_;rintro v M U ⟨o43,rfl,hok43,rfl,rfl⟩;apply Xcu∘Xae;exact q_k ⟨(j + 1,⟨o43,pd.l ++ [J1a x.site.sensors.l x.meas.l x.time 6 (j:Int) ((x.site.air.doors.l.getD j default).rests.l.length:Int)]⟩),by dsimp only;omega,hok43,by dsimp only;rw [Zrc,hdl]⟩
 obtain rfl:j=x.site.air.doors.l.length:=by omega
 refine Ks (T:=3) (f:=Ji) (wd:=1) pf [] zj yf ze hfk yg ?_;refine V0 zy ?_;refine Ks (T:=3) (f:=Ji) (wd:=1) pd [] zj yf ze hdk yg ?_;refine V0 zy ?_;apply qbk∘Xcs;refine q_r L (isl pd.arr :: isl pf.arr :: R) zFc ?_;exact ⟨pf.arr,pd.arr,rfl,hfl,hdl,rfl,rfl⟩
def Z7d (s:XSite) (A:List Bool) (m:List XMeas) (t:Int) {pf pd:Arr Int} (h1:pf.l=Zja s m t s.air.fans.l.length) (h2:pd.l=Uaa s m t s.air.doors.l.length):Vna s A m t=(Ule (Ujb s.air ⟨pf,pd⟩ A).2 nothingS 3 s.sensors.l m t).out:=by
 rw [Vna,← Vcf s.air ⟨pf,pd⟩ A];have e:Zeb (⟨pf,pd⟩:XSetting)=Vie s m t:=by show (pf.l,pd.l)=_;rw [h1,h2,Vie]
 rw [e]
def Yub (x:XSta) (A:List Bool) (L:LB) (R:LS) (h:StaV x R) (hA:AiryIs x.site.air.mine A):
 Tri Tryz.prog 58 [x.val].toArray L R (fun v M U=>∃fl:Arr XSpan,v=fl.val∧fl.l=Vna x.site A x.meas.l x.time∧L=M∧Yvd fl :: R=U):=by
 have hsR:=h.site.sensors;have hso:=Z4 h.ok;have hln:=hso.len;have hrn:=(Yy hso.air).mine.roads;refine Je 27 Tryz.call58 Tryz.func58 rfl rfl rfl ?_;apply (Xag);intro b1;apply (Xda);refine Kk tb [0,1,2,3,4,5,6,7,8,9,10] _ Kr zc ye ?_;apply qal∘qal∘qbc;refine K3 znb rfl rfl rfl ?_;refine Yp rfl (Z7c x _ _ h) rfl rfl ?_;rintro v M U ⟨pf,pd,rfl,hfl,hdl,rfl,rfl⟩;refine ⟨zi,zq,?_⟩;refine Yp rfl (Z5c x.site.air ⟨pf,pd⟩ A _ _ (Jla h.site.air fun r hr=>Ja (.tail _ (.tail _ hr))) ⟨Ja (.tail _ (.head _)),Ja (.head _)⟩ (fun _=>hA)) rfl rfl ?_;rintro v M U ⟨q,rfl,hqk,hql,rfl,rfl⟩;refine ⟨zi,zq,?_⟩;refine K3 zSb rfl rfl rfl ?_;refine K3 zZb rfl rfl rfl ?_;refine K3 zZb rfl rfl rfl ?_;refine K3 (Uz zhb) rfl rfl rfl ?_;apply qcg∘qb9;have hfit:K6a x.site.air ⟨pf,pd⟩=true:=by rw [Jaf x.site.air (s:=⟨pf,pd⟩) (s':=mkS (Vie x.site x.meas.l x.time)) (by show (pf.l,pd.l)=_;rw [hfl,hdl];rfl)];exact U0d _ _
 have hqn:q.l.length=x.site.air.mine.roads.l.length:=by rw [hql];exact Z1d hso.air hfit hA
 refine Ks (T:=90) (f:=XSpan.cells) (wd:=2) q [] zj yf ze hqk yg ?_;refine V0 zy ?_;have h4:∀r∈R,InR r (Yvd q.arr :: isl pd :: isl pf :: R):=fun r hr=>Ja (.tail _ (.tail _ (.tail _ hr)));apply Xc0∘qab∘Xbo∘Xaa;refine Jq rfl (Kad q.arr x.site.sensors x.meas x.time _ _ zCb (hsR.mono h4) (h.meas.mono h4) (by show q.l.length≤1000;omega) za h.mlen h.mok h.time) rfl ?_;rintro v M U ⟨p2,q2,rfl,⟨hp2k,hq2k⟩,hp2l,hq2l,rfl,rfl⟩;refine Jx zSb rfl ?_;apply Xbt∘Xda;refine Ks (T:=90) (f:=XSpan.cells) (wd:=2) p2 [] zj yf ze hp2k yg ?_;refine V0 zy ?_;apply Xc0∘Xct;refine K0 (M:=L) (U:=Yvd p2.arr :: R) zTc ?hp ?hL ?hR;case hp=>exact ⟨p2.arr,rfl,by show p2.l=_;rw [hp2l,Z7d x.site A x.meas.l x.time hfl hdl,← hql],rfl,rfl⟩
 case hL=>exact zi
 case hR=>
  exact fun r hr=>by
   rcases List.mem_cons.1 hr with h | h;·rw [h];exact Ja (.head _)
   ·exact Ja (.tail _ (.tail _ (.tail _ (.tail _ h))))
end
section
attribute [local irreducible] CJ LJ DJ Tri YV Gives Uo J0 Kj Un RV J2 OwL.L
section
variable {A B:Prop}
def Ywf(h:A→B:=by exact Jx (by first | exact Jh tb rfl rfl rfl rfl zx (i:=r.zone.toNat) zk za | exact Jn tb rfl rfl rfl rfl (i:=r.zone.toNat) zk za) rfl):=h
end
def Zrd (L:LB) (R:LS):
 Tri Tryz.prog 79 ([]:List Value).toArray L R (fun v M U=>v=(⟨true,-1,0⟩:XWatch).val∧L=M∧R=U):=by refine Je 2 Tryz.call79 Tryz.func79 rfl rfl rfl ?_;apply (Xcg);intro b0;apply (qam);refine Jx zbc rfl ?_;apply (Xa8);refine q_r L R (U8 rfl zkb) ?_;exact zkd
def Uce (c:Arr XCut) (r:XRest) (L:LB) (R:LS) (hc:InR (Y5c c) R):
 Tri Tryz.prog 157 [c.val,r.val].toArray L R (fun v M U=>v=(Jma c.l r).val∧L=M∧R=U):=by
 refine Ve Tryz.call157 hc fun hcn=>?_;refine Je 39 Tryz.call157 Tryz.func157 rfl rfl rfl ?_;apply (Xag);intro b3;apply (qaq);intro b4;apply qaw∘Xaa∘Xcq;apply Kf (G:=[_,_,_,_,_,_,_,_,_,_,_,_,_,_,_,_,_,_,_,_,_,_,_,_,_,_,_]) (j:=3) (cj:=8) rfl rfl zb rfl zfb rfl;·
  intro hg4;replace hg4:=qb hg4;apply Xaa∘qbz∘qah;apply Vp (G:=[_,_,_,_,_]) (j:=7) (cj:=12) rfl rfl zb rfl zfb rfl;·intro hg8;replace hg8:=qb hg8;exact (Xaa∘Xak) zxd
  intro junk8;apply (qah);apply Vp (G:=[_,_,_,_,_,_]) (j:=14) (cj:=19) rfl rfl zb rfl zfb rfl;·intro hg15;replace hg15:=qb hg15;have hcg:=Ju (l:=c.l) (k:=r.zone.toNat) default za;exact (Xcl∘Ywf∘Xb3) qai
  intro junk15;apply (qah);apply Vp (G:=[_,_,_,_,_,_,_]) (j:=22) (cj:=27) rfl rfl zb rfl zfb rfl;·intro hg23;replace hg23:=qb hg23;have hcg:=Ju (l:=c.l) (k:=r.zone.toNat) default za;exact (Xcl∘Ywf∘Xb3) zfd
  intro junk23;exact qai
 intro junk4;apply (qaf);refine q_c ?_ ?_<;>intro hc0;·apply (qae);refine Jx zPb rfl ?_;apply (Xdk);refine q_r L R (U8 rfl zvb) ?_;exact ⟨by rw [Jma,if_pos (by rw [Zub];simpa [and_assoc] using hc0)],rfl,rfl⟩
 apply (qbv);refine q_l rfl (Ktd _ _) ?_;apply (Xa8);refine q_r L R (U8 rfl zvb) ?_;exact ⟨by
 rw [Jma,if_neg];rw [Zub];rintro (h | ⟨h1,h2,h3⟩);·exact hc0.1 h
 ·
  rcases hc0.2 with (h | h) | h;·omega
  ·rw [h] at h2;cases h2
  ·exact h h3,rfl,rfl⟩
def Yoe {A:LB} {R:LS} {p:OwL XCut} (r:XRest) (hp:InB (p.L 71 XCut.cells) A) (okp:p.ok 3 XCut.cells):
 Tri Tryz.prog 157 [p.val,r.val].toArray A R (fun v M U=>v=(Jma p.l r).val∧A=M∧R=U):=
 Tri.lendU (S:=[Y5c p.arr]) (fun w G hh s hs=>by
  rw [List.mem_singleton.1 hs]
  exact Yu (T:=71) hh hp okp yf ze yg) (Uce p.arr r [] _ zCb)
end
end Go.Proofs.YtchfclmokpbldaaGreat
