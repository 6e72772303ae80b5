/-
  Merged texts. By an AI agent.
-/
import Derived.Test.YtchfclmokpbldaaGreatStaG
import Derived.Test.YtchfclmokpbldaaGreatStatM
import Derived.Test.YtchfclmokpbldaaGreatSiteS
import Derived.Test.YtchfclmokpbldaaGreatCongrS
import Derived.Test.YtchfclmokpbldaaGreatEasy
import Derived.Test.YtchfclmokpbldaaGreatCutC
import Derived.Test.YtchfclmokpbldaaGreatFeedD
import Derived.Test.YtchfclmokpbldaaGreatSiteD
import Derived.Test.YtchfclmokpbldaaGreatFeedT
set_option linter.all false
set_option maxHeartbeats 4000000
set_option maxRecDepth 20000
namespace Go.Proofs.YtchfclmokpbldaaGreat
open Go.Aw Go
section
section
variable {A B:Prop}
def Ywe(h:A→B:=by exact Jx (Kf (qs:=[]) (out:=[_,_,_,_,_,_,_,_,_,_,_,_,_,_,_,_,_,_,_,_,_,_,_]) tb rfl rfl rfl rfl) rfl):=h
def Zse(h:B:=by exact ⟨staZ,Jad,by rw [he];rfl,J6f R,fun h=>by omega,fun _=>rfl,rfl,rfl⟩):=h
def Yif(h:A→B:=by exact Jx zkb rfl):=h
end
def Z0 {α:Type} {P:Program} {n:Nat} {code:Code} {t:Nat→Value} {L:LB} {R:LS} {Q:Kt} {f:α→List Value} {wd:Nat} (hf:∀x,(f x).length=wd) (hwd:0 < wd) (h:CJ P n code t L ((⟨none,0,[]⟩:Arr α).sl wd f [] :: R) Q):CJ P n code t L R Q:=
 Ksf (T:=3) (p:=(OwL.nil:OwL α)) (f:=f) [] OwL.nil_ok hf hwd yg h
def Jad:LS:=[psl ⟨none,0,[]⟩,rsl ⟨none,0,[]⟩,fsl ⟨none,0,[]⟩,dsl ⟨none,0,[]⟩,Jme ⟨none,0,[]⟩,Vtf ⟨none,0,[]⟩,Zie ⟨none,0,[]⟩,isl ⟨none,0,[]⟩,bsl ⟨none,0,[]⟩,V5 ⟨none,0,[]⟩,Jge ⟨none,0,[]⟩,Unc ⟨none,0,[]⟩,Vcb ⟨none,0,[]⟩,Zw ⟨none,0,[]⟩]
def Vpf {P:Program} {n:Nat} {code:Code} {t:Nat→Value} {L:LB} {R:LS} {Q:Kt} (h:CJ P n code t L (Jad ++ R) Q):CJ P n code t L R Q:=by refine Z0 (f:=XEntry.cells) (wd:=4) yf ze ?_;refine Z0 (f:=XSwitch.cells) (wd:=5) yf ze ?_;refine Z0 (f:=XCut.cells) (wd:=3) yf ze ?_;refine Z0 (f:=XWatch.cells) (wd:=3) yf ze ?_;refine Z0 (f:=XMeas.cells) (wd:=4) yf ze ?_;refine Z0 (f:=Jea) (wd:=1) yf ze ?_;refine Z0 (f:=Jo) (wd:=1) yf ze ?_;refine Z0 (f:=XZone.cells) (wd:=4) yf ze ?_;refine Z0 (f:=XCond.cells) (wd:=6) yf ze ?_;refine Z0 (f:=XSens.cells) (wd:=8) yf ze ?_;refine Z0 (f:=XDoor.cells) (wd:=3) yf ze ?_;refine Z0 (f:=XFan.cells) (wd:=4) yf ze ?_;refine Z0 (f:=XRoad.cells) (wd:=10) yf ze ?_;refine Z0 (f:=XPlace.cells) (wd:=2) yf ze ?_;exact h
def J6f (R:LS):StaR staZ (Jad ++ R):=by have m:∀s∈Jad,InR s (Jad ++ R):=fun s hs=>Ja (ym _ hs);refine ⟨⟨⟨m _ ?_,m _ ?_,m _ ?_,m _ ?_⟩,m _ ?_,m _ ?_,m _ ?_,m _ ?_⟩,m _ ?_,m _ ?_,m _ ?_,m _ ?_,⟨m _ ?_,m _ ?_⟩,m _ ?_⟩;all_goals simp [Jad,staZ]
def V9d (sw : List XSwitch) : Nat → List XSwitch
 | 0=>sw
 | k + 1=>U5 (V9d sw k) (k:Int) 0
def Kub (sw:List XSwitch):List XSwitch:=V9d sw sw.length
def Yca (s:XSite) (f:XFeeder):Int:=
 if K6 s≠0 then K6 s else if feedE f.switches.l f.zones.l f.reply≠0 then feedE f.switches.l f.zones.l f.reply
 else if f.zones.l.length≠s.zones.l.length then 17 else if∃x∈f.switches.l,x.since≠0 then 8 else 0
def gOf (s:XSite) (f:XFeeder) (A:List Bool):PSite:=⟨s,f.zones.l,f.reply,A⟩
def V9b:XMeas:=⟨-1,0,⟨0,0⟩⟩
def Yoc (s:XSite) (f:XFeeder):PSta:=⟨0,[],0,List.replicate s.sensors.l.length V9b,List.replicate s.conds.l.length ⟨true,-1,0⟩,List.replicate s.zones.l.length ⟨true,-1,0⟩,Kub f.switches.l,noRest,[]⟩
def Jnb {sw : List XSwitch} {zn : List Int} {rp : Int} (h : feedE sw zn rp = 0) : ∀ k, SwKeep sw (V9d sw k) 0
 | 0=>.refl h 0
 | k + 1=>(Jnb h k).openS _
def Ubf {s:XSite} {f:XFeeder} (h:Yca s f=0):K6 s=0∧feedE f.switches.l f.zones.l f.reply=0∧f.zones.l.length=s.zones.l.length∧∀x∈f.switches.l,x.since=0:=by
 rw [Yca] at h;split at h;·omega
 split at h;·omega
 split at h;·cases h
 split at h;·cases h
 rename_i h1 h2 h3 h4;exact ⟨Decidable.not_not.1 h1,Decidable.not_not.1 h2,Decidable.not_not.1 h3,fun x hx=>by
  rcases yca (x.since=0) with h5 | h5;·exact h5
  ·exact absurd ⟨x,hx,h5⟩ h4⟩
def Vec {s:XSite} {f:XFeeder} {A:List Bool} (h:Yca s f=0) (hA:AiryIs s.air.mine A):Inv (gOf s f A) (Yoc s f):=by
 obtain ⟨h1,h2,h3,h4⟩:=Ubf h;have hk:=Jnb (rp:=f.reply) h2 f.switches.l.length;refine ⟨h1,hA,⟨yD _,by show (0:Int)≤2147483648;decide⟩,yra,fun x hx=>?_,yra,fun w hw=>?_,yra,hk.feedE h2 ⟨yD _,by decide⟩,?_,h3,⟨by show (0:Int)≤0;decide,.inl rfl⟩,yT _,⟨fun x hx=>(by cases hx),yT _⟩⟩;·rw [yVa hx,Uca,V9b];dsimp only;omega
 ·rw [yVa hw];exact ⟨⟨by decide,by decide,by decide,.inl rfl⟩,yD _⟩
 ·exact (hk.time ⟨⟨yD _,by decide⟩,fun x hx=>by rw [h4 x hx];exact yD _⟩).2
attribute [local irreducible] CJ LJ DJ Tri YV Gives U0 J3 Kj Uz RV J5 OwL.L
def Y8e (s:XSite) (f:XFeeder) (A:List Bool) (L:LB) (R:LS):Yy:=fun v M U=>∃(y:XSta) (S:LS),v=.tuple #[y.val,.int .i64 (Yca s f)]∧StaR y U∧(Yca s f=0→StaIs (gOf s f A) (Yoc s f) y)∧(Yca s f≠0→y=staZ)∧L=M∧S ++ R=U
def V4b (s:XSite) (f:XFeeder) (A:List Bool) (L:LB) (R:LS) (hs:SiteR s R) (hf:FeederR f R) (hA:AiryIs s.air.mine A):
 Tri Tryz.prog 16 [s.val,f.val].toArray L R (Y8e s f A L R):=by
 have hswR:=hf.sw.mono fun r hr=>Ja (yi Jad hr);refine Jj 101 Tryz.call16 Tryz.func16 rfl rfl rfl ?_;apply (Xaf);intro b2;apply (qax);intro b3;apply (qaq);intro b4;apply qad∘qco;refine Vpf ?_;have hR0:∀r∈R,InR r (Jad ++ R):=fun r hr=>Ja (yi _ hr);have hs0:=hs.mono hR0;have hf0:=hf.mono hR0;apply (qay);refine Jx zob rfl ?_;refine q_l rfl (Kja s _ _ hs0) ?_;apply (Xba);refine q_c ?_ ?_<;>intro hc0;·
  apply qae∘Ywe∘Xbz;refine q_r L (Jad ++ R) zOc ?_;have he:Yca s f=K6 s:=by rw [Yca,if_pos hc0]
  exact Zse
 apply qbo∘Yif;refine q_l rfl (Vg f _ _ hf0) ?_;apply (Xba);refine q_c ?_ ?_<;>intro hc1;·
  apply qae∘Ywe∘Xbz;refine q_r L (Jad ++ R) zOc ?_;have he:Yca s f=feedE f.switches.l f.zones.l f.reply:=by rw [Yca,if_neg hc0,if_pos hc1]
  exact Zse
 apply qbo∘Xab∘Xab∘Xao;refine q_c ?_ ?_<;>intro hc2;·
  apply qae∘Ywe∘Xaz;refine q_r L (Jad ++ R) zOc ?_;have he:Yca s f=17:=by rw [Yca,if_neg hc0,if_neg hc1,if_pos za]
  exact Zse
 have hse:K6 s=0:=Decidable.not_not.1 hc0;have hfe:feedE f.switches.l f.zones.l f.reply=0:=Decidable.not_not.1 hc1;have hfo:=Vq hfe;have hsn:=hfo.sn;have hzl:=hfo.zl;have hso:=(Zz hse).len;apply (Xco);refine Jp [(2,.pointer _),(3,.pointer _),(4,.pointer _),(33,.slice _ _ _),(34,.int _ _),(35,.int _ _)] zh fun tq0=>?_;refine q_s ([5,9]++rg 35 9) (fun g:{k:Nat // k≤f.switches.l.length∧∀j:Nat,j < k→(f.switches.l.getD j default).since=0}=>[(35,.int .i64 ((g.1:Nat):Int))]) (fun g=>f.switches.l.length - g.1) (⟨0,by omega,fun j hj=>by omega⟩) ?_;rintro ⟨k,hk,hal⟩ junk;try dsimp only
 apply (Xak);refine q_c ?_ ?_<;>intro hc3;·
  have hg:=Jw (l:=f.switches.l) (k:=k) default za;apply (qbb);refine Jx zB rfl ?_;apply (Xdg);intro b9;apply Xbx∘Xao;refine q_c ?_ ?_<;>intro hc4;·apply qae∘Ywe∘qak∘qad∘qbt;refine q_r L (Jad ++ R) zOc ?_;(have he:Yca s f=8:=by rw [Yca,if_neg hc0,if_neg hc1,if_neg za,if_pos ⟨_,yj hg,hc4⟩]);exact Zse
  apply (Xax);exact uaN
 have hal2:∀x∈f.switches.l,x.since=0:=fun x hx=>by obtain ⟨j,hj,rfl⟩:=yMa hx;have:=hal j za;rwa [yh,yC hj] at this
 have he:Yca s f=0:=by rw [Yca,if_neg hc0,if_neg hc1,if_neg za,if_neg (fun ⟨x,hx,h⟩=>h (hal2 x hx))]
 have hn:∀q∈Jad,InR q (Jad ++ R):=fun q hq=>Ja (ym _ hq);have hN:StaN (⟨s,0,⟨none,0,[]⟩,0,⟨none,0,[]⟩,⟨none,0,[]⟩,⟨none,0,[]⟩,f,noRest,⟨none,0,[]⟩⟩:XSta):=⟨hse,yT _,yT _,yT _,yT _,(by show f.switches.l.length≤1000;omega),(by show f.zones.l.length≤1000;omega),yT _⟩;have hZ:=J6f R;have hXR:StaR (⟨s,0,⟨none,0,[]⟩,0,⟨none,0,[]⟩,⟨none,0,[]⟩,⟨none,0,[]⟩,f,noRest,⟨none,0,[]⟩⟩:XSta) (Jad ++ R):=⟨hs0,hZ.held,hZ.meas,hZ.watches,hZ.cuts,hf0,hZ.log⟩;apply (qc3);refine Kp tb [0,1,2,3,4,5,6] _ K3 zc ye ?_;refine K2 zob rfl rfl rfl ?_;refine K2 zkb rfl rfl rfl ?_;refine q_d rfl (K5c _ _) ?_;refine K2 (Kf (qs:=[(0,(Value.agg _).cells.toList),(6,(Value.agg _).cells.toList),(7,(Value.agg _).cells.toList)]) (out:=[_,_,_,_,_,_,_,_,_,_,_,_,_,_,_,_,_,_,_,_,_,_,_]) tb rfl rfl rfl rfl) rfl rfl rfl ?_;refine Yj rfl (J5b (⟨s,0,⟨none,0,[]⟩,0,⟨none,0,[]⟩,⟨none,0,[]⟩,⟨none,0,[]⟩,f,noRest,⟨none,0,[]⟩⟩:XSta) _ _ hN hXR) rfl rfl ?_;rintro v M U ⟨s',h',f',pm,pw,pc,pl,S0,rfl,hK,rfl,rfl⟩;refine ⟨zi,zw,?_⟩;apply (qbr);intro b10;apply (qbg);refine Jz (Jc (Jr (Jr ?_)));obtain ⟨R1,hR1e⟩:∃R1,R1=S0 ++ (Jad ++ R):=⟨_,rfl⟩;refine Vvc zAc ?_;have hK1:StaKO (⟨s,0,⟨none,0,[]⟩,0,⟨none,0,[]⟩,⟨none,0,[]⟩,⟨none,0,[]⟩,f,noRest,⟨none,0,[]⟩⟩:XSta) s' h' f' pm pw pc pl R1:=by rw [hR1e];exact hK
 have hRR1:∀r∈R,InR r R1:=fun r hr=>Ja (by rw [hR1e];exact yi _ (yi _ hr));have hpm0:pm.l=[]:=hK.em;have hpw0:pw.l=[]:=hK.ew;have hpc0:pc.l=[]:=hK.ec;have hpl0:pl.l=[]:=hK.el;have hswn:f'.switches.l=f.switches.l:=hK.esw;apply qay∘Xaw;refine Jp [(2,.pointer _),(4,.pointer _),(10,.pointer _),(51,.int _ _),(52,.int _ _)] zh fun tq1=>?_;refine q_p ([11]++rg 52 12) ((⟨fun g=>[(52,.int .i64 ((g.1.1:Nat):Int))],fun g=>⟨b10,(⟨s',0,h',0,pm.arr,pw.arr,pc.arr,g.1.2.1,noRest,pl.arr⟩:XSta).cells,54⟩ :: (pl.L 150 XEntry.cells ++ (pc.L 71 XCut.cells ++ (pw.L 153 XWatch.cells ++ (pm.L 93 XMeas.cells ++ (⟨b4,staZ.cells,54⟩ :: ⟨b3,f.cells,42⟩ :: ⟨b2,s.cells,38⟩ :: L))))),fun g=>g.1.2.2,fun g=>f.switches.l.length - g.1.1⟩:Head {g:Nat×XFeeder×LS // g.1≤f.switches.l.length∧(g.2.1.switches.l=V9d f.switches.l g.1∧g.2.1.zones.l=f.zones.l∧g.2.1.reply=f.reply)∧FeederR g.2.1 g.2.2∧∀r∈R1,InR r g.2.2})) (⟨(0,f',R1),by dsimp only;omega,⟨hK.esw,hK.ezn,hK.erp⟩,hK1.feeder,Jd _⟩) ?_;rintro ⟨⟨k1,f1,S1⟩,hk1,⟨hfs,hfz,hfr⟩,hf1,hext⟩ junk;try dsimp only
 dsimp only [XSta.cells];dsimp only at hk1 hfs hfz hfr hf1 hext;apply (Xak);refine q_c ?_ ?_<;>intro hc5;·
  have hkp:=Jnb (rp:=f.reply) hfe k1;have hfe1:feedE f1.switches.l f1.zones.l f1.reply=0:=by rw [hfs,hfz,hfr];exact hkp.feedE hfe ⟨yD _,by decide⟩
  have hl1:f1.switches.l.length=f.switches.l.length:=by rw [hfs];exact hkp.len
  have hto1:V7a f1.switches.l 0:=by rw [hfs];exact hkp.time ⟨⟨yD _,by decide⟩,fun x hx=>by rw [hal2 x hx];exact yD _⟩
  have hcan:Jxc f1.switches.l f1.zones.l f1.reply (k1:Int) 0=0:=by rw [Jxc,if_neg (by rw [hfe1];decide),if_neg za,if_pos hto1]
  apply Xa0∘qad;refine J6 (Jc (Jh ?_));apply qab∘Yif∘qaa;refine Jy rfl (U3b f1 (k1:Int) 0 _ _ hf1) rfl ?_;rintro v M U ⟨pp,qq,rp,rfl,⟨hppk,hqqk⟩,hop,rfl,rfl⟩;refine Jx zCb rfl ?_;apply Xa3∘qab;refine K4a tb rfl rfl rfl rfl zy zb zb zb ?_;refine J6 (Jk (Jc ?_));obtain ⟨hppl,hqql,rfl⟩:=hop hcan;refine Kg (T:=3) (f:=Jo) (wd:=1) qq [] zj yf ze hqqk yg ?_;refine Vf zp ?_;refine Kg (T:=76) (f:=XSwitch.cells) (wd:=5) pp [] zj yf ze hppk yg ?_;refine Vf zp ?_;apply qay∘Xae;exact q_k ⟨(k1 + 1,⟨pp.arr,qq.arr,f1.reply⟩,Vcb pp.arr :: isl qq.arr :: S1),by dsimp only;omega,⟨by show pp.l=_;rw [hppl,hfs];rfl,hqql.trans hfz,hfr⟩,⟨Ja (.head _),Ja (.tail _ (.head _))⟩,fun r hr=>(hext r hr).mono fun r hr=>Ja (.tail _ (.tail _ hr))⟩
 obtain rfl:k1=f.switches.l.length:=by omega
 apply qcf∘Xaw;refine Jp [(2,.pointer _),(4,.pointer _),(10,.pointer _),(66,.int _ _),(67,.int _ _)] zh fun tq2=>?_;refine q_p (rg 67 9) ((⟨fun g=>[(67,.int .i64 ((g.1.1:Nat):Int))],fun g=>⟨b10,(⟨s',0,h',0,g.1.2.arr,pw.arr,pc.arr,f1,noRest,pl.arr⟩:XSta).cells,54⟩ :: (pl.L 150 XEntry.cells ++ (pc.L 71 XCut.cells ++ (pw.L 153 XWatch.cells ++ (g.1.2.L 93 XMeas.cells ++ (⟨b4,staZ.cells,54⟩ :: ⟨b3,f.cells,42⟩ :: ⟨b2,s.cells,38⟩ :: L))))),fun _=>S1,fun g=>s.sensors.l.length - g.1.1⟩:Head {g:Nat×OwL XMeas // g.1≤s.sensors.l.length∧g.2.ok 4 XMeas.cells∧g.2.l=List.replicate g.1 V9b})) (⟨(0,pm),by dsimp only;omega,hK.km,hpm0⟩) ?_;rintro ⟨⟨k2,pm2⟩,hk2,hm2k,hm2⟩ junk;try dsimp only
 dsimp only [XSta.cells];dsimp only at hk2 hm2k hm2;have hm2n:pm2.l.length=k2:=by rw [hm2,yra]
 apply (Xak);refine q_c ?_ ?_<;>intro hc6;·refine Ka (Jc (Jr (Km (Jh ?_))));apply (Xaa);refine Jx zkc rfl ?_;refine Jqa zzb rfl ?_;rintro v M U ⟨b72,rfl,rfl,hR72⟩;replace hR72:=hR72.symm;subst hR72;refine Jqa (Kb (f:=XMeas.cells) (p:=pm2) (a:=V9b) tb rfl rfl rfl rfl (hm2k) zj zxb rfl zA) rfl ?_;rintro v M U ⟨o73,rfl,hok73,rfl,rfl⟩;apply Xbn∘Xa7;exact q_k ⟨(k2 + 1,⟨o73,pm2.l ++ [V9b]⟩),by dsimp only;omega,hok73,by dsimp only;rw [hm2,yHb]⟩
 obtain rfl:k2=s.sensors.l.length:=by omega
 apply qcf∘Xaw;refine Jp [(2,.pointer _),(4,.pointer _),(10,.pointer _),(78,.int _ _),(79,.int _ _)] zh fun tq3=>?_;refine q_p (rg 79 9) ((⟨fun g=>[(79,.int .i64 ((g.1.1:Nat):Int))],fun g=>⟨b10,(⟨s',0,h',0,pm2.arr,g.1.2.arr,pc.arr,f1,noRest,pl.arr⟩:XSta).cells,54⟩ :: (pl.L 150 XEntry.cells ++ (pc.L 71 XCut.cells ++ (g.1.2.L 153 XWatch.cells ++ (pm2.L 93 XMeas.cells ++ (⟨b4,staZ.cells,54⟩ :: ⟨b3,f.cells,42⟩ :: ⟨b2,s.cells,38⟩ :: L))))),fun _=>S1,fun g=>s.conds.l.length - g.1.1⟩:Head {g:Nat×OwL XWatch // g.1≤s.conds.l.length∧g.2.ok 3 XWatch.cells∧g.2.l=List.replicate g.1 (⟨true,-1,0⟩:XWatch)})) (⟨(0,pw),by dsimp only;omega,hK.kw,hpw0⟩) ?_;rintro ⟨⟨k3,pw2⟩,hk3,hw2k,hw2⟩ junk;try dsimp only
 dsimp only [XSta.cells];dsimp only at hk3 hw2k hw2;have hw2n:pw2.l.length=k3:=by rw [hw2,yra]
 apply (Xak);refine q_c ?_ ?_<;>intro hc7;·refine Ka (Jc (Jr (Km ?_)));refine Kh tb [] [0,1,2,3] [4,5,6] (_) _ K3 zc zi yd ?_;apply (Xar);refine Up rfl (K9e _ _) rfl rfl ?_;rintro v M U ⟨rfl,rfl,rfl⟩;refine ⟨zi,zw,?_⟩;refine K0d zAb rfl rfl rfl ?_;rintro v M U ⟨b84,rfl,rfl,hR84⟩;replace hR84:=hR84.symm;subst hR84;apply (Xc0);refine Z4b (Kb (f:=XWatch.cells) (p:=pw2) (a:=⟨true,-1,0⟩) tb rfl rfl rfl rfl (hw2k) zj zxb rfl zA) rfl rfl rfl ?_;rintro v M U ⟨o85,rfl,hok85,rfl,rfl⟩;apply qa1∘Xc1∘Xda;exact q_k ⟨(k3 + 1,⟨o85,pw2.l ++ [⟨true,-1,0⟩]⟩),by dsimp only;omega,hok85,by dsimp only;rw [hw2,yHb]⟩
 obtain rfl:k3=s.conds.l.length:=by omega
 apply qcf∘Xaw;refine Jp [(4,.pointer _),(10,.pointer _),(90,.int _ _),(91,.int _ _)] zh fun tq4=>?_;refine q_p (rg 91 9) ((⟨fun g=>[(91,.int .i64 ((g.1.1:Nat):Int))],fun g=>⟨b10,(⟨s',0,h',0,pm2.arr,pw2.arr,g.1.2.arr,f1,noRest,pl.arr⟩:XSta).cells,54⟩ :: (pl.L 150 XEntry.cells ++ (g.1.2.L 71 XCut.cells ++ (pw2.L 153 XWatch.cells ++ (pm2.L 93 XMeas.cells ++ (⟨b4,staZ.cells,54⟩ :: ⟨b3,f.cells,42⟩ :: ⟨b2,s.cells,38⟩ :: L))))),fun _=>S1,fun g=>s.zones.l.length - g.1.1⟩:Head {g:Nat×OwL XCut // g.1≤s.zones.l.length∧g.2.ok 3 XCut.cells∧g.2.l=List.replicate g.1 (⟨true,-1,0⟩:XCut)})) (⟨(0,pc),by dsimp only;omega,hK.kc,hpc0⟩) ?_;rintro ⟨⟨k4,pc2⟩,hk4,hc2k,hc2⟩ junk;try dsimp only
 dsimp only [XSta.cells];dsimp only at hk4 hc2k hc2;have hc2n:pc2.l.length=k4:=by rw [hc2,yra]
 apply (Xak);refine q_c ?_ ?_<;>intro hc8;·refine Ka (Jc (Jr (Km (Jh ?_))));apply (Xaa);refine Jx zTb rfl ?_;refine Jqa zAb rfl ?_;rintro v M U ⟨b96,rfl,rfl,hR96⟩;replace hR96:=hR96.symm;subst hR96;refine Jqa (Kb (f:=XCut.cells) (p:=pc2) (a:=⟨true,-1,0⟩) tb rfl rfl rfl rfl (hc2k) zj zxb rfl zA) rfl ?_;rintro v M U ⟨o97,rfl,hok97,rfl,rfl⟩;apply Xbn∘Xa7;exact q_k ⟨(k4 + 1,⟨o97,pc2.l ++ [⟨true,-1,0⟩]⟩),by dsimp only;omega,hok97,by dsimp only;rw [hc2,yHb]⟩
 obtain rfl:k4=s.zones.l.length:=by omega
 refine Kg (T:=93) (f:=XMeas.cells) (wd:=4) pm2 [] zj yf ze hm2k yg ?_;refine Vf zp ?_;refine Kg (T:=153) (f:=XWatch.cells) (wd:=3) pw2 [] zj yf ze hw2k yg ?_;refine Vf zp ?_;refine Kg (T:=71) (f:=XCut.cells) (wd:=3) pc2 [] zj yf ze hc2k yg ?_;refine Vf zp ?_;refine Kg (T:=150) (f:=XEntry.cells) (wd:=4) pl [] zj yf ze hK.kl yg ?_;refine Vf zp ?_;obtain ⟨R2,hR2e⟩:∃R2,R2=Zw pl.arr :: Unc pc2.arr :: Jge pw2.arr :: V5 pm2.arr :: S1:=⟨_,rfl⟩;refine Vvc (show _=R2 by rw [hR2e]) ?_;have h12:∀r∈S1,InR r (R2 ++ R):=fun r hr=>Ja (by rw [hR2e];exact .tail _ (.tail _ (.tail _ (.tail _ (ym _ hr)))));have h02:∀r∈R1,InR r (R2 ++ R):=fun r hr=>(hext r hr).mono h12;have hRR2:∀r∈R,InR r R2:=fun r hr=>((hRR1 r hr).mono hext).mono fun r hr=>Ja (by rw [hR2e];exact .tail _ (.tail _ (.tail _ (.tail _ hr))));have e1:InR (Zw pl.arr) (R2 ++ R):=Ja zqa;have e2:InR (Unc pc2.arr) (R2 ++ R):=Ja zDa;have e3:InR (Jge pw2.arr) (R2 ++ R):=Ja zBa;have e4:InR (V5 pm2.arr) (R2 ++ R):=Ja (by rw [hR2e];exact .tail _ (.tail _ (.tail _ (.head _))));apply (qbk);refine Jx zlb rfl ?_;apply (Xbl);refine Kq (M:=L) (U:=R2 ++ R) zOc ?hp ?hL ?hR;case hp=>exact ⟨(⟨s',0,h',0,pm2.arr,pw2.arr,pc2.arr,f1,noRest,pl.arr⟩:XSta),R2,by rw [he],⟨hK1.site.mono h02,hK1.held.mono h02,e4,e3,e2,hf1.mono h12,e1⟩,fun _=>⟨hK.es,rfl,hK.eh,rfl,hm2,hw2,hc2,hfs,hfz,hfr,rfl,hpl0⟩,fun h=>absurd he h,rfl,rfl⟩
 case hL=>exact zi
 case hR=>
  exact fun r hr=>by
   rcases List.mem_append.1 hr with h | h;·exact Ja h
   ·exact hRR2 r h
end
section
section
variable {g:PSite} {p:PSta}
structure KeepP (p q:PSta):Prop where
 meas:q.meas=p.meas
 held:q.held=p.held
 dropped:q.dropped=p.dropped
def KeepP.refl (p:PSta):KeepP p p:=⟨rfl,rfl,rfl⟩
def KeepP.trans {p q r:PSta} (h:KeepP p q) (k:KeepP q r):KeepP p r:=⟨k.meas.trans h.meas,k.held.trans h.held,k.dropped.trans h.dropped⟩
def Ywc (z:Int):KeepP p (Vfb g p z):=by rw [Vfb];split <;> exact ⟨rfl,rfl,rfl⟩
def Vwc : ∀ (l : List Int) {p : PSta}, KeepP p (Vda g p l)
 | [],p=>.refl p
 | z :: l,p=>(Ywc z).trans (Vwc l)
def Ujb (kind : Int) : ∀ (l : List Int) {p : PSta}, KeepP p (Zu kind p l)
 | [],p=>.refl p
 | z :: l,p=>KeepP.trans (q:=Zg p kind z 0) ⟨rfl,rfl,rfl⟩ (Ujb kind l)
def Jqd (vals:List Int) (z:Nat):KeepP p (Y9 g vals p z):=by
 rw [Y9];split;·exact .refl p
 ·exact KeepP.trans (q:={ p with cuts:=p.cuts.set z ⟨true,(p.cuts.getD z default).clear,Kia (g.site.zones.l.getD z default).rule.l vals⟩ }) ⟨rfl,rfl,rfl⟩ (Ywc _)
def Zdb (vals : List Int) : ∀ k, KeepP p (darkTo g vals p k)
 | 0=>.refl p
 | k + 1=>(Zdb vals k).trans (Jqd vals k)
def V9 (t:Int):KeepP p (Je g p t):=by rw [Je];refine KeepP.trans ?_ (Zdb _ _);rw [settleB];refine KeepP.trans ?_ (Ujb _ _);refine KeepP.trans ?_ (Ujb _ _);refine KeepP.trans (q:=settleA g { p with time:=t }) ?_ ⟨rfl,rfl,rfl⟩;rw [settleA];exact KeepP.trans (q:={ p with time:=t,watches:=_,cuts:=_ }) ⟨rfl,rfl,rfl⟩ (Vwc _)
def Yua (p:PSta):Prop:=∀c∈p.cuts,c.off=true
def Yza : ∀ (l : List Int) {p : PSta}, (Vda g p l).cuts = p.cuts
 | [],p=>rfl
 | z :: l,p=>(Yza l).trans (Y4a z)
def U2a (kind : Int) : ∀ (l : List Int) {p : PSta}, (Zu kind p l).cuts = p.cuts
 | [],p=>rfl
 | z :: l,p=>U2a kind l
def Jif {v t:Int} {c:XCut} (h:c.off=true):(Ksb v c t).off=true:=by
 rw [Ksb];repeat' split
 all_goals first | exact h | rfl
def Vfd {l:List XCut} (h:∀c∈l,c.off=true) {i:Nat} (hi:i < l.length):(l.getD i default).off=true:=h _ (yj (Jw (l:=l) (k:=i) default hi))
def Kjd (h:Yua p):Yua (settleA g p):=by
 intro c hc;rw [settleA,Yza] at hc;dsimp only at hc;rw [cutsC] at hc;split at hc;·cases hc
 ·rw [List.mem_map] at hc;obtain ⟨i,hi,rfl⟩:=hc;rw [yya] at hi;rw [cutAt];exact Jif (Vfd h hi)
def Ula:(settleB g p).cuts=p.cuts:=by rw [settleB,U2a,U2a]
def V6d (vals : List Int) (h : Yua p) : ∀ k, k ≤ p.cuts.length → darkTo g vals p k = p
 | 0,_=>rfl
 | k + 1,hk=>by
  rw [darkTo,V6d vals h k za,Y9,if_pos (.inl (Vfd h za))]
def Kzc (h:Yua p) (t:Int):Yua (Je g p t):=by
 have h1:Yua (settleB g (settleA g { p with time:=t })):=by intro c hc;rw [Ula] at hc;exact Kjd (p:={ p with time:=t }) h c hc
 rw [Je];rw [V6d _ h1 _ (yl _)];exact h1
end
end
section
attribute [local irreducible] CJ LJ DJ Tri YV Gives U0 J3 Kj Uz RV J5 OwL.L
section
variable (b b':Nat)
end
end
section
attribute [local irreducible] CJ LJ DJ Tri YV Gives U0 J3 Kj Uz RV J5 OwL.L
section
variable {s:XSite} {len dl ho:Int} (h:EasyD s len dl ho)
include h
def Y2e:K1 s.air=0:=by
 obtain ⟨h1,h2,h3,h4,h5,h6,h7,_,h8,⟨h9,h9'⟩,_⟩:=h;obtain ⟨⟨⟨⟨pa,pc,pl⟩,⟨ra,rc,rl⟩⟩,⟨fa,fc,fl⟩,⟨da,dc,dl⟩⟩,se,cn,zs,ps⟩:=s;dsimp only at h1 h2 h3 h4;subst h1 h2 h3 h4;have:len=1∨len=2∨len=3∨len=4:=by omega
 rcases this with rfl | rfl | rfl | rfl <;> rfl
def K3f:SiteOk s:=by
 have ha:=Y2e h;obtain ⟨h1,h2,h3,h4,h5,h6,⟨z,h7,z1,z2,z3,z4⟩,_,h8,hr⟩:=h;refine ⟨ha,by rw [h5,h6,h7,h8];simp,fun i hi=>?_,fun c hc=>?_,fun y hy=>?_,fun p hp=>?_⟩;·
  rw [h5] at hi ⊢;obtain rfl:i=0:=by simp only [yw,yea] at hi;omega
  rw [Z1,if_neg ze,if_neg,if_neg (by rintro ⟨k,hk,_⟩;omega)];rw [Y5a,h2];show ¬ ¬ ((0:Int)≤0∧(0:Int) < 1);decide
 ·
  rw [h6] at hc;rw [List.mem_singleton.1 hc,Ks,if_neg,if_neg (by show ¬ ((0:Int) < 0∨(1099511627776:Int) < 0);decide),if_pos zb,Jya,if_pos];·show (100 : Int) ≤ 1000000 ∧ (0 : Int) ≤ 60 ∧ (60 : Int) < 100 ∧ 0 ≤ dl ∧ dl ≤ 100000;omega
  ·rw [h5, h2];show ¬ (0:Int)≠0;decide
 ·
  rw [h7] at hy;rw [List.mem_singleton.1 hy,Yx,z1,h6,h2,if_neg (by show ¬ Jna _ 1≠0;decide),if_neg za,if_neg];rintro ⟨i,hi,hb⟩;rw [z3] at hi hb;obtain rfl:i=0:=by simp only [yw,yea] at hi;omega
  revert hb;show ¬ Yi 1 [0] 0;decide
 ·rw [h8] at hp;simp only [yaa,yY,or_false] at hp;omega
end
end
section
section
variable {s:XSite} {len dl ho:Int} (h:EasyD s len dl ho)
include h
end
def openS (n:Nat):List XSwitch:=(List.range n).map fun (i:Nat)=>⟨(i:Int) - 1,0,-1,false,false⟩
end
section
section
variable {s:XSite} {len dl ho:Int} {f:XFeeder} {A:List Bool} (h:EasyD s len dl ho)
include h
def J2c {n:Nat} (hn:1≤n∧n≤3) (h1:f.switches.l=Kga n) (h2:f.zones.l=[(n:Int) - 1]) (h3:f.reply=3):Yca s f=0:=by
 obtain ⟨z,h7,_⟩:=h.zone;have hfe:feedE f.switches.l f.zones.l f.reply=0:=by
  rw [h1,h2,h3];have:n=1∨n=2∨n=3:=by omega
  rcases this with rfl | rfl | rfl <;> decide
 rw [Yca,(K3f h).err,if_neg ze,hfe,if_neg ze,if_neg (by rw [h2,h7];simp),if_neg];rintro ⟨x,hx,h9⟩;rw [h1,Kga,List.mem_map] at hx;obtain ⟨i,_,rfl⟩:=hx;exact h9 rfl
def sw1:List XSwitch:=[⟨-1,0,0,false,false⟩]
def pAw (t:Int):PSta:=⟨t,[],0,[V9b],[⟨true,-1,t⟩],[⟨true,-1,0⟩],sw1,noRest,[]⟩
def Zzd (h1:f.switches.l=Kga 1):Yoc s f=pAw 0:=by obtain ⟨z,h7,_⟩:=h.zone;rw [Yoc,h.sens,h.conds,h7,h1];rfl
end
end
end Go.Proofs.YtchfclmokpbldaaGreat
