/-
  Merged texts. By an AI agent.
-/
import Derived.Test.YtchfclmokpbldaaGreatStaG
import Derived.Test.YtchfclmokpbldaaGreatAppR
import Derived.Test.YtchfclmokpbldaaGreatCongrS
import Derived.Test.YtchfclmokpbldaaGreatRel
import Derived.Test.YtchfclmokpbldaaGreatLaw11b
import Derived.Test.YtchfclmokpbldaaGreatAnal
import Derived.Test.YtchfclmokpbldaaGreatSiteS
import Derived.Test.YtchfclmokpbldaaGreatEasy
import Derived.Test.YtchfclmokpbldaaGreatCutC
import Derived.Test.YtchfclmokpbldaaGreatFeedC
import Derived.Test.YtchfclmokpbldaaGreatDrawC
import Derived.Test.YtchfclmokpbldaaGreatStatI
set_option linter.all false
set_option maxHeartbeats 4000000
set_option maxRecDepth 20000
namespace Go.Proofs.YtchfclmokpbldaaGreat
open Go.Aw Go
section
section
variable {A B:Prop}
def Vee(h:A→B:=by exact Jx (J4 (qs:=[]) (out:=[_,_,_,_,_,_,_,_,_,_,_,_,_,_,_,_,_,_,_,_,_,_,_]) tb rfl rfl rfl rfl) rfl):=h
def V3e(h:B:=by exact ⟨staZ,Y1c,by rw [he];rfl,Zbe R,fun h=>by omega,fun _=>rfl,rfl,rfl⟩):=h
def Vif(h:A→B:=by exact Jx zjb rfl):=h
end
def Zy {α:Type} {P:Program} {n:Nat} {code:Code} {t:Nat→Value} {L:LB} {R:LS} {Q:Kt} {f:α→List Value} {wd:Nat} (hf:∀x,(f x).length=wd) (hwd:0 < wd) (h:CJ P n code t L ((⟨none,0,[]⟩:Arr α).sl wd f [] :: R) Q):CJ P n code t L R Q:=
 J1e (T:=3) (p:=(OwL.nil:OwL α)) (f:=f) [] OwL.nil_ok hf hwd yg h
def Y1c:LS:=[psl ⟨none,0,[]⟩,rsl ⟨none,0,[]⟩,fsl ⟨none,0,[]⟩,dsl ⟨none,0,[]⟩,Y4c ⟨none,0,[]⟩,Y7e ⟨none,0,[]⟩,Zxd ⟨none,0,[]⟩,isl ⟨none,0,[]⟩,bsl ⟨none,0,[]⟩,Vsa ⟨none,0,[]⟩,Vfd ⟨none,0,[]⟩,Y5c ⟨none,0,[]⟩,Jqd ⟨none,0,[]⟩,Umb ⟨none,0,[]⟩]
def Kwf {P:Program} {n:Nat} {code:Code} {t:Nat→Value} {L:LB} {R:LS} {Q:Kt} (h:CJ P n code t L (Y1c ++ R) Q):CJ P n code t L R Q:=by refine Zy (f:=XEntry.cells) (wd:=4) yf ze ?_;refine Zy (f:=XSwitch.cells) (wd:=5) yf ze ?_;refine Zy (f:=XCut.cells) (wd:=3) yf ze ?_;refine Zy (f:=XWatch.cells) (wd:=3) yf ze ?_;refine Zy (f:=XMeas.cells) (wd:=4) yf ze ?_;refine Zy (f:=Vd) (wd:=1) yf ze ?_;refine Zy (f:=Ji) (wd:=1) yf ze ?_;refine Zy (f:=XZone.cells) (wd:=4) yf ze ?_;refine Zy (f:=XCond.cells) (wd:=6) yf ze ?_;refine Zy (f:=XSens.cells) (wd:=8) yf ze ?_;refine Zy (f:=XDoor.cells) (wd:=3) yf ze ?_;refine Zy (f:=XFan.cells) (wd:=4) yf ze ?_;refine Zy (f:=XRoad.cells) (wd:=10) yf ze ?_;refine Zy (f:=XPlace.cells) (wd:=2) yf ze ?_;exact h
def Zbe (R:LS):StaR staZ (Y1c ++ R):=by have m:∀s∈Y1c,InR s (Y1c ++ R):=fun s hs=>Ja (yq _ hs);refine ⟨⟨⟨m _ ?_,m _ ?_,m _ ?_,m _ ?_⟩,m _ ?_,m _ ?_,m _ ?_,m _ ?_⟩,m _ ?_,m _ ?_,m _ ?_,m _ ?_,⟨m _ ?_,m _ ?_⟩,m _ ?_⟩;all_goals simp [Y1c,staZ]
def K6d (sw : List XSwitch) : Nat → List XSwitch
 | 0=>sw
 | k + 1=>V1 (K6d sw k) (k:Int) 0
def Jkf (sw:List XSwitch):List XSwitch:=K6d sw sw.length
def K2a (s:XSite) (f:XFeeder):Int:=
 if K5 s≠0 then K5 s else if feedE f.switches.l f.zones.l f.reply≠0 then feedE f.switches.l f.zones.l f.reply
 else if f.zones.l.length≠s.zones.l.length then 17 else if∃x∈f.switches.l,x.since≠0 then 8 else 0
def gOf (s:XSite) (f:XFeeder) (A:List Bool):PSite:=⟨s,f.zones.l,f.reply,A⟩
def Z6:XMeas:=⟨-1,0,⟨0,0⟩⟩
def Uia (s:XSite) (f:XFeeder):PSta:=⟨0,[],0,List.replicate s.sensors.l.length Z6,List.replicate s.conds.l.length ⟨true,-1,0⟩,List.replicate s.zones.l.length ⟨true,-1,0⟩,Jkf f.switches.l,noRest,[]⟩
def Zya {sw : List XSwitch} {zn : List Int} {rp : Int} (h : feedE sw zn rp = 0) : ∀ k, SwKeep sw (K6d sw k) 0
 | 0=>.refl h 0
 | k + 1=>(Zya h k).openS _
def Klf {s:XSite} {f:XFeeder} (h:K2a s f=0):K5 s=0∧feedE f.switches.l f.zones.l f.reply=0∧f.zones.l.length=s.zones.l.length∧∀x∈f.switches.l,x.since=0:=by
 rw [K2a] at h;split at h;·omega
 split at h;·omega
 split at h;·cases h
 split at h;·cases h
 rename_i h1 h2 h3 h4;exact ⟨Decidable.not_not.1 h1,Decidable.not_not.1 h2,Decidable.not_not.1 h3,fun x hx=>by
  rcases yba (x.since=0) with h5 | h5;·exact h5
  ·exact absurd ⟨x,hx,h5⟩ h4⟩
def Juc {s:XSite} {f:XFeeder} {A:List Bool} (h:K2a s f=0) (hA:AiryIs s.air.mine A):Inv (gOf s f A) (Uia s f):=by
 obtain ⟨h1,h2,h3,h4⟩:=Klf h;have hk:=Zya (rp:=f.reply) h2 f.switches.l.length;refine ⟨h1,hA,⟨yG _,by show (0:Int)≤2147483648;decide⟩,yla,fun x hx=>?_,yla,fun w hw=>?_,yla,hk.feedE h2 ⟨yG _,by decide⟩,?_,h3,⟨by show (0:Int)≤0;decide,.inl rfl⟩,yga _,⟨fun x hx=>(by cases hx),yga _⟩⟩;·rw [List.eq_of_mem_replicate hx,Kza,Z6];dsimp only;omega
 ·rw [List.eq_of_mem_replicate hw];exact ⟨⟨by decide,by decide,by decide,.inl rfl⟩,yG _⟩
 ·exact (hk.time ⟨⟨yG _,by decide⟩,fun x hx=>by rw [h4 x hx];exact yG _⟩).2
attribute [local irreducible] CJ LJ DJ Tri YV Gives Uo J0 Kj Un RV J2 OwL.L
def Ube (s:XSite) (f:XFeeder) (A:List Bool) (L:LB) (R:LS):Yo:=fun v M U=>∃(y:XSta) (S:LS),v=.tuple #[y.val,.int .i64 (K2a s f)]∧StaR y U∧(K2a s f=0→StaIs (gOf s f A) (Uia s f) y)∧(K2a s f≠0→y=staZ)∧L=M∧S ++ R=U
def Vpb (s:XSite) (f:XFeeder) (A:List Bool) (L:LB) (R:LS) (hs:SiteR s R) (hf:FeederR f R) (hA:AiryIs s.air.mine A):
 Tri Tryz.prog 16 [s.val,f.val].toArray L R (Ube s f A L R):=by
 have hswR:=hf.sw.mono fun r hr=>Ja (yk Y1c hr);refine Je 101 Tryz.call16 Tryz.func16 rfl rfl rfl ?_;apply (Xag);intro b2;apply (qax);intro b3;apply (qaq);intro b4;apply qad∘qco;refine Kwf ?_;have hR0:∀r∈R,InR r (Y1c ++ R):=fun r hr=>Ja (yk _ hr);have hs0:=hs.mono hR0;have hf0:=hf.mono hR0;apply (qay);refine Jx zmb rfl ?_;refine q_l rfl (J5a s _ _ hs0) ?_;apply (Xbp);refine q_c ?_ ?_<;>intro hc0;·
  apply qae∘Vee∘Xdm;refine q_r L (Y1c ++ R) zUc ?_;have he:K2a s f=K5 s:=by rw [K2a,if_pos hc0]
  exact V3e
 apply qbo∘Vif;refine q_l rfl (Zu f _ _ hf0) ?_;apply (Xbp);refine q_c ?_ ?_<;>intro hc1;·
  apply qae∘Vee∘Xdm;refine q_r L (Y1c ++ R) zUc ?_;have he:K2a s f=feedE f.switches.l f.zones.l f.reply:=by rw [K2a,if_neg hc0,if_pos hc1]
  exact V3e
 apply qbo∘Xab∘Xab∘Xax;refine q_c ?_ ?_<;>intro hc2;·
  apply qae∘Vee∘Xb0;refine q_r L (Y1c ++ R) zUc ?_;have he:K2a s f=17:=by rw [K2a,if_neg hc0,if_neg hc1,if_pos za]
  exact V3e
 have hse:K5 s=0:=Decidable.not_not.1 hc0;have hfe:feedE f.switches.l f.zones.l f.reply=0:=Decidable.not_not.1 hc1;have hfo:=Z1 hfe;have hsn:=hfo.sn;have hzl:=hfo.zl;have hso:=(Z4 hse).len;apply (Xcp);refine Jk [(2,.pointer _),(3,.pointer _),(4,.pointer _),(33,.slice _ _ _),(34,.int _ _),(35,.int _ _)] zh fun tq0=>?_;refine q_s ([5,9]++rg 35 9) (fun g:{k:Nat // k≤f.switches.l.length∧∀j:Nat,j < k→(f.switches.l.getD j default).since=0}=>[(35,.int .i64 ((g.1:Nat):Int))]) (fun g=>f.switches.l.length - g.1) (⟨0,by omega,fun j hj=>by omega⟩) ?_;rintro ⟨k,hk,hal⟩ junk;try dsimp only
 apply (Xan);refine q_c ?_ ?_<;>intro hc3;·
  have hg:=Ju (l:=f.switches.l) (k:=k) default za;apply (qbb);refine Jx zD rfl ?_;apply qdw∘qaq;intro b9;apply Xb2∘Xax;refine q_c ?_ ?_<;>intro hc4;·apply qae∘Vee∘qak∘qad∘qbt;refine q_r L (Y1c ++ R) zUc ?_;(have he:K2a s f=8:=by rw [K2a,if_neg hc0,if_neg hc1,if_neg za,if_pos ⟨_,yi hg,hc4⟩]);exact V3e
  apply (Xa3);exact uaP
 have hal2:∀x∈f.switches.l,x.since=0:=fun x hx=>by obtain ⟨j,hj,rfl⟩:=yvb hx;have:=hal j za;rwa [yh,yH hj] at this
 have he:K2a s f=0:=by rw [K2a,if_neg hc0,if_neg hc1,if_neg za,if_neg (fun ⟨x,hx,h⟩=>h (hal2 x hx))]
 have hn:∀q∈Y1c,InR q (Y1c ++ R):=fun q hq=>Ja (yq _ hq);have hN:StaN (⟨s,0,⟨none,0,[]⟩,0,⟨none,0,[]⟩,⟨none,0,[]⟩,⟨none,0,[]⟩,f,noRest,⟨none,0,[]⟩⟩:XSta):=⟨hse,yga _,yga _,yga _,yga _,(by show f.switches.l.length≤1000;omega),(by show f.zones.l.length≤1000;omega),yga _⟩;have hZ:=Zbe R;have hXR:StaR (⟨s,0,⟨none,0,[]⟩,0,⟨none,0,[]⟩,⟨none,0,[]⟩,⟨none,0,[]⟩,f,noRest,⟨none,0,[]⟩⟩:XSta) (Y1c ++ R):=⟨hs0,hZ.held,hZ.meas,hZ.watches,hZ.cuts,hf0,hZ.log⟩;apply (qc3);refine Kk tb [0,1,2,3,4,5,6] _ Kr zc ye ?_;refine K3 zmb rfl rfl rfl ?_;refine K3 zjb rfl rfl rfl ?_;refine q_d rfl (Ktd _ _) ?_;refine K3 (J4 (qs:=[(0,(Value.agg _).cells.toList),(6,(Value.agg _).cells.toList),(7,(Value.agg _).cells.toList)]) (out:=[_,_,_,_,_,_,_,_,_,_,_,_,_,_,_,_,_,_,_,_,_,_,_]) tb rfl rfl rfl rfl) rfl rfl rfl ?_;refine Yp rfl (Z3a (⟨s,0,⟨none,0,[]⟩,0,⟨none,0,[]⟩,⟨none,0,[]⟩,⟨none,0,[]⟩,f,noRest,⟨none,0,[]⟩⟩:XSta) _ _ hN hXR) rfl rfl ?_;rintro v M U ⟨s',h',f',pm,pw,pc,pl,S0,rfl,hK,rfl,rfl⟩;refine ⟨zi,zq,?_⟩;apply (qbr);intro b10;apply (qbg);refine J3 (Jb (Jl (Jl ?_)));obtain ⟨R1,hR1e⟩:∃R1,R1=S0 ++ (Y1c ++ R):=⟨_,rfl⟩;refine Zfb zCc ?_;have hK1:StaKO (⟨s,0,⟨none,0,[]⟩,0,⟨none,0,[]⟩,⟨none,0,[]⟩,⟨none,0,[]⟩,f,noRest,⟨none,0,[]⟩⟩:XSta) s' h' f' pm pw pc pl R1:=by rw [hR1e];exact hK
 have hRR1:∀r∈R,InR r R1:=fun r hr=>Ja (by rw [hR1e];exact yk _ (yk _ hr));have hpm0:pm.l=[]:=hK.em;have hpw0:pw.l=[]:=hK.ew;have hpc0:pc.l=[]:=hK.ec;have hpl0:pl.l=[]:=hK.el;have hswn:f'.switches.l=f.switches.l:=hK.esw;apply qay∘Xaz;refine Jk [(2,.pointer _),(4,.pointer _),(10,.pointer _),(51,.int _ _),(52,.int _ _)] zh fun tq1=>?_;refine q_p ([11]++rg 52 12) ((⟨fun g=>[(52,.int .i64 ((g.1.1:Nat):Int))],fun g=>⟨b10,(⟨s',0,h',0,pm.arr,pw.arr,pc.arr,g.1.2.1,noRest,pl.arr⟩:XSta).cells,54⟩ :: (pl.L 150 XEntry.cells ++ (pc.L 71 XCut.cells ++ (pw.L 153 XWatch.cells ++ (pm.L 93 XMeas.cells ++ (⟨b4,staZ.cells,54⟩ :: ⟨b3,f.cells,42⟩ :: ⟨b2,s.cells,38⟩ :: L))))),fun g=>g.1.2.2,fun g=>f.switches.l.length - g.1.1⟩:Head {g:Nat×XFeeder×LS // g.1≤f.switches.l.length∧(g.2.1.switches.l=K6d f.switches.l g.1∧g.2.1.zones.l=f.zones.l∧g.2.1.reply=f.reply)∧FeederR g.2.1 g.2.2∧∀r∈R1,InR r g.2.2})) (⟨(0,f',R1),by dsimp only;omega,⟨hK.esw,hK.ezn,hK.erp⟩,hK1.feeder,Jc _⟩) ?_;rintro ⟨⟨k1,f1,S1⟩,hk1,⟨hfs,hfz,hfr⟩,hf1,hext⟩ junk;try dsimp only
 dsimp only [XSta.cells];dsimp only at hk1 hfs hfz hfr hf1 hext;apply (Xan);refine q_c ?_ ?_<;>intro hc5;·
  have hkp:=Zya (rp:=f.reply) hfe k1;have hfe1:feedE f1.switches.l f1.zones.l f1.reply=0:=by rw [hfs,hfz,hfr];exact hkp.feedE hfe ⟨yG _,by decide⟩
  have hl1:f1.switches.l.length=f.switches.l.length:=by rw [hfs];exact hkp.len
  have hto1:Vka f1.switches.l 0:=by rw [hfs];exact hkp.time ⟨⟨yG _,by decide⟩,fun x hx=>by rw [hal2 x hx];exact yG _⟩
  have hcan:Jvd f1.switches.l f1.zones.l f1.reply (k1:Int) 0=0:=by rw [Jvd,if_neg (by rw [hfe1];decide),if_neg za,if_pos hto1]
  apply Xbb∘qad;refine J5 (Jb (Jf ?_));apply qab∘Vif∘qaa;refine Jq rfl (K9b f1 (k1:Int) 0 _ _ hf1) rfl ?_;rintro v M U ⟨pp,qq,rp,rfl,⟨hppk,hqqk⟩,hop,rfl,rfl⟩;refine Jx zSb rfl ?_;apply Xbt∘qab;refine Kla tb rfl rfl rfl rfl zB zb zb zb ?_;refine J5 (Jd (Jb ?_));obtain ⟨hppl,hqql,rfl⟩:=hop hcan;refine Ks (T:=3) (f:=Ji) (wd:=1) qq [] zj yf ze hqqk yg ?_;refine V0 zy ?_;refine Ks (T:=76) (f:=XSwitch.cells) (wd:=5) pp [] zj yf ze hppk yg ?_;refine V0 zy ?_;apply qay∘Xae;exact q_k ⟨(k1 + 1,⟨pp.arr,qq.arr,f1.reply⟩,Jqd pp.arr :: isl qq.arr :: S1),by dsimp only;omega,⟨by show pp.l=_;rw [hppl,hfs];rfl,hqql.trans hfz,hfr⟩,⟨Ja (.head _),Ja (.tail _ (.head _))⟩,fun r hr=>(hext r hr).mono fun r hr=>Ja (.tail _ (.tail _ hr))⟩
 obtain rfl:k1=f.switches.l.length:=by omega
 apply qcf∘Xaz;refine Jk [(2,.pointer _),(4,.pointer _),(10,.pointer _),(66,.int _ _),(67,.int _ _)] zh fun tq2=>?_;refine q_p (rg 67 9) ((⟨fun g=>[(67,.int .i64 ((g.1.1:Nat):Int))],fun g=>⟨b10,(⟨s',0,h',0,g.1.2.arr,pw.arr,pc.arr,f1,noRest,pl.arr⟩:XSta).cells,54⟩ :: (pl.L 150 XEntry.cells ++ (pc.L 71 XCut.cells ++ (pw.L 153 XWatch.cells ++ (g.1.2.L 93 XMeas.cells ++ (⟨b4,staZ.cells,54⟩ :: ⟨b3,f.cells,42⟩ :: ⟨b2,s.cells,38⟩ :: L))))),fun _=>S1,fun g=>s.sensors.l.length - g.1.1⟩:Head {g:Nat×OwL XMeas // g.1≤s.sensors.l.length∧g.2.ok 4 XMeas.cells∧g.2.l=List.replicate g.1 Z6})) (⟨(0,pm),by dsimp only;omega,hK.km,hpm0⟩) ?_;rintro ⟨⟨k2,pm2⟩,hk2,hm2k,hm2⟩ junk;try dsimp only
 dsimp only [XSta.cells];dsimp only at hk2 hm2k hm2;have hm2n:pm2.l.length=k2:=by rw [hm2,yla]
 apply (Xan);refine q_c ?_ ?_<;>intro hc6;·refine J1 (Jb (Jl (Kb (Jf ?_))));apply (Xaa);refine Jx ztc rfl ?_;refine Yl zpb rfl ?_;rintro v M U ⟨b72,rfl,rfl,hR72⟩;replace hR72:=hR72.symm;subst hR72;refine Yl (Jr (f:=XMeas.cells) (p:=pm2) (a:=Z6) tb rfl rfl rfl rfl (hm2k) zj zob rfl zA) rfl ?_;rintro v M U ⟨o73,rfl,hok73,rfl,rfl⟩;apply Xa9∘Xbj;exact q_k ⟨(k2 + 1,⟨o73,pm2.l ++ [Z6]⟩),by dsimp only;omega,hok73,by dsimp only;rw [hm2,yMb]⟩
 obtain rfl:k2=s.sensors.l.length:=by omega
 apply qcf∘Xaz;refine Jk [(2,.pointer _),(4,.pointer _),(10,.pointer _),(78,.int _ _),(79,.int _ _)] zh fun tq3=>?_;refine q_p (rg 79 9) ((⟨fun g=>[(79,.int .i64 ((g.1.1:Nat):Int))],fun g=>⟨b10,(⟨s',0,h',0,pm2.arr,g.1.2.arr,pc.arr,f1,noRest,pl.arr⟩:XSta).cells,54⟩ :: (pl.L 150 XEntry.cells ++ (pc.L 71 XCut.cells ++ (g.1.2.L 153 XWatch.cells ++ (pm2.L 93 XMeas.cells ++ (⟨b4,staZ.cells,54⟩ :: ⟨b3,f.cells,42⟩ :: ⟨b2,s.cells,38⟩ :: L))))),fun _=>S1,fun g=>s.conds.l.length - g.1.1⟩:Head {g:Nat×OwL XWatch // g.1≤s.conds.l.length∧g.2.ok 3 XWatch.cells∧g.2.l=List.replicate g.1 (⟨true,-1,0⟩:XWatch)})) (⟨(0,pw),by dsimp only;omega,hK.kw,hpw0⟩) ?_;rintro ⟨⟨k3,pw2⟩,hk3,hw2k,hw2⟩ junk;try dsimp only
 dsimp only [XSta.cells];dsimp only at hk3 hw2k hw2;have hw2n:pw2.l.length=k3:=by rw [hw2,yla]
 apply (Xan);refine q_c ?_ ?_<;>intro hc7;·refine J1 (Jb (Jl (Kb ?_)));refine J6 tb [] [0,1,2,3] [4,5,6] (_) _ Kr zc zi yd ?_;apply (Xaf);refine Kp rfl (Zrd _ _) rfl rfl ?_;rintro v M U ⟨rfl,rfl,rfl⟩;refine ⟨zi,zq,?_⟩;refine J1b zrb rfl rfl rfl ?_;rintro v M U ⟨b84,rfl,rfl,hR84⟩;replace hR84:=hR84.symm;subst hR84;apply (Xbs);refine Yqa (Jr (f:=XWatch.cells) (p:=pw2) (a:=⟨true,-1,0⟩) tb rfl rfl rfl rfl (hw2k) zj zob rfl zA) rfl rfl rfl ?_;rintro v M U ⟨o85,rfl,hok85,rfl,rfl⟩;apply Xcu∘Xae;exact q_k ⟨(k3 + 1,⟨o85,pw2.l ++ [⟨true,-1,0⟩]⟩),by dsimp only;omega,hok85,by dsimp only;rw [hw2,yMb]⟩
 obtain rfl:k3=s.conds.l.length:=by omega
 apply qcf∘Xaz;refine Jk [(4,.pointer _),(10,.pointer _),(90,.int _ _),(91,.int _ _)] zh fun tq4=>?_;refine q_p (rg 91 9) ((⟨fun g=>[(91,.int .i64 ((g.1.1:Nat):Int))],fun g=>⟨b10,(⟨s',0,h',0,pm2.arr,pw2.arr,g.1.2.arr,f1,noRest,pl.arr⟩:XSta).cells,54⟩ :: (pl.L 150 XEntry.cells ++ (g.1.2.L 71 XCut.cells ++ (pw2.L 153 XWatch.cells ++ (pm2.L 93 XMeas.cells ++ (⟨b4,staZ.cells,54⟩ :: ⟨b3,f.cells,42⟩ :: ⟨b2,s.cells,38⟩ :: L))))),fun _=>S1,fun g=>s.zones.l.length - g.1.1⟩:Head {g:Nat×OwL XCut // g.1≤s.zones.l.length∧g.2.ok 3 XCut.cells∧g.2.l=List.replicate g.1 (⟨true,-1,0⟩:XCut)})) (⟨(0,pc),by dsimp only;omega,hK.kc,hpc0⟩) ?_;rintro ⟨⟨k4,pc2⟩,hk4,hc2k,hc2⟩ junk;try dsimp only
 dsimp only [XSta.cells];dsimp only at hk4 hc2k hc2;have hc2n:pc2.l.length=k4:=by rw [hc2,yla]
 apply (Xan);refine q_c ?_ ?_<;>intro hc8;·refine J1 (Jb (Jl (Kb (Jf ?_))));apply (Xaa);refine Jx zbc rfl ?_;refine Yl zrb rfl ?_;rintro v M U ⟨b96,rfl,rfl,hR96⟩;replace hR96:=hR96.symm;subst hR96;refine Yl (Jr (f:=XCut.cells) (p:=pc2) (a:=⟨true,-1,0⟩) tb rfl rfl rfl rfl (hc2k) zj zob rfl zA) rfl ?_;rintro v M U ⟨o97,rfl,hok97,rfl,rfl⟩;apply Xa9∘Xbj;exact q_k ⟨(k4 + 1,⟨o97,pc2.l ++ [⟨true,-1,0⟩]⟩),by dsimp only;omega,hok97,by dsimp only;rw [hc2,yMb]⟩
 obtain rfl:k4=s.zones.l.length:=by omega
 refine Ks (T:=93) (f:=XMeas.cells) (wd:=4) pm2 [] zj yf ze hm2k yg ?_;refine V0 zy ?_;refine Ks (T:=153) (f:=XWatch.cells) (wd:=3) pw2 [] zj yf ze hw2k yg ?_;refine V0 zy ?_;refine Ks (T:=71) (f:=XCut.cells) (wd:=3) pc2 [] zj yf ze hc2k yg ?_;refine V0 zy ?_;refine Ks (T:=150) (f:=XEntry.cells) (wd:=4) pl [] zj yf ze hK.kl yg ?_;refine V0 zy ?_;obtain ⟨R2,hR2e⟩:∃R2,R2=Umb pl.arr :: Y5c pc2.arr :: Vfd pw2.arr :: Vsa pm2.arr :: S1:=⟨_,rfl⟩;refine Zfb (show _=R2 by rw [hR2e]) ?_;have h12:∀r∈S1,InR r (R2 ++ R):=fun r hr=>Ja (by rw [hR2e];exact .tail _ (.tail _ (.tail _ (.tail _ (yq _ hr)))));have h02:∀r∈R1,InR r (R2 ++ R):=fun r hr=>(hext r hr).mono h12;have hRR2:∀r∈R,InR r R2:=fun r hr=>((hRR1 r hr).mono hext).mono fun r hr=>Ja (by rw [hR2e];exact .tail _ (.tail _ (.tail _ (.tail _ hr))));have e1:InR (Umb pl.arr) (R2 ++ R):=Ja zsa;have e2:InR (Y5c pc2.arr) (R2 ++ R):=Ja zma;have e3:InR (Vfd pw2.arr) (R2 ++ R):=Ja zCa;have e4:InR (Vsa pm2.arr) (R2 ++ R):=Ja (by rw [hR2e];exact .tail _ (.tail _ (.tail _ (.head _))));apply (qbk);refine Jx znb rfl ?_;apply (Xcf);refine K0 (M:=L) (U:=R2 ++ R) zUc ?hp ?hL ?hR;case hp=>exact ⟨(⟨s',0,h',0,pm2.arr,pw2.arr,pc2.arr,f1,noRest,pl.arr⟩:XSta),R2,by rw [he],⟨hK1.site.mono h02,hK1.held.mono h02,e4,e3,e2,hf1.mono h12,e1⟩,fun _=>⟨hK.es,rfl,hK.eh,rfl,hm2,hw2,hc2,hfs,hfz,hfr,rfl,hpl0⟩,fun h=>absurd he h,rfl,rfl⟩
 case hL=>exact zi
 case hR=>
  exact fun r hr=>by
   rcases List.mem_append.1 hr with h | h;·exact Ja h
   ·exact hRR2 r h
end
section
section
variable {g:PSite} {p:PSta}
structure KeepP (p q:PSta):Prop where
 meas:q.meas=p.meas
 held:q.held=p.held
 dropped:q.dropped=p.dropped
def KeepP.refl (p:PSta):KeepP p p:=⟨rfl,rfl,rfl⟩
def KeepP.trans {p q r:PSta} (h:KeepP p q) (k:KeepP q r):KeepP p r:=⟨k.meas.trans h.meas,k.held.trans h.held,k.dropped.trans h.dropped⟩
def Vac (z:Int):KeepP p (Ydc g p z):=by rw [Ydc];split <;> exact ⟨rfl,rfl,rfl⟩
def Vec : ∀ (l : List Int) {p : PSta}, KeepP p (Zpa g p l)
 | [],p=>.refl p
 | z :: l,p=>(Vac z).trans (Vec l)
def Kgb (kind : Int) : ∀ (l : List Int) {p : PSta}, KeepP p (Zp kind p l)
 | [],p=>.refl p
 | z :: l,p=>KeepP.trans (q:=Jua p kind z 0) ⟨rfl,rfl,rfl⟩ (Kgb kind l)
def Zmc (vals:List Int) (z:Nat):KeepP p (V7a g vals p z):=by
 rw [V7a];split;·exact .refl p
 ·exact KeepP.trans (q:={ p with cuts:=p.cuts.set z ⟨true,(p.cuts.getD z default).clear,Uwa (g.site.zones.l.getD z default).rule.l vals⟩ }) ⟨rfl,rfl,rfl⟩ (Vac _)
def V6b (vals : List Int) : ∀ k, KeepP p (darkTo g vals p k)
 | 0=>.refl p
 | k + 1=>(V6b vals k).trans (Zmc vals k)
def Vja (t:Int):KeepP p (Ka g p t):=by rw [Ka];refine KeepP.trans ?_ (V6b _ _);rw [settleB];refine KeepP.trans ?_ (Kgb _ _);refine KeepP.trans ?_ (Kgb _ _);refine KeepP.trans (q:=settleA g { p with time:=t }) ?_ ⟨rfl,rfl,rfl⟩;rw [settleA];exact KeepP.trans (q:={ p with time:=t,watches:=_,cuts:=_ }) ⟨rfl,rfl,rfl⟩ (Vec _)
def Y3a (p:PSta):Prop:=∀c∈p.cuts,c.off=true
def Vjc : ∀ (l : List Int) {p : PSta}, (Zpa g p l).cuts = p.cuts
 | [],p=>rfl
 | z :: l,p=>(Vjc l).trans (Uxb z)
def Khb (kind : Int) : ∀ (l : List Int) {p : PSta}, (Zp kind p l).cuts = p.cuts
 | [],p=>rfl
 | z :: l,p=>Khb kind l
def Yce {v t:Int} {c:XCut} (h:c.off=true):(K3e v c t).off=true:=by
 rw [K3e];repeat' split
 all_goals first | exact h | rfl
def U5d {l:List XCut} (h:∀c∈l,c.off=true) {i:Nat} (hi:i < l.length):(l.getD i default).off=true:=h _ (yi (Ju (l:=l) (k:=i) default hi))
def J3d (h:Y3a p):Y3a (settleA g p):=by
 intro c hc;rw [settleA,Vjc] at hc;dsimp only at hc;rw [cutsC] at hc;split at hc;·cases hc
 ·rw [List.mem_map] at hc;obtain ⟨i,hi,rfl⟩:=hc;rw [ysa] at hi;rw [cutAt];exact Yce (U5d h hi)
def Yuc:(settleB g p).cuts=p.cuts:=by rw [settleB,Khb,Khb]
def Kkc (vals : List Int) (h : Y3a p) : ∀ k, k ≤ p.cuts.length → darkTo g vals p k = p
 | 0,_=>rfl
 | k + 1,hk=>by
  rw [darkTo,Kkc vals h k za,V7a,if_pos (.inl (U5d h za))]
def Kmb (h:Y3a p) (t:Int):Y3a (Ka g p t):=by
 have h1:Y3a (settleB g (settleA g { p with time:=t })):=by intro c hc;rw [Yuc] at hc;exact J3d (p:={ p with time:=t }) h c hc
 rw [Ka];rw [Kkc _ h1 _ (yn _)];exact h1
def Zoc (hb:BytesOk p.held) {a b:List Int} (ha:BytesOk a) {t:Int} (hl:¬ Jxa p t):
 (Y2 g p (a ++ b) t).1.meas=(Y2 g (Y2 g p a t).1 b t).1.meas∧(Y2 g p (a ++ b) t).1.dropped=(Y2 g (Y2 g p a t).1 b t).1.dropped:=by
 have k0:=Vja (g:=g) (p:=feedR g p a t) t;have hl2:¬ Jxa (Y2 g p a t).1 t:=by rw [Y2,if_neg hl,Jxa,Ysb];rw [Jxa] at hl;omega
 have k1:=Vja (g:=g) (p:=feedR g p (a ++ b) t) t;have k2:=Vja (g:=g) (p:=feedR g (Y2 g p a t).1 b t) t;have e:Y2 g p (a ++ b) t=(Ka g (feedR g p (a ++ b) t) t,0):=by rw [Y2,if_neg hl]
 have e2:Y2 g (Y2 g p a t).1 b t=(Ka g (feedR g (Y2 g p a t).1 b t) t,0):=by rw [Y2,if_neg hl2]
 have e3:(Y2 g p a t).1=Ka g (feedR g p a t) t:=by rw [Y2,if_neg hl]
 have hf:=Kle _ (l:=p.held ++ a) b p.dropped rfl (fun x hx=>by
  rcases List.mem_append.1 hx with hx | hx;·exact hb x hx
  ·exact ha x hx)
 rw [e,e2];refine ⟨k1.meas.trans (Eq.trans ?_ k2.meas.symm),k1.dropped.trans (Eq.trans ?_ k2.dropped.symm)⟩;·rw [feedR, feedR, e3];dsimp only;rw [k0.meas,k0.held,k0.dropped,← yo,hf,yBa];rfl
 ·rw [feedR, feedR, e3];dsimp only;rw [k0.held,k0.dropped,← yo,hf];rfl
end
end
section
section
variable {a:XAir} {s:XSetting} {x:XState} (h:MadeA a s x)
include h
end
section
variable {a:XAir} {s:XSetting} {x:XState} (h:MadeA a s x)
include h
end
end
section
attribute [local irreducible] CJ LJ DJ Tri YV Gives Uo J0 Kj Un RV J2 OwL.L
end
section
section
variable (b b':Nat)
end
end
section
attribute [local irreducible] CJ LJ DJ Tri YV Gives Uo J0 Kj Un RV J2 OwL.L
section
variable (b b':Nat)
end
end
section
attribute [local irreducible] CJ LJ DJ Tri YV Gives Uo J0 Kj Un RV J2 OwL.L
section
variable {s:XSite} {len dl ho:Int} (h:EasyD s len dl ho)
include h
def Ywe:Kv s.air=0:=by
 obtain ⟨h1,h2,h3,h4,h5,h6,h7,_,h8,⟨h9,h9'⟩,_⟩:=h;obtain ⟨⟨⟨⟨pa,pc,pl⟩,⟨ra,rc,rl⟩⟩,⟨fa,fc,fl⟩,⟨da,dc,dl⟩⟩,se,cn,zs,ps⟩:=s;dsimp only at h1 h2 h3 h4;subst h1 h2 h3 h4;have:len=1∨len=2∨len=3∨len=4:=by omega
 rcases this with rfl | rfl | rfl | rfl <;> rfl
def Kfd:SiteOk s:=by
 have ha:=Ywe h;obtain ⟨h1,h2,h3,h4,h5,h6,⟨z,h7,z1,z2,z3,z4⟩,_,h8,hr⟩:=h;refine ⟨ha,by rw [h5,h6,h7,h8];simp,fun i hi=>?_,fun c hc=>?_,fun y hy=>?_,fun p hp=>?_⟩;·
  rw [h5] at hi ⊢;obtain rfl:i=0:=by simp only [yv,yL] at hi;omega
  rw [Z2,if_neg ze,if_neg,if_neg (by rintro ⟨k,hk,_⟩;omega)];rw [Kna,h2];show ¬ ¬ ((0:Int)≤0∧(0:Int) < 1);decide
 ·
  rw [h6] at hc;rw [List.mem_singleton.1 hc,Ko,if_neg,if_neg (by show ¬ ((0:Int) < 0∨(1099511627776:Int) < 0);decide),if_pos zb,Zx,if_pos];·show (100 : Int) ≤ 1000000 ∧ (0 : Int) ≤ 60 ∧ (60 : Int) < 100 ∧ 0 ≤ dl ∧ dl ≤ 100000;omega
  ·rw [h5, h2];show ¬ (0:Int)≠0;decide
 ·
  rw [h7] at hy;rw [List.mem_singleton.1 hy,V6,z1,h6,h2,if_neg (by show ¬ Za _ 1≠0;decide),if_neg za,if_neg];rintro ⟨i,hi,hb⟩;rw [z3] at hi hb;obtain rfl:i=0:=by simp only [yv,yL] at hi;omega
  revert hb;show ¬ Vv 1 [0] 0;decide
 ·rw [h8] at hp;simp only [yU,yR,or_false] at hp;omega
end
end
section
section
variable {s:XSite} {len dl ho:Int} (h:EasyD s len dl ho)
include h
def Jzd {t:Int} (ht:0≤t∧t≤2147483648):sharedE s 1 1 t=0:=by obtain ⟨z,h7,_⟩:=h.zone;rw [sharedE,(Kfd h).err,if_neg ze,if_neg (by rw [h7,h.roads];simp),if_neg za]
def Yie {c:List XCut} {fl:List XSpan} {t:Int} (hc:c.length=1) (hf:fl.length=1) (ht:0≤t∧t≤2147483648):askE s c fl noRest 0 0 t=readyE s c fl 0 t:=by rw [askE,hc,hf,Jzd h ht,if_neg ze,if_neg ze,if_neg];rw [h.pers];decide
end
def openS (n:Nat):List XSwitch:=(List.range n).map fun (i:Nat)=>⟨(i:Int) - 1,0,-1,false,false⟩
end
end Go.Proofs.YtchfclmokpbldaaGreat
