/-
  Merged texts. By an AI agent.
-/
import Derived.Test.YtchfclmokpbldaaGreatStaG
import Derived.Test.YtchfclmokpbldaaGreatStatM
import Derived.Test.YtchfclmokpbldaaGreatSiteS
import Derived.Test.YtchfclmokpbldaaGreatCircS
import Derived.Test.YtchfclmokpbldaaGreatEasy
import Derived.Test.YtchfclmokpbldaaGreatCutC
import Derived.Test.YtchfclmokpbldaaGreatFeedD
import Derived.Test.YtchfclmokpbldaaGreatSiteD
import Derived.Test.YtchfclmokpbldaaGreatFeedT
set_option linter.all false
set_option maxHeartbeats 4000000
set_option maxRecDepth 20000
namespace Go.Proofs.YtchfclmokpbldaaGreat
open Go.Aw Go
section
section
variable {A B:Prop}
def Kkf(h:A→B:=by exact Jw (J8 (qs:=[]) (out:=[_,_,_,_,_,_,_,_,_,_,_,_,_,_,_,_,_,_,_,_,_,_,_]) tb rfl rfl rfl rfl) rfl):=h
def Jtf(h:B:=by exact ⟨staZ,Jzd,by rw [he];rfl,Kxf R,fun h=>by omega,fun _=>rfl,rfl,rfl⟩):=h
def K7g(h:A→B:=by exact Jw zrb rfl):=h
end
def Zu {α:Type} {P:Program} {n:Nat} {code:Code} {t:Nat→Value} {L:LB} {R:LS} {Q:Kw} {f:α→List Value} {wd:Nat} (hf:∀x,(f x).length=wd) (hwd:0 < wd) (h:CJ P n code t L ((⟨none,0,[]⟩:Arr α).sl wd f [] :: R) Q):CJ P n code t L R Q:=
 Yee (T:=3) (p:=(OwL.nil:OwL α)) (f:=f) [] OwL.nil_ok hf hwd yg h
def Jzd:LS:=[psl ⟨none,0,[]⟩,rsl ⟨none,0,[]⟩,fsl ⟨none,0,[]⟩,dsl ⟨none,0,[]⟩,Jbe ⟨none,0,[]⟩,Y7f ⟨none,0,[]⟩,Jif ⟨none,0,[]⟩,isl ⟨none,0,[]⟩,bsl ⟨none,0,[]⟩,Yu ⟨none,0,[]⟩,Ztd ⟨none,0,[]⟩,Vuc ⟨none,0,[]⟩,Zeb ⟨none,0,[]⟩,J5a ⟨none,0,[]⟩]
def Uvf {P:Program} {n:Nat} {code:Code} {t:Nat→Value} {L:LB} {R:LS} {Q:Kw} (h:CJ P n code t L (Jzd ++ R) Q):CJ P n code t L R Q:=by refine Zu (f:=XEntry.cells) (wd:=4) yf ze ?_;refine Zu (f:=XSwitch.cells) (wd:=5) yf ze ?_;refine Zu (f:=XCut.cells) (wd:=3) yf ze ?_;refine Zu (f:=XWatch.cells) (wd:=3) yf ze ?_;refine Zu (f:=XMeas.cells) (wd:=4) yf ze ?_;refine Zu (f:=Z9) (wd:=1) yf ze ?_;refine Zu (f:=Jj) (wd:=1) yf ze ?_;refine Zu (f:=XZone.cells) (wd:=4) yf ze ?_;refine Zu (f:=XCond.cells) (wd:=6) yf ze ?_;refine Zu (f:=XSens.cells) (wd:=8) yf ze ?_;refine Zu (f:=XDoor.cells) (wd:=3) yf ze ?_;refine Zu (f:=XFan.cells) (wd:=4) yf ze ?_;refine Zu (f:=XRoad.cells) (wd:=10) yf ze ?_;refine Zu (f:=XPlace.cells) (wd:=2) yf ze ?_;exact h
def Kxf (R:LS):StaR staZ (Jzd ++ R):=by have m:∀s∈Jzd,InR s (Jzd ++ R):=fun s hs=>Ja (yp _ hs);refine ⟨⟨⟨m _ ?_,m _ ?_,m _ ?_,m _ ?_⟩,m _ ?_,m _ ?_,m _ ?_,m _ ?_⟩,m _ ?_,m _ ?_,m _ ?_,m _ ?_,⟨m _ ?_,m _ ?_⟩,m _ ?_⟩;all_goals simp [Jzd,staZ]
def Ydd (sw : List XSwitch) : Nat → List XSwitch
 | 0=>sw
 | k + 1=>Ye (Ydd sw k) (k:Int) 0
def Ynf (sw:List XSwitch):List XSwitch:=Ydd sw sw.length
def Yka (s:XSite) (f:XFeeder):Int:=
 if Uf s≠0 then Uf s else if feedE f.switches.l f.zones.l f.reply≠0 then feedE f.switches.l f.zones.l f.reply
 else if f.zones.l.length≠s.zones.l.length then 17 else if∃x∈f.switches.l,x.since≠0 then 8 else 0
def gOf (s:XSite) (f:XFeeder) (A:List Bool):PSite:=⟨s,f.zones.l,f.reply,A⟩
def Klc:XMeas:=⟨-1,0,⟨0,0⟩⟩
def Kff (s:XSite) (f:XFeeder):PSta:=⟨0,[],0,List.replicate s.sensors.l.length Klc,List.replicate s.conds.l.length ⟨true,-1,0⟩,List.replicate s.zones.l.length ⟨true,-1,0⟩,Ynf f.switches.l,noRest,[]⟩
def Jqb {sw : List XSwitch} {zn : List Int} {rp : Int} (h : feedE sw zn rp = 0) : ∀ k, SwKeep sw (Ydd sw k) 0
 | 0=>.refl h 0
 | k + 1=>(Jqb h k).openS _
def Yuf {s:XSite} {f:XFeeder} (h:Yka s f=0):Uf s=0∧feedE f.switches.l f.zones.l f.reply=0∧f.zones.l.length=s.zones.l.length∧∀x∈f.switches.l,x.since=0:=by
 rw [Yka] at h;split at h;·omega
 split at h;·omega
 split at h;·cases h
 split at h;·cases h
 rename_i h1 h2 h3 h4;exact ⟨Decidable.not_not.1 h1,Decidable.not_not.1 h2,Decidable.not_not.1 h3,fun x hx=>by
  rcases yga (x.since=0) with h5 | h5;·exact h5
  ·exact absurd ⟨x,hx,h5⟩ h4⟩
def Yhd {s:XSite} {f:XFeeder} {A:List Bool} (h:Yka s f=0) (hA:AiryIs s.air.mine A):Inv (gOf s f A) (Kff s f):=by
 obtain ⟨h1,h2,h3,h4⟩:=Yuf h;have hk:=Jqb (rp:=f.reply) h2 f.switches.l.length;refine ⟨h1,hA,⟨yz _,by show (0:Int)≤2147483648;decide⟩,yta,fun x hx=>?_,yta,fun w hw=>?_,yta,hk.feedE h2 ⟨yz _,by decide⟩,?_,h3,⟨by show (0:Int)≤0;decide,.inl rfl⟩,yS _,⟨fun x hx=>(by cases hx),yS _⟩⟩;·rw [ycb hx,K5a,Klc];dsimp only;omega
 ·rw [ycb hw];exact ⟨⟨by decide,by decide,by decide,.inl rfl⟩,yz _⟩
 ·exact (hk.time ⟨⟨yz _,by decide⟩,fun x hx=>by rw [h4 x hx];exact yz _⟩).2
attribute [local irreducible] CJ LJ DJ Tri YV Gives Uq J2 Kj Ut RV J3 OwL.L
def Z5e (s:XSite) (f:XFeeder) (A:List Bool) (L:LB) (R:LS):Ys:=fun v U J=>∃(y:XSta) (S:LS),v=.tuple #[y.val,.int .i64 (Yka s f)]∧StaR y J∧(Yka s f=0→StaIs (gOf s f A) (Kff s f) y)∧(Yka s f≠0→y=staZ)∧L=U∧S ++ R=J
def U7d (s:XSite) (f:XFeeder) (A:List Bool) (L:LB) (R:LS) (hs:SiteR s R) (hf:FeederR f R) (hA:AiryIs s.air.mine A):
 Tri Tryz.prog 16 [s.val,f.val].toArray L R (Z5e s f A L R):=by
 have hswR:=hf.sw.mono fun r hr=>Ja (yj Jzd hr);refine Je 101 Tryz.call16 Tryz.func16 rfl rfl rfl ?_;apply (Xaf);intro b2;apply (qax);intro b3;apply (qaq);intro b4;apply qad∘qco;refine Uvf ?_;have hR0:∀r∈R,InR r (Jzd ++ R):=fun r hr=>Ja (yj _ hr);have hs0:=hs.mono hR0;have hf0:=hf.mono hR0;apply (qay);refine Jw zvb rfl ?_;refine q_l rfl (Kia s _ _ hs0) ?_;apply (Xbb);refine q_c ?_ ?_<;>intro hc0;·
  apply qae∘Kkf∘Xcg;refine q_r L (Jzd ++ R) zcd ?_;have he:Yka s f=Uf s:=by rw [Yka,if_pos hc0]
  exact Jtf
 apply qbo∘K7g;refine q_l rfl (Yh f _ _ hf0) ?_;apply (Xbb);refine q_c ?_ ?_<;>intro hc1;·
  apply qae∘Kkf∘Xcg;refine q_r L (Jzd ++ R) zcd ?_;have he:Yka s f=feedE f.switches.l f.zones.l f.reply:=by rw [Yka,if_neg hc0,if_pos hc1]
  exact Jtf
 apply qbo∘Xab∘Xab∘Xat;refine q_c ?_ ?_<;>intro hc2;·
  apply qae∘Kkf∘Xa3;refine q_r L (Jzd ++ R) zcd ?_;have he:Yka s f=17:=by rw [Yka,if_neg hc0,if_neg hc1,if_pos za]
  exact Jtf
 have hse:Uf s=0:=Decidable.not_not.1 hc0;have hfe:feedE f.switches.l f.zones.l f.reply=0:=Decidable.not_not.1 hc1;have hfo:=Yn hfe;have hsn:=hfo.sn;have hzl:=hfo.zl;have hso:=(Z5 hse).len;apply (Xc2);refine Jm [(2,.pointer _),(3,.pointer _),(4,.pointer _),(33,.slice _ _ _),(34,.int _ _),(35,.int _ _)] zh fun tq0=>?_;refine q_s ([5,9]++rg 35 9) (fun g:{k:Nat // k≤f.switches.l.length∧∀j:Nat,j < k→(f.switches.l.getD j default).since=0}=>[(35,.int .i64 ((g.1:Nat):Int))]) (fun g=>f.switches.l.length - g.1) (⟨0,by omega,fun j hj=>by omega⟩) ?_;rintro ⟨k,hk,hal⟩ junk;try dsimp only
 apply (Xaj);refine q_c ?_ ?_<;>intro hc3;·
  have hg:=Jp (l:=f.switches.l) (k:=k) default za;apply (qbb);refine Jw zD rfl ?_;apply qdw∘qaq;intro b9;apply Xb9∘Xat;refine q_c ?_ ?_<;>intro hc4;·apply qae∘Kkf∘qak∘qad∘qbt;refine q_r L (Jzd ++ R) zcd ?_;(have he:Yka s f=8:=by rw [Yka,if_neg hc0,if_neg hc1,if_neg za,if_pos ⟨_,yh hg,hc4⟩]);exact Jtf
  apply (Xaw);exact uaV
 have hal2:∀x∈f.switches.l,x.since=0:=fun x hx=>by obtain ⟨j,hj,rfl⟩:=yza hx;have:=hal j za;rwa [yi,yB hj] at this
 have he:Yka s f=0:=by rw [Yka,if_neg hc0,if_neg hc1,if_neg za,if_neg (fun ⟨x,hx,h⟩=>h (hal2 x hx))]
 have hn:∀q∈Jzd,InR q (Jzd ++ R):=fun q hq=>Ja (yp _ hq);have hN:StaN (⟨s,0,⟨none,0,[]⟩,0,⟨none,0,[]⟩,⟨none,0,[]⟩,⟨none,0,[]⟩,f,noRest,⟨none,0,[]⟩⟩:XSta):=⟨hse,yS _,yS _,yS _,yS _,(by show f.switches.l.length≤1000;omega),(by show f.zones.l.length≤1000;omega),yS _⟩;have hZ:=Kxf R;have hXR:StaR (⟨s,0,⟨none,0,[]⟩,0,⟨none,0,[]⟩,⟨none,0,[]⟩,⟨none,0,[]⟩,f,noRest,⟨none,0,[]⟩⟩:XSta) (Jzd ++ R):=⟨hs0,hZ.held,hZ.meas,hZ.watches,hZ.cuts,hf0,hZ.log⟩;apply (qc3);refine Ke tb [0,1,2,3,4,5,6] _ Ko zc ye ?_;refine Ks zvb rfl rfl rfl ?_;refine Ks zrb rfl rfl rfl ?_;refine q_d rfl (Uqc _ _) ?_;refine Ks (J8 (qs:=[(0,(Value.agg _).cells.toList),(6,(Value.agg _).cells.toList),(7,(Value.agg _).cells.toList)]) (out:=[_,_,_,_,_,_,_,_,_,_,_,_,_,_,_,_,_,_,_,_,_,_,_]) tb rfl rfl rfl rfl) rfl rfl rfl ?_;refine Vo rfl (K2b (⟨s,0,⟨none,0,[]⟩,0,⟨none,0,[]⟩,⟨none,0,[]⟩,⟨none,0,[]⟩,f,noRest,⟨none,0,[]⟩⟩:XSta) _ _ hN hXR) rfl rfl ?_;rintro v U J ⟨s',h',f',pm,pw,pc,pl,S0,rfl,hK,rfl,rfl⟩;refine ⟨zi,zt,?_⟩;apply (qbr);intro b10;apply (qbg);refine J1 (Jb (Jq (Jq ?_)));obtain ⟨R1,hR1e⟩:∃R1,R1=S0 ++ (Jzd ++ R):=⟨_,rfl⟩;refine Jic zwc ?_;have hK1:StaKO (⟨s,0,⟨none,0,[]⟩,0,⟨none,0,[]⟩,⟨none,0,[]⟩,⟨none,0,[]⟩,f,noRest,⟨none,0,[]⟩⟩:XSta) s' h' f' pm pw pc pl R1:=by rw [hR1e];exact hK
 have hRR1:∀r∈R,InR r R1:=fun r hr=>Ja (by rw [hR1e];exact yj _ (yj _ hr));have hpm0:pm.l=[]:=hK.em;have hpw0:pw.l=[]:=hK.ew;have hpc0:pc.l=[]:=hK.ec;have hpl0:pl.l=[]:=hK.el;have hswn:f'.switches.l=f.switches.l:=hK.esw;apply qay∘Xay;refine Jm [(2,.pointer _),(4,.pointer _),(10,.pointer _),(51,.int _ _),(52,.int _ _)] zh fun tq1=>?_;refine q_p ([11]++rg 52 12) ((⟨fun g=>[(52,.int .i64 ((g.1.1:Nat):Int))],fun g=>⟨b10,(⟨s',0,h',0,pm.arr,pw.arr,pc.arr,g.1.2.1,noRest,pl.arr⟩:XSta).cells,54⟩ :: (pl.L 150 XEntry.cells ++ (pc.L 71 XCut.cells ++ (pw.L 153 XWatch.cells ++ (pm.L 93 XMeas.cells ++ (⟨b4,staZ.cells,54⟩ :: ⟨b3,f.cells,42⟩ :: ⟨b2,s.cells,38⟩ :: L))))),fun g=>g.1.2.2,fun g=>f.switches.l.length - g.1.1⟩:Head {g:Nat×XFeeder×LS // g.1≤f.switches.l.length∧(g.2.1.switches.l=Ydd f.switches.l g.1∧g.2.1.zones.l=f.zones.l∧g.2.1.reply=f.reply)∧FeederR g.2.1 g.2.2∧∀r∈R1,InR r g.2.2})) (⟨(0,f',R1),by dsimp only;omega,⟨hK.esw,hK.ezn,hK.erp⟩,hK1.feeder,Jc _⟩) ?_;rintro ⟨⟨k1,f1,S1⟩,hk1,⟨hfs,hfz,hfr⟩,hf1,hext⟩ junk;try dsimp only
 dsimp only [XSta.cells];dsimp only at hk1 hfs hfz hfr hf1 hext;apply (Xaj);refine q_c ?_ ?_<;>intro hc5;·
  have hkp:=Jqb (rp:=f.reply) hfe k1;have hfe1:feedE f1.switches.l f1.zones.l f1.reply=0:=by rw [hfs,hfz,hfr];exact hkp.feedE hfe ⟨yz _,by decide⟩
  have hl1:f1.switches.l.length=f.switches.l.length:=by rw [hfs];exact hkp.len
  have hto1:Yba f1.switches.l 0:=by rw [hfs];exact hkp.time ⟨⟨yz _,by decide⟩,fun x hx=>by rw [hal2 x hx];exact yz _⟩
  have hcan:Urc f1.switches.l f1.zones.l f1.reply (k1:Int) 0=0:=by rw [Urc,if_neg (by rw [hfe1];decide),if_neg za,if_pos hto1]
  apply Xa1∘qad;refine J9 (Jb (Jg ?_));apply qab∘K7g∘qaa;refine Jv rfl (U4b f1 (k1:Int) 0 _ _ hf1) rfl ?_;rintro v U J ⟨pp,qq,rp,rfl,⟨hppk,hqqk⟩,hop,rfl,rfl⟩;refine Jw zRb rfl ?_;apply Xba∘qab;refine Kua tb rfl rfl rfl rfl zC zb zb zb ?_;refine J9 (Jh (Jb ?_));obtain ⟨hppl,hqql,rfl⟩:=hop hcan;refine Kp (T:=3) (f:=Jj) (wd:=1) qq [] zj yf ze hqqk yg ?_;refine U2 zq ?_;refine Kp (T:=76) (f:=XSwitch.cells) (wd:=5) pp [] zj yf ze hppk yg ?_;refine U2 zq ?_;apply qay∘Xad;exact q_k ⟨(k1 + 1,⟨pp.arr,qq.arr,f1.reply⟩,Zeb pp.arr :: isl qq.arr :: S1),by dsimp only;omega,⟨by show pp.l=_;rw [hppl,hfs];rfl,hqql.trans hfz,hfr⟩,⟨Ja (.head _),Ja (.tail _ (.head _))⟩,fun r hr=>(hext r hr).mono fun r hr=>Ja (.tail _ (.tail _ hr))⟩
 obtain rfl:k1=f.switches.l.length:=by omega
 apply qcf∘Xay;refine Jm [(2,.pointer _),(4,.pointer _),(10,.pointer _),(66,.int _ _),(67,.int _ _)] zh fun tq2=>?_;refine q_p (rg 67 9) ((⟨fun g=>[(67,.int .i64 ((g.1.1:Nat):Int))],fun g=>⟨b10,(⟨s',0,h',0,g.1.2.arr,pw.arr,pc.arr,f1,noRest,pl.arr⟩:XSta).cells,54⟩ :: (pl.L 150 XEntry.cells ++ (pc.L 71 XCut.cells ++ (pw.L 153 XWatch.cells ++ (g.1.2.L 93 XMeas.cells ++ (⟨b4,staZ.cells,54⟩ :: ⟨b3,f.cells,42⟩ :: ⟨b2,s.cells,38⟩ :: L))))),fun _=>S1,fun g=>s.sensors.l.length - g.1.1⟩:Head {g:Nat×OwL XMeas // g.1≤s.sensors.l.length∧g.2.ok 4 XMeas.cells∧g.2.l=List.replicate g.1 Klc})) (⟨(0,pm),by dsimp only;omega,hK.km,hpm0⟩) ?_;rintro ⟨⟨k2,pm2⟩,hk2,hm2k,hm2⟩ junk;try dsimp only
 dsimp only [XSta.cells];dsimp only at hk2 hm2k hm2;have hm2n:pm2.l.length=k2:=by rw [hm2,yta]
 apply (Xaj);refine q_c ?_ ?_<;>intro hc6;·refine J5 (Jb (Jq (Ki (Jg ?_))));apply (Xaa);refine Jw zBc rfl ?_;refine Za zBb rfl ?_;rintro v U J ⟨b72,rfl,rfl,hR72⟩;replace hR72:=hR72.symm;subst hR72;refine Za (Jy (f:=XMeas.cells) (p:=pm2) (a:=Klc) tb rfl rfl rfl rfl (hm2k) zj zwb rfl zy) rfl ?_;rintro v U J ⟨o73,rfl,hok73,rfl,rfl⟩;apply Xbo∘Xa4;exact q_k ⟨(k2 + 1,⟨o73,pm2.l ++ [Klc]⟩),by dsimp only;omega,hok73,by dsimp only;rw [hm2,yRb]⟩
 obtain rfl:k2=s.sensors.l.length:=by omega
 apply qcf∘Xay;refine Jm [(2,.pointer _),(4,.pointer _),(10,.pointer _),(78,.int _ _),(79,.int _ _)] zh fun tq3=>?_;refine q_p (rg 79 9) ((⟨fun g=>[(79,.int .i64 ((g.1.1:Nat):Int))],fun g=>⟨b10,(⟨s',0,h',0,pm2.arr,g.1.2.arr,pc.arr,f1,noRest,pl.arr⟩:XSta).cells,54⟩ :: (pl.L 150 XEntry.cells ++ (pc.L 71 XCut.cells ++ (g.1.2.L 153 XWatch.cells ++ (pm2.L 93 XMeas.cells ++ (⟨b4,staZ.cells,54⟩ :: ⟨b3,f.cells,42⟩ :: ⟨b2,s.cells,38⟩ :: L))))),fun _=>S1,fun g=>s.conds.l.length - g.1.1⟩:Head {g:Nat×OwL XWatch // g.1≤s.conds.l.length∧g.2.ok 3 XWatch.cells∧g.2.l=List.replicate g.1 (⟨true,-1,0⟩:XWatch)})) (⟨(0,pw),by dsimp only;omega,hK.kw,hpw0⟩) ?_;rintro ⟨⟨k3,pw2⟩,hk3,hw2k,hw2⟩ junk;try dsimp only
 dsimp only [XSta.cells];dsimp only at hk3 hw2k hw2;have hw2n:pw2.l.length=k3:=by rw [hw2,yta]
 apply (Xaj);refine q_c ?_ ?_<;>intro hc7;·refine J5 (Jb (Jq (Ki ?_)));refine J7 tb [] [0,1,2,3] [4,5,6] (_) _ Ko zc zi yd ?_;apply (Xak);refine K7 rfl (J9e _ _) rfl rfl ?_;rintro v U J ⟨rfl,rfl,rfl⟩;refine ⟨zi,zt,?_⟩;refine Joc zyb rfl rfl rfl ?_;rintro v U J ⟨b84,rfl,rfl,hR84⟩;replace hR84:=hR84.symm;subst hR84;apply (Xcd);refine Jzb (Jy (f:=XWatch.cells) (p:=pw2) (a:=⟨true,-1,0⟩) tb rfl rfl rfl rfl (hw2k) zj zwb rfl zy) rfl rfl rfl ?_;rintro v U J ⟨o85,rfl,hok85,rfl,rfl⟩;apply qa1∘Xb1∘Xc4;exact q_k ⟨(k3 + 1,⟨o85,pw2.l ++ [⟨true,-1,0⟩]⟩),by dsimp only;omega,hok85,by dsimp only;rw [hw2,yRb]⟩
 obtain rfl:k3=s.conds.l.length:=by omega
 apply qcf∘Xay;refine Jm [(4,.pointer _),(10,.pointer _),(90,.int _ _),(91,.int _ _)] zh fun tq4=>?_;refine q_p (rg 91 9) ((⟨fun g=>[(91,.int .i64 ((g.1.1:Nat):Int))],fun g=>⟨b10,(⟨s',0,h',0,pm2.arr,pw2.arr,g.1.2.arr,f1,noRest,pl.arr⟩:XSta).cells,54⟩ :: (pl.L 150 XEntry.cells ++ (g.1.2.L 71 XCut.cells ++ (pw2.L 153 XWatch.cells ++ (pm2.L 93 XMeas.cells ++ (⟨b4,staZ.cells,54⟩ :: ⟨b3,f.cells,42⟩ :: ⟨b2,s.cells,38⟩ :: L))))),fun _=>S1,fun g=>s.zones.l.length - g.1.1⟩:Head {g:Nat×OwL XCut // g.1≤s.zones.l.length∧g.2.ok 3 XCut.cells∧g.2.l=List.replicate g.1 (⟨true,-1,0⟩:XCut)})) (⟨(0,pc),by dsimp only;omega,hK.kc,hpc0⟩) ?_;rintro ⟨⟨k4,pc2⟩,hk4,hc2k,hc2⟩ junk;try dsimp only
 dsimp only [XSta.cells];dsimp only at hk4 hc2k hc2;have hc2n:pc2.l.length=k4:=by rw [hc2,yta]
 apply (Xaj);refine q_c ?_ ?_<;>intro hc8;·refine J5 (Jb (Jq (Ki (Jg ?_))));apply (Xaa);refine Jw zgc rfl ?_;refine Za zyb rfl ?_;rintro v U J ⟨b96,rfl,rfl,hR96⟩;replace hR96:=hR96.symm;subst hR96;refine Za (Jy (f:=XCut.cells) (p:=pc2) (a:=⟨true,-1,0⟩) tb rfl rfl rfl rfl (hc2k) zj zwb rfl zy) rfl ?_;rintro v U J ⟨o97,rfl,hok97,rfl,rfl⟩;apply Xbo∘Xa4;exact q_k ⟨(k4 + 1,⟨o97,pc2.l ++ [⟨true,-1,0⟩]⟩),by dsimp only;omega,hok97,by dsimp only;rw [hc2,yRb]⟩
 obtain rfl:k4=s.zones.l.length:=by omega
 refine Kp (T:=93) (f:=XMeas.cells) (wd:=4) pm2 [] zj yf ze hm2k yg ?_;refine U2 zq ?_;refine Kp (T:=153) (f:=XWatch.cells) (wd:=3) pw2 [] zj yf ze hw2k yg ?_;refine U2 zq ?_;refine Kp (T:=71) (f:=XCut.cells) (wd:=3) pc2 [] zj yf ze hc2k yg ?_;refine U2 zq ?_;refine Kp (T:=150) (f:=XEntry.cells) (wd:=4) pl [] zj yf ze hK.kl yg ?_;refine U2 zq ?_;obtain ⟨R2,hR2e⟩:∃R2,R2=J5a pl.arr :: Vuc pc2.arr :: Ztd pw2.arr :: Yu pm2.arr :: S1:=⟨_,rfl⟩;refine Jic (show _=R2 by rw [hR2e]) ?_;have h12:∀r∈S1,InR r (R2 ++ R):=fun r hr=>Ja (by rw [hR2e];exact .tail _ (.tail _ (.tail _ (.tail _ (yp _ hr)))));have h02:∀r∈R1,InR r (R2 ++ R):=fun r hr=>(hext r hr).mono h12;have hRR2:∀r∈R,InR r R2:=fun r hr=>((hRR1 r hr).mono hext).mono fun r hr=>Ja (by rw [hR2e];exact .tail _ (.tail _ (.tail _ (.tail _ hr))));have e1:InR (J5a pl.arr) (R2 ++ R):=Ja zta;have e2:InR (Vuc pc2.arr) (R2 ++ R):=Ja zEa;have e3:InR (Ztd pw2.arr) (R2 ++ R):=Ja zCa;have e4:InR (Yu pm2.arr) (R2 ++ R):=Ja (by rw [hR2e];exact .tail _ (.tail _ (.tail _ (.head _))));apply (qbk);refine Jw zub rfl ?_;apply (Xb2);refine K2 (U:=L) (J:=R2 ++ R) zcd ?hp ?hL ?hR;case hp=>exact ⟨(⟨s',0,h',0,pm2.arr,pw2.arr,pc2.arr,f1,noRest,pl.arr⟩:XSta),R2,by rw [he],⟨hK1.site.mono h02,hK1.held.mono h02,e4,e3,e2,hf1.mono h12,e1⟩,fun _=>⟨hK.es,rfl,hK.eh,rfl,hm2,hw2,hc2,hfs,hfz,hfr,rfl,hpl0⟩,fun h=>absurd he h,rfl,rfl⟩
 case hL=>exact zi
 case hR=>
  exact fun r hr=>by
   rcases List.mem_append.1 hr with h | h;·exact Ja h
   ·exact hRR2 r h
end
section
section
variable {g:PSite} {p:PSta}
structure KeepP (p q:PSta):Prop where
 meas:q.meas=p.meas
 held:q.held=p.held
 dropped:q.dropped=p.dropped
def KeepP.refl (p:PSta):KeepP p p:=⟨rfl,rfl,rfl⟩
def KeepP.trans {p q r:PSta} (h:KeepP p q) (k:KeepP q r):KeepP p r:=⟨k.meas.trans h.meas,k.held.trans h.held,k.dropped.trans h.dropped⟩
def Zwc (z:Int):KeepP p (Jcd g p z):=by rw [Jcd];split <;> exact ⟨rfl,rfl,rfl⟩
def Z4c : ∀ (l : List Int) {p : PSta}, KeepP p (Kqb g p l)
 | [],p=>.refl p
 | z :: l,p=>(Zwc z).trans (Z4c l)
def K6b (kind : Int) : ∀ (l : List Int) {p : PSta}, KeepP p (Kda kind p l)
 | [],p=>.refl p
 | z :: l,p=>KeepP.trans (q:=Jma p kind z 0) ⟨rfl,rfl,rfl⟩ (K6b kind l)
def K1d (vals:List Int) (z:Nat):KeepP p (Z2a g vals p z):=by
 rw [Z2a];split;·exact .refl p
 ·exact KeepP.trans (q:={ p with cuts:=p.cuts.set z ⟨true,(p.cuts.getD z default).clear,Zxa (g.site.zones.l.getD z default).rule.l vals⟩ }) ⟨rfl,rfl,rfl⟩ (Zwc _)
def Zvb (vals : List Int) : ∀ k, KeepP p (darkTo g vals p k)
 | 0=>.refl p
 | k + 1=>(Zvb vals k).trans (K1d vals k)
def U6d (t:Int):KeepP p (Jk g p t):=by rw [Jk];refine KeepP.trans ?_ (Zvb _ _);rw [settleB];refine KeepP.trans ?_ (K6b _ _);refine KeepP.trans ?_ (K6b _ _);refine KeepP.trans (q:=settleA g { p with time:=t }) ?_ ⟨rfl,rfl,rfl⟩;rw [settleA];exact KeepP.trans (q:={ p with time:=t,watches:=_,cuts:=_ }) ⟨rfl,rfl,rfl⟩ (Z4c _)
end
end
section
attribute [local irreducible] CJ LJ DJ Tri YV Gives Uq J2 Kj Ut RV J3 OwL.L
section
variable (b b':Nat)
end
end
section
attribute [local irreducible] CJ LJ DJ Tri YV Gives Uq J2 Kj Ut RV J3 OwL.L
section
variable {s:XSite} {len dl ho:Int} (h:EasyD s len dl ho)
include h
def Jsf:Kx s.air=0:=by
 obtain ⟨h1,h2,h3,h4,h5,h6,h7,_,h8,⟨h9,h9'⟩,_⟩:=h;obtain ⟨⟨⟨⟨pa,pc,pl⟩,⟨ra,rc,rl⟩⟩,⟨fa,fc,fl⟩,⟨da,dc,dl⟩⟩,se,cn,zs,ps⟩:=s;dsimp only at h1 h2 h3 h4;subst h1 h2 h3 h4;have:len=1∨len=2∨len=3∨len=4:=by omega
 rcases this with rfl | rfl | rfl | rfl <;> rfl
def U2f:SiteOk s:=by
 have ha:=Jsf h;obtain ⟨h1,h2,h3,h4,h5,h6,⟨z,h7,z1,z2,z3,z4⟩,_,h8,hr⟩:=h;refine ⟨ha,by rw [h5,h6,h7,h8];simp,fun i hi=>?_,fun c hc=>?_,fun y hy=>?_,fun p hp=>?_⟩;·
  rw [h5] at hi ⊢;obtain rfl:i=0:=by simp only [yA,yda] at hi;omega
  rw [Z6,if_neg ze,if_neg,if_neg (by rintro ⟨k,hk,_⟩;omega)];rw [Zda,h2];show ¬ ¬ ((0:Int)≤0∧(0:Int) < 1);decide
 ·
  rw [h6] at hc;rw [List.mem_singleton.1 hc,Kv,if_neg,if_neg (by show ¬ ((0:Int) < 0∨(1099511627776:Int) < 0);decide),if_pos zb,Jxa,if_pos];·show (100 : Int) ≤ 1000000 ∧ (0 : Int) ≤ 60 ∧ (60 : Int) < 100 ∧ 0 ≤ dl ∧ dl ≤ 100000;omega
  ·rw [h5, h2];show ¬ (0:Int)≠0;decide
 ·
  rw [h7] at hy;rw [List.mem_singleton.1 hy,Y5,z1,h6,h2,if_neg (by show ¬ Jfa _ 1≠0;decide),if_neg za,if_neg];rintro ⟨i,hi,hb⟩;rw [z3] at hi hb;obtain rfl:i=0:=by simp only [yA,yda] at hi;omega
  revert hb;show ¬ Yp 1 [0] 0;decide
 ·rw [h8] at hp;simp only [yca,yY,or_false] at hp;omega
end
end
section
section
variable {s:XSite} {len dl ho:Int} (h:EasyD s len dl ho)
include h
end
def openS (n:Nat):List XSwitch:=(List.range n).map fun (i:Nat)=>⟨(i:Int) - 1,0,-1,false,false⟩
end
section
section
variable {s:XSite} {len dl ho:Int} {f:XFeeder} {A:List Bool} (h:EasyD s len dl ho)
include h
def Jae {n:Nat} (hn:1≤n∧n≤3) (h1:f.switches.l=Jab n) (h2:f.zones.l=[(n:Int) - 1]) (h3:f.reply=3):Yka s f=0:=by
 obtain ⟨z,h7,_⟩:=h.zone;have hfe:feedE f.switches.l f.zones.l f.reply=0:=by
  rw [h1,h2,h3];have:n=1∨n=2∨n=3:=by omega
  rcases this with rfl | rfl | rfl <;> decide
 rw [Yka,(U2f h).err,if_neg ze,hfe,if_neg ze,if_neg (by rw [h2,h7];simp),if_neg];rintro ⟨x,hx,h9⟩;rw [h1,Jab,List.mem_map] at hx;obtain ⟨i,_,rfl⟩:=hx;exact h9 rfl
def sw1:List XSwitch:=[⟨-1,0,0,false,false⟩]
def pAw (t:Int):PSta:=⟨t,[],0,[Klc],[⟨true,-1,t⟩],[⟨true,-1,0⟩],sw1,noRest,[]⟩
def Zyd (h1:f.switches.l=Jab 1):Kff s f=pAw 0:=by obtain ⟨z,h7,_⟩:=h.zone;rw [Kff,h.sens,h.conds,h7,h1];rfl
end
end
end Go.Proofs.YtchfclmokpbldaaGreat
