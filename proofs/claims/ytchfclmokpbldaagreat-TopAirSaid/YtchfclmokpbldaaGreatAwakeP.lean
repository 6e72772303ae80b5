/-
  Merged texts. By an AI agent.
-/
import Derived.Test.YtchfclmokpbldaaGreatStaG
import Derived.Test.YtchfclmokpbldaaGreatStatM
import Derived.Test.YtchfclmokpbldaaGreatSiteS
import Derived.Test.YtchfclmokpbldaaGreatLaw12a
import Derived.Test.YtchfclmokpbldaaGreatEasy
import Derived.Test.YtchfclmokpbldaaGreatCutC
import Derived.Test.YtchfclmokpbldaaGreatFeedD
import Derived.Test.YtchfclmokpbldaaGreatSiteD
import Derived.Test.YtchfclmokpbldaaGreatFeedT
set_option linter.all false
set_option maxHeartbeats 4000000
set_option maxRecDepth 20000
namespace Go.Proofs.YtchfclmokpbldaaGreat
open Go.Aw Go
section
section
variable {A B:Prop}
def Kxf(h:A→B:=by exact Jy (Ka (qs:=[]) (out:=[_,_,_,_,_,_,_,_,_,_,_,_,_,_,_,_,_,_,_,_,_,_,_]) tb rfl rfl rfl rfl) rfl):=h
def Ksf(h:B:=by exact ⟨staZ,Kod,by rw [he];rfl,Ujf R,fun h=>by omega,fun _=>rfl,rfl,rfl⟩):=h
def J1g(h:A→B:=by exact Jy zxb rfl):=h
end
def Jga {α:Type} {P:Program} {n:Nat} {code:Code} {t:Nat→Value} {L:LB} {R:LS} {Q:Kw} {f:α→List Value} {wd:Nat} (hf:∀x,(f x).length=wd) (hwd:0 < wd) (h:CJ P n code t L ((⟨none,0,[]⟩:Arr α).sl wd f [] :: R) Q):CJ P n code t L R Q:=
 Y3e (T:=3) (p:=(OwL.nil:OwL α)) (f:=f) [] OwL.nil_ok hf hwd yg h
def Kod:LS:=[psl ⟨none,0,[]⟩,rsl ⟨none,0,[]⟩,fsl ⟨none,0,[]⟩,dsl ⟨none,0,[]⟩,Zbd ⟨none,0,[]⟩,Zyf ⟨none,0,[]⟩,Uff ⟨none,0,[]⟩,isl ⟨none,0,[]⟩,bsl ⟨none,0,[]⟩,Yy ⟨none,0,[]⟩,Jqe ⟨none,0,[]⟩,Vic ⟨none,0,[]⟩,Y1b ⟨none,0,[]⟩,Kia ⟨none,0,[]⟩]
def Zrf {P:Program} {n:Nat} {code:Code} {t:Nat→Value} {L:LB} {R:LS} {Q:Kw} (h:CJ P n code t L (Kod ++ R) Q):CJ P n code t L R Q:=by refine Jga (f:=XEntry.cells) (wd:=4) yf ze ?_;refine Jga (f:=XSwitch.cells) (wd:=5) yf ze ?_;refine Jga (f:=XCut.cells) (wd:=3) yf ze ?_;refine Jga (f:=XWatch.cells) (wd:=3) yf ze ?_;refine Jga (f:=XMeas.cells) (wd:=4) yf ze ?_;refine Jga (f:=Yb) (wd:=1) yf ze ?_;refine Jga (f:=Jk) (wd:=1) yf ze ?_;refine Jga (f:=XZone.cells) (wd:=4) yf ze ?_;refine Jga (f:=XCond.cells) (wd:=6) yf ze ?_;refine Jga (f:=XSens.cells) (wd:=8) yf ze ?_;refine Jga (f:=XDoor.cells) (wd:=3) yf ze ?_;refine Jga (f:=XFan.cells) (wd:=4) yf ze ?_;refine Jga (f:=XRoad.cells) (wd:=10) yf ze ?_;refine Jga (f:=XPlace.cells) (wd:=2) yf ze ?_;exact h
def Ujf (R:LS):StaR staZ (Kod ++ R):=by have m:∀s∈Kod,InR s (Kod ++ R):=fun s hs=>Ja (yp _ hs);refine ⟨⟨⟨m _ ?_,m _ ?_,m _ ?_,m _ ?_⟩,m _ ?_,m _ ?_,m _ ?_,m _ ?_⟩,m _ ?_,m _ ?_,m _ ?_,m _ ?_,⟨m _ ?_,m _ ?_⟩,m _ ?_⟩;all_goals simp [Kod,staZ]
def Zid (sw : List XSwitch) : Nat → List XSwitch
 | 0=>sw
 | k + 1=>Yj (Zid sw k) (k:Int) 0
def Zpf (sw:List XSwitch):List XSwitch:=Zid sw sw.length
def Y0a (s:XSite) (f:XFeeder):Int:=
 if Ue s≠0 then Ue s else if feedE f.switches.l f.zones.l f.reply≠0 then feedE f.switches.l f.zones.l f.reply
 else if f.zones.l.length≠s.zones.l.length then 17 else if∃x∈f.switches.l,x.since≠0 then 8 else 0
def gOf (s:XSite) (f:XFeeder) (A:List Bool):PSite:=⟨s,f.zones.l,f.reply,A⟩
def Ktc:XMeas:=⟨-1,0,⟨0,0⟩⟩
def Kgf (s:XSite) (f:XFeeder):PSta:=⟨0,[],0,List.replicate s.sensors.l.length Ktc,List.replicate s.conds.l.length ⟨true,-1,0⟩,List.replicate s.zones.l.length ⟨true,-1,0⟩,Zpf f.switches.l,noRest,[]⟩
def Kab {sw : List XSwitch} {zn : List Int} {rp : Int} (h : feedE sw zn rp = 0) : ∀ k, SwKeep sw (Zid sw k) 0
 | 0=>.refl h 0
 | k + 1=>(Kab h k).openS _
def U1f {s:XSite} {f:XFeeder} (h:Y0a s f=0):Ue s=0∧feedE f.switches.l f.zones.l f.reply=0∧f.zones.l.length=s.zones.l.length∧∀x∈f.switches.l,x.since=0:=by
 rw [Y0a] at h;split at h;·omega
 split at h;·omega
 split at h;·cases h
 split at h;·cases h
 rename_i h1 h2 h3 h4;exact ⟨Decidable.not_not.1 h1,Decidable.not_not.1 h2,Decidable.not_not.1 h3,fun x hx=>by
  rcases yia (x.since=0) with h5 | h5;·exact h5
  ·exact absurd ⟨x,hx,h5⟩ h4⟩
def Ywd {s:XSite} {f:XFeeder} {A:List Bool} (h:Y0a s f=0) (hA:AiryIs s.air.mine A):Inv (gOf s f A) (Kgf s f):=by
 obtain ⟨h1,h2,h3,h4⟩:=U1f h;have hk:=Kab (rp:=f.reply) h2 f.switches.l.length;refine ⟨h1,hA,⟨yz _,by show (0:Int)≤2147483648;decide⟩,yua,fun x hx=>?_,yua,fun w hw=>?_,yua,hk.feedE h2 ⟨yz _,by decide⟩,?_,h3,⟨by show (0:Int)≤0;decide,.inl rfl⟩,yea _,⟨fun x hx=>(by cases hx),yea _⟩⟩;·rw [List.eq_of_mem_replicate hx,K9a,Ktc];dsimp only;omega
 ·rw [List.eq_of_mem_replicate hw];exact ⟨⟨by decide,by decide,by decide,.inl rfl⟩,yz _⟩
 ·exact (hk.time ⟨⟨yz _,by decide⟩,fun x hx=>by rw [h4 x hx];exact yz _⟩).2
attribute [local irreducible] CJ LJ DJ Tri YV Gives U5 J2 Kn U6 RV J4 OwL.L
def J8f (s:XSite) (f:XFeeder) (A:List Bool) (L:LB) (R:LS):Y3:=fun v U J=>∃(y:XSta) (S:LS),v=.tuple #[y.val,.int .i64 (Y0a s f)]∧StaR y J∧(Y0a s f=0→StaIs (gOf s f A) (Kgf s f) y)∧(Y0a s f≠0→y=staZ)∧L=U∧S ++ R=J
def Vdd (s:XSite) (f:XFeeder) (A:List Bool) (L:LB) (R:LS) (hs:SiteR s R) (hf:FeederR f R) (hA:AiryIs s.air.mine A):
 Tri Tryz.prog 16 [s.val,f.val].toArray L R (J8f s f A L R):=by
 have hswR:=hf.sw.mono fun r hr=>Ja (yj Kod hr);refine Je 101 Tryz.call16 Tryz.func16 rfl rfl rfl ?_;apply (Xaf);intro b2;apply (qax);intro b3;apply (qaq);intro b4;apply qad∘qco;refine Zrf ?_;have hR0:∀r∈R,InR r (Kod ++ R):=fun r hr=>Ja (yj _ hr);have hs0:=hs.mono hR0;have hf0:=hf.mono hR0;apply (qay);refine Jy zAb rfl ?_;refine q_l rfl (Kqa s _ _ hs0) ?_;apply (Xbh);refine q_c ?_ ?_<;>intro hc0;·
  apply qae∘Kxf∘Xcl;refine q_r L (Kod ++ R) zud ?_;have he:Y0a s f=Ue s:=by rw [Y0a,if_pos hc0]
  exact Ksf
 apply qbo∘J1g;refine q_l rfl (Yo f _ _ hf0) ?_;apply (Xbh);refine q_c ?_ ?_<;>intro hc1;·
  apply qae∘Kxf∘Xcl;refine q_r L (Kod ++ R) zud ?_;have he:Y0a s f=feedE f.switches.l f.zones.l f.reply:=by rw [Y0a,if_neg hc0,if_pos hc1]
  exact Ksf
 apply Xec∘Xab∘Xat;refine q_c ?_ ?_<;>intro hc2;·
  apply qae∘Kxf∘Xa4;refine q_r L (Kod ++ R) zud ?_;have he:Y0a s f=17:=by rw [Y0a,if_neg hc0,if_neg hc1,if_pos za]
  exact Ksf
 have hse:Ue s=0:=Decidable.not_not.1 hc0;have hfe:feedE f.switches.l f.zones.l f.reply=0:=Decidable.not_not.1 hc1;have hfo:=Ys hfe;have hsn:=hfo.sn;have hzl:=hfo.zl;have hso:=(Z2 hse).len;apply (Xc3);refine Jm [(2,.pointer _),(3,.pointer _),(4,.pointer _),(33,.slice _ _ _),(34,.int _ _),(35,.int _ _)] zh fun tq0=>?_;refine q_s ([5,9]++rg 35 9) (fun g:{k:Nat // k≤f.switches.l.length∧∀j:Nat,j < k→(f.switches.l.getD j default).since=0}=>[(35,.int .i64 ((g.1:Nat):Int))]) (fun g=>f.switches.l.length - g.1) (⟨0,by omega,fun j hj=>by omega⟩) ?_;rintro ⟨k,hk,hal⟩ junk;try dsimp only
 apply (Xam);refine q_c ?_ ?_<;>intro hc3;·
  have hg:=Jn (l:=f.switches.l) (k:=k) default za;apply (qbb);refine Jy zC rfl ?_;apply qdw∘qaq;intro b9;apply Xcd∘Xat;refine q_c ?_ ?_<;>intro hc4;·apply qae∘Kxf∘qak∘qad∘qbt;refine q_r L (Kod ++ R) zud ?_;(have he:Y0a s f=8:=by rw [Y0a,if_neg hc0,if_neg hc1,if_neg za,if_pos ⟨_,yi hg,hc4⟩]);exact Ksf
  apply (Xaw);exact uaX
 have hal2:∀x∈f.switches.l,x.since=0:=fun x hx=>by obtain ⟨j,hj,rfl⟩:=yWa hx;have:=hal j za;rwa [yh,yC hj] at this
 have he:Y0a s f=0:=by rw [Y0a,if_neg hc0,if_neg hc1,if_neg za,if_neg (fun ⟨x,hx,h⟩=>h (hal2 x hx))]
 have hn:∀q∈Kod,InR q (Kod ++ R):=fun q hq=>Ja (yp _ hq);have hN:StaN (⟨s,0,⟨none,0,[]⟩,0,⟨none,0,[]⟩,⟨none,0,[]⟩,⟨none,0,[]⟩,f,noRest,⟨none,0,[]⟩⟩:XSta):=⟨hse,yea _,yea _,yea _,yea _,(by show f.switches.l.length≤1000;omega),(by show f.zones.l.length≤1000;omega),yea _⟩;have hZ:=Ujf R;have hXR:StaR (⟨s,0,⟨none,0,[]⟩,0,⟨none,0,[]⟩,⟨none,0,[]⟩,⟨none,0,[]⟩,f,noRest,⟨none,0,[]⟩⟩:XSta) (Kod ++ R):=⟨hs0,hZ.held,hZ.meas,hZ.watches,hZ.cuts,hf0,hZ.log⟩;apply (qc3);refine Ki tb [0,1,2,3,4,5,6] _ Kq zc ye ?_;refine K0 zAb rfl rfl rfl ?_;refine K0 zxb rfl rfl rfl ?_;refine q_d rfl (Vzc _ _) ?_;refine K0 (Ka (qs:=[(0,(Value.agg _).cells.toList),(6,(Value.agg _).cells.toList),(7,(Value.agg _).cells.toList)]) (out:=[_,_,_,_,_,_,_,_,_,_,_,_,_,_,_,_,_,_,_,_,_,_,_]) tb rfl rfl rfl rfl) rfl rfl rfl ?_;refine Yp rfl (Kzb (⟨s,0,⟨none,0,[]⟩,0,⟨none,0,[]⟩,⟨none,0,[]⟩,⟨none,0,[]⟩,f,noRest,⟨none,0,[]⟩⟩:XSta) _ _ hN hXR) rfl rfl ?_;rintro v U J ⟨s',h',f',pm,pw,pc,pl,S0,rfl,hK,rfl,rfl⟩;refine ⟨zi,zq,?_⟩;apply (qbr);intro b10;apply (qbg);refine J1 (Jb (Jq (Jq ?_)));obtain ⟨R1,hR1e⟩:∃R1,R1=S0 ++ (Kod ++ R):=⟨_,rfl⟩;refine J9c zed ?_;have hK1:StaKO (⟨s,0,⟨none,0,[]⟩,0,⟨none,0,[]⟩,⟨none,0,[]⟩,⟨none,0,[]⟩,f,noRest,⟨none,0,[]⟩⟩:XSta) s' h' f' pm pw pc pl R1:=by rw [hR1e];exact hK
 have hRR1:∀r∈R,InR r R1:=fun r hr=>Ja (by rw [hR1e];exact yj _ (yj _ hr));have hpm0:pm.l=[]:=hK.em;have hpw0:pw.l=[]:=hK.ew;have hpc0:pc.l=[]:=hK.ec;have hpl0:pl.l=[]:=hK.el;have hswn:f'.switches.l=f.switches.l:=hK.esw;apply qay∘Xay;refine Jm [(2,.pointer _),(4,.pointer _),(10,.pointer _),(51,.int _ _),(52,.int _ _)] zh fun tq1=>?_;refine q_p ([11]++rg 52 12) ((⟨fun g=>[(52,.int .i64 ((g.1.1:Nat):Int))],fun g=>⟨b10,(⟨s',0,h',0,pm.arr,pw.arr,pc.arr,g.1.2.1,noRest,pl.arr⟩:XSta).cells,54⟩ :: (pl.L 150 XEntry.cells ++ (pc.L 71 XCut.cells ++ (pw.L 153 XWatch.cells ++ (pm.L 93 XMeas.cells ++ (⟨b4,staZ.cells,54⟩ :: ⟨b3,f.cells,42⟩ :: ⟨b2,s.cells,38⟩ :: L))))),fun g=>g.1.2.2,fun g=>f.switches.l.length - g.1.1⟩:Head {g:Nat×XFeeder×LS // g.1≤f.switches.l.length∧(g.2.1.switches.l=Zid f.switches.l g.1∧g.2.1.zones.l=f.zones.l∧g.2.1.reply=f.reply)∧FeederR g.2.1 g.2.2∧∀r∈R1,InR r g.2.2})) (⟨(0,f',R1),by dsimp only;omega,⟨hK.esw,hK.ezn,hK.erp⟩,hK1.feeder,Jc _⟩) ?_;rintro ⟨⟨k1,f1,S1⟩,hk1,⟨hfs,hfz,hfr⟩,hf1,hext⟩ junk;try dsimp only
 dsimp only [XSta.cells];dsimp only at hk1 hfs hfz hfr hf1 hext;apply (Xam);refine q_c ?_ ?_<;>intro hc5;·
  have hkp:=Kab (rp:=f.reply) hfe k1;have hfe1:feedE f1.switches.l f1.zones.l f1.reply=0:=by rw [hfs,hfz,hfr];exact hkp.feedE hfe ⟨yz _,by decide⟩
  have hl1:f1.switches.l.length=f.switches.l.length:=by rw [hfs];exact hkp.len
  have hto1:Yya f1.switches.l 0:=by rw [hfs];exact hkp.time ⟨⟨yz _,by decide⟩,fun x hx=>by rw [hal2 x hx];exact yz _⟩
  have hcan:Y2c f1.switches.l f1.zones.l f1.reply (k1:Int) 0=0:=by rw [Y2c,if_neg (by rw [hfe1];decide),if_neg za,if_pos hto1]
  apply Xa1∘qad;refine Kc (Jb (Jh ?_));apply qab∘J1g∘qaa;refine Jw rfl (Vpb f1 (k1:Int) 0 _ _ hf1) rfl ?_;rintro v U J ⟨pp,qq,rp,rfl,⟨hppk,hqqk⟩,hop,rfl,rfl⟩;refine Jy zSb rfl ?_;apply Xa7∘qab;refine Uja tb rfl rfl rfl rfl zB zb zb zb ?_;refine Kc (Ji (Jb ?_));obtain ⟨hppl,hqql,rfl⟩:=hop hcan;refine Ko (T:=3) (f:=Jk) (wd:=1) qq [] zj yf ze hqqk yg ?_;refine U4 zp ?_;refine Ko (T:=76) (f:=XSwitch.cells) (wd:=5) pp [] zj yf ze hppk yg ?_;refine U4 zp ?_;apply qay∘Xad;exact q_k ⟨(k1 + 1,⟨pp.arr,qq.arr,f1.reply⟩,Y1b pp.arr :: isl qq.arr :: S1),by dsimp only;omega,⟨by show pp.l=_;rw [hppl,hfs];rfl,hqql.trans hfz,hfr⟩,⟨Ja (.head _),Ja (.tail _ (.head _))⟩,fun r hr=>(hext r hr).mono fun r hr=>Ja (.tail _ (.tail _ hr))⟩
 obtain rfl:k1=f.switches.l.length:=by omega
 apply qcf∘Xay;refine Jm [(2,.pointer _),(4,.pointer _),(10,.pointer _),(66,.int _ _),(67,.int _ _)] zh fun tq2=>?_;refine q_p (rg 67 9) ((⟨fun g=>[(67,.int .i64 ((g.1.1:Nat):Int))],fun g=>⟨b10,(⟨s',0,h',0,g.1.2.arr,pw.arr,pc.arr,f1,noRest,pl.arr⟩:XSta).cells,54⟩ :: (pl.L 150 XEntry.cells ++ (pc.L 71 XCut.cells ++ (pw.L 153 XWatch.cells ++ (g.1.2.L 93 XMeas.cells ++ (⟨b4,staZ.cells,54⟩ :: ⟨b3,f.cells,42⟩ :: ⟨b2,s.cells,38⟩ :: L))))),fun _=>S1,fun g=>s.sensors.l.length - g.1.1⟩:Head {g:Nat×OwL XMeas // g.1≤s.sensors.l.length∧g.2.ok 4 XMeas.cells∧g.2.l=List.replicate g.1 Ktc})) (⟨(0,pm),by dsimp only;omega,hK.km,hpm0⟩) ?_;rintro ⟨⟨k2,pm2⟩,hk2,hm2k,hm2⟩ junk;try dsimp only
 dsimp only [XSta.cells];dsimp only at hk2 hm2k hm2;have hm2n:pm2.l.length=k2:=by rw [hm2,yua]
 apply (Xam);refine q_c ?_ ?_<;>intro hc6;·refine J5 (Jb (Jq (Kk (Jh ?_))));apply (Xaa);refine Jy zOc rfl ?_;refine Yv zFb rfl ?_;rintro v U J ⟨b72,rfl,rfl,hR72⟩;replace hR72:=hR72.symm;subst hR72;refine Yv (Jx (f:=XMeas.cells) (p:=pm2) (a:=Ktc) tb rfl rfl rfl rfl (hm2k) zj zDb rfl zy) rfl ?_;rintro v U J ⟨o73,rfl,hok73,rfl,rfl⟩;apply Xbt∘Xa8;exact q_k ⟨(k2 + 1,⟨o73,pm2.l ++ [Ktc]⟩),by dsimp only;omega,hok73,by dsimp only;rw [hm2,yPb]⟩
 obtain rfl:k2=s.sensors.l.length:=by omega
 apply qcf∘Xay;refine Jm [(2,.pointer _),(4,.pointer _),(10,.pointer _),(78,.int _ _),(79,.int _ _)] zh fun tq3=>?_;refine q_p (rg 79 9) ((⟨fun g=>[(79,.int .i64 ((g.1.1:Nat):Int))],fun g=>⟨b10,(⟨s',0,h',0,pm2.arr,g.1.2.arr,pc.arr,f1,noRest,pl.arr⟩:XSta).cells,54⟩ :: (pl.L 150 XEntry.cells ++ (pc.L 71 XCut.cells ++ (g.1.2.L 153 XWatch.cells ++ (pm2.L 93 XMeas.cells ++ (⟨b4,staZ.cells,54⟩ :: ⟨b3,f.cells,42⟩ :: ⟨b2,s.cells,38⟩ :: L))))),fun _=>S1,fun g=>s.conds.l.length - g.1.1⟩:Head {g:Nat×OwL XWatch // g.1≤s.conds.l.length∧g.2.ok 3 XWatch.cells∧g.2.l=List.replicate g.1 (⟨true,-1,0⟩:XWatch)})) (⟨(0,pw),by dsimp only;omega,hK.kw,hpw0⟩) ?_;rintro ⟨⟨k3,pw2⟩,hk3,hw2k,hw2⟩ junk;try dsimp only
 dsimp only [XSta.cells];dsimp only at hk3 hw2k hw2;have hw2n:pw2.l.length=k3:=by rw [hw2,yua]
 apply (Xam);refine q_c ?_ ?_<;>intro hc7;·refine J5 (Jb (Jq (Kk ?_)));refine J7 tb [] [0,1,2,3] [4,5,6] (_) _ Kq zc zi yd ?_;apply (Xaj);refine K6 rfl (V3e _ _) rfl rfl ?_;rintro v U J ⟨rfl,rfl,rfl⟩;refine ⟨zi,zq,?_⟩;refine Kmc zHb rfl rfl rfl ?_;rintro v U J ⟨b84,rfl,rfl,hR84⟩;replace hR84:=hR84.symm;subst hR84;apply (Xcj);refine K5b (Jx (f:=XWatch.cells) (p:=pw2) (a:=⟨true,-1,0⟩) tb rfl rfl rfl rfl (hw2k) zj zDb rfl zy) rfl rfl rfl ?_;rintro v U J ⟨o85,rfl,hok85,rfl,rfl⟩;apply qa1∘Xb0∘Xde;exact q_k ⟨(k3 + 1,⟨o85,pw2.l ++ [⟨true,-1,0⟩]⟩),by dsimp only;omega,hok85,by dsimp only;rw [hw2,yPb]⟩
 obtain rfl:k3=s.conds.l.length:=by omega
 apply qcf∘Xay;refine Jm [(4,.pointer _),(10,.pointer _),(90,.int _ _),(91,.int _ _)] zh fun tq4=>?_;refine q_p (rg 91 9) ((⟨fun g=>[(91,.int .i64 ((g.1.1:Nat):Int))],fun g=>⟨b10,(⟨s',0,h',0,pm2.arr,pw2.arr,g.1.2.arr,f1,noRest,pl.arr⟩:XSta).cells,54⟩ :: (pl.L 150 XEntry.cells ++ (g.1.2.L 71 XCut.cells ++ (pw2.L 153 XWatch.cells ++ (pm2.L 93 XMeas.cells ++ (⟨b4,staZ.cells,54⟩ :: ⟨b3,f.cells,42⟩ :: ⟨b2,s.cells,38⟩ :: L))))),fun _=>S1,fun g=>s.zones.l.length - g.1.1⟩:Head {g:Nat×OwL XCut // g.1≤s.zones.l.length∧g.2.ok 3 XCut.cells∧g.2.l=List.replicate g.1 (⟨true,-1,0⟩:XCut)})) (⟨(0,pc),by dsimp only;omega,hK.kc,hpc0⟩) ?_;rintro ⟨⟨k4,pc2⟩,hk4,hc2k,hc2⟩ junk;try dsimp only
 dsimp only [XSta.cells];dsimp only at hk4 hc2k hc2;have hc2n:pc2.l.length=k4:=by rw [hc2,yua]
 apply (Xam);refine q_c ?_ ?_<;>intro hc8;·refine J5 (Jb (Jq (Kk (Jh ?_))));apply (Xaa);refine Jy zuc rfl ?_;refine Yv zHb rfl ?_;rintro v U J ⟨b96,rfl,rfl,hR96⟩;replace hR96:=hR96.symm;subst hR96;refine Yv (Jx (f:=XCut.cells) (p:=pc2) (a:=⟨true,-1,0⟩) tb rfl rfl rfl rfl (hc2k) zj zDb rfl zy) rfl ?_;rintro v U J ⟨o97,rfl,hok97,rfl,rfl⟩;apply Xbt∘Xa8;exact q_k ⟨(k4 + 1,⟨o97,pc2.l ++ [⟨true,-1,0⟩]⟩),by dsimp only;omega,hok97,by dsimp only;rw [hc2,yPb]⟩
 obtain rfl:k4=s.zones.l.length:=by omega
 refine Ko (T:=93) (f:=XMeas.cells) (wd:=4) pm2 [] zj yf ze hm2k yg ?_;refine U4 zp ?_;refine Ko (T:=153) (f:=XWatch.cells) (wd:=3) pw2 [] zj yf ze hw2k yg ?_;refine U4 zp ?_;refine Ko (T:=71) (f:=XCut.cells) (wd:=3) pc2 [] zj yf ze hc2k yg ?_;refine U4 zp ?_;refine Ko (T:=150) (f:=XEntry.cells) (wd:=4) pl [] zj yf ze hK.kl yg ?_;refine U4 zp ?_;obtain ⟨R2,hR2e⟩:∃R2,R2=Kia pl.arr :: Vic pc2.arr :: Jqe pw2.arr :: Yy pm2.arr :: S1:=⟨_,rfl⟩;refine J9c zfd ?_;have h12:∀r∈S1,InR r (R2 ++ R):=fun r hr=>Ja (by rw [hR2e];exact .tail _ (.tail _ (.tail _ (.tail _ (yp _ hr)))));have h02:∀r∈R1,InR r (R2 ++ R):=fun r hr=>(hext r hr).mono h12;have hRR2:∀r∈R,InR r R2:=fun r hr=>((hRR1 r hr).mono hext).mono fun r hr=>Ja (by rw [hR2e];exact .tail _ (.tail _ (.tail _ (.tail _ hr))));have e1:InR (Kia pl.arr) (R2 ++ R):=Ja zia;have e2:InR (Vic pc2.arr) (R2 ++ R):=Ja zGa;have e3:InR (Jqe pw2.arr) (R2 ++ R):=Ja zEa;have e4:InR (Yy pm2.arr) (R2 ++ R):=Ja (by rw [hR2e];exact .tail _ (.tail _ (.tail _ (.head _))));apply (qbk);refine Jy zBb rfl ?_;apply (Xb3);refine Kx (U:=L) (J:=R2 ++ R) zud ?hp ?hL ?hR;case hp=>exact ⟨(⟨s',0,h',0,pm2.arr,pw2.arr,pc2.arr,f1,noRest,pl.arr⟩:XSta),R2,by rw [he],⟨hK1.site.mono h02,hK1.held.mono h02,e4,e3,e2,hf1.mono h12,e1⟩,fun _=>⟨hK.es,rfl,hK.eh,rfl,hm2,hw2,hc2,hfs,hfz,hfr,rfl,hpl0⟩,fun h=>absurd he h,rfl,rfl⟩
 case hL=>exact zi
 case hR=>
  exact fun r hr=>by
   rcases List.mem_append.1 hr with h | h;·exact Ja h
   ·exact hRR2 r h
end
section
section
variable {g:PSite} {p:PSta}
structure KeepP (p q:PSta):Prop where
 meas:q.meas=p.meas
 held:q.held=p.held
 dropped:q.dropped=p.dropped
def KeepP.refl (p:PSta):KeepP p p:=⟨rfl,rfl,rfl⟩
def KeepP.trans {p q r:PSta} (h:KeepP p q) (k:KeepP q r):KeepP p r:=⟨k.meas.trans h.meas,k.held.trans h.held,k.dropped.trans h.dropped⟩
def Kcd (z:Int):KeepP p (Zhc g p z):=by rw [Zhc];split <;> exact ⟨rfl,rfl,rfl⟩
def Kfd : ∀ (l : List Int) {p : PSta}, KeepP p (K1b g p l)
 | [],p=>.refl p
 | z :: l,p=>(Kcd z).trans (Kfd l)
def U3b (kind : Int) : ∀ (l : List Int) {p : PSta}, KeepP p (Kna kind p l)
 | [],p=>.refl p
 | z :: l,p=>KeepP.trans (q:=Jua p kind z 0) ⟨rfl,rfl,rfl⟩ (U3b kind l)
def Vhd (vals:List Int) (z:Nat):KeepP p (Jib g vals p z):=by
 rw [Jib];split;·exact .refl p
 ·exact KeepP.trans (q:={ p with cuts:=p.cuts.set z ⟨true,(p.cuts.getD z default).clear,Z6a (g.site.zones.l.getD z default).rule.l vals⟩ }) ⟨rfl,rfl,rfl⟩ (Kcd _)
def Zrb (vals : List Int) : ∀ k, KeepP p (darkTo g vals p k)
 | 0=>.refl p
 | k + 1=>(Zrb vals k).trans (Vhd vals k)
def Vrd (t:Int):KeepP p (Jj g p t):=by rw [Jj];refine KeepP.trans ?_ (Zrb _ _);rw [settleB];refine KeepP.trans ?_ (U3b _ _);refine KeepP.trans ?_ (U3b _ _);refine KeepP.trans (q:=settleA g { p with time:=t }) ?_ ⟨rfl,rfl,rfl⟩;rw [settleA];exact KeepP.trans (q:={ p with time:=t,watches:=_,cuts:=_ }) ⟨rfl,rfl,rfl⟩ (Kfd _)
end
end
section
attribute [local irreducible] CJ LJ DJ Tri YV Gives U5 J2 Kn U6 RV J4 OwL.L
section
variable (b b':Nat)
end
end
section
attribute [local irreducible] CJ LJ DJ Tri YV Gives U5 J2 Kn U6 RV J4 OwL.L
section
variable {s:XSite} {len dl ho:Int} (h:EasyD s len dl ho)
include h
def Zhe:Ky s.air=0:=by
 obtain ⟨h1,h2,h3,h4,h5,h6,h7,_,h8,⟨h9,h9'⟩,_⟩:=h;obtain ⟨⟨⟨⟨pa,pc,pl⟩,⟨ra,rc,rl⟩⟩,⟨fa,fc,fl⟩,⟨da,dc,dl⟩⟩,se,cn,zs,ps⟩:=s;dsimp only at h1 h2 h3 h4;subst h1 h2 h3 h4;have:len=1∨len=2∨len=3∨len=4:=by omega
 rcases this with rfl | rfl | rfl | rfl <;> rfl
def Ynf:SiteOk s:=by
 have ha:=Zhe h;obtain ⟨h1,h2,h3,h4,h5,h6,⟨z,h7,z1,z2,z3,z4⟩,_,h8,hr⟩:=h;refine ⟨ha,by rw [h5,h6,h7,h8];simp,fun i hi=>?_,fun c hc=>?_,fun y hy=>?_,fun p hp=>?_⟩;·
  rw [h5] at hi ⊢;obtain rfl:i=0:=by simp only [yA,yfa] at hi;omega
  rw [Jda,if_neg ze,if_neg,if_neg (by rintro ⟨k,hk,_⟩;omega)];rw [Zaa,h2];show ¬ ¬ ((0:Int)≤0∧(0:Int) < 1);decide
 ·
  rw [h6] at hc;rw [List.mem_singleton.1 hc,Kv,if_neg,if_neg (by show ¬ ((0:Int) < 0∨(1099511627776:Int) < 0);decide),if_pos zb,J5a,if_pos];·show (100 : Int) ≤ 1000000 ∧ (0 : Int) ≤ 60 ∧ (60 : Int) < 100 ∧ 0 ≤ dl ∧ dl ≤ 100000;omega
  ·rw [h5, h2];show ¬ (0:Int)≠0;decide
 ·
  rw [h7] at hy;rw [List.mem_singleton.1 hy,Y8,z1,h6,h2,if_neg (by show ¬ Jsa _ 1≠0;decide),if_neg za,if_neg];rintro ⟨i,hi,hb⟩;rw [z3] at hi hb;obtain rfl:i=0:=by simp only [yA,yfa] at hi;omega
  revert hb;show ¬ Y2 1 [0] 0;decide
 ·rw [h8] at hp;simp only [yR,yM,or_false] at hp;omega
end
end
section
section
variable {s:XSite} {len dl ho:Int} (h:EasyD s len dl ho)
include h
end
def openS (n:Nat):List XSwitch:=(List.range n).map fun (i:Nat)=>⟨(i:Int) - 1,0,-1,false,false⟩
end
section
section
variable {s:XSite} {len dl ho:Int} {f:XFeeder} {A:List Bool} (h:EasyD s len dl ho)
include h
def J5e {n:Nat} (hn:1≤n∧n≤3) (h1:f.switches.l=Jgb n) (h2:f.zones.l=[(n:Int) - 1]) (h3:f.reply=3):Y0a s f=0:=by
 obtain ⟨z,h7,_⟩:=h.zone;have hfe:feedE f.switches.l f.zones.l f.reply=0:=by
  rw [h1,h2,h3];have:n=1∨n=2∨n=3:=by omega
  rcases this with rfl | rfl | rfl <;> decide
 rw [Y0a,(Ynf h).err,if_neg ze,hfe,if_neg ze,if_neg (by rw [h2,h7];simp),if_neg];rintro ⟨x,hx,h9⟩;rw [h1,Jgb,List.mem_map] at hx;obtain ⟨i,_,rfl⟩:=hx;exact h9 rfl
def sw1:List XSwitch:=[⟨-1,0,0,false,false⟩]
def pAw (t:Int):PSta:=⟨t,[],0,[Ktc],[⟨true,-1,t⟩],[⟨true,-1,0⟩],sw1,noRest,[]⟩
def Jwe (h1:f.switches.l=Jgb 1):Kgf s f=pAw 0:=by obtain ⟨z,h7,_⟩:=h.zone;rw [Kgf,h.sens,h.conds,h7,h1];rfl
end
end
end Go.Proofs.YtchfclmokpbldaaGreat
