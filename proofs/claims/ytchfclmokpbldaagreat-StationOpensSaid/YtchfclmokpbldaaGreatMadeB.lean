/-
  Merged texts. By an AI agent.
-/
import Derived.Test.YtchfclmokpbldaaGreatStaD
import Derived.Test.YtchfclmokpbldaaGreatStatM
import Derived.Test.YtchfclmokpbldaaGreatCongrS
set_option linter.all false
set_option maxHeartbeats 4000000
set_option maxRecDepth 20000
namespace Go.Proofs.YtchfclmokpbldaaGreat
open Go.Aw Go
section
attribute [local irreducible] CJ LJ DJ Tri YV Gives U7 Kb Kp U8 RV Ke OwL.L
section
variable {A B:Prop}
def Kme(h:A→B:=by exact J0 zBb rfl):=h
def Jzg(h:A→B:=by exact Kt (T:=93) (f:=XMeas.cells) (wd:=4) pm [] zm yf zj hK.km yg):=h
def Y4f(h:A→B:=by exact Kt (T:=150) (f:=XEntry.cells) (wd:=4) q2 [] zm yf zj hq2k yg):=h
end
def StaIs.flows {g:PSite} {q:PSta} {x:XSta} (h:StaIs g q x):Uka x.site g.air x.meas.l x.time=flP g q:=by rw [SiteE.flows h.site,h.meas,h.time,flP]
def Yfd (g:PSite) (p:PSta) (x:XSta) (a z t:Int) (L:LB) (R:LS) (hI:Inv g p) (hx:StaIs g p x) (hR:StaR x R):
 Tri Tryz.prog 21 [x.val,.int .i64 a,.int .i64 z,.int .i64 t].toArray L R (Zie g (U4e g p a z t) L R):=by
 refine Jd 49 Tryz.call21 Tryz.func21 rfl rfl rfl ?_;apply (Xag);intro b4;apply (qaq);intro b8;apply Xar∘Kme;refine Ju rfl (Y3c x _ _ (.of hI hx) hR) rfl ?_;rintro v M U ⟨s,h,w,c,f,pm,pl,S0,rfl,hK,rfl,rfl⟩;apply (qaq);intro b10;apply Xbi∘Kme∘qaa;refine q_l rfl (Udd x t _ _) ?_;apply (qaf);refine q_c ?_ ?_<;>intro hc0;·refine Ji ?_;apply (Jzg);refine V4 zA ?_;refine Kt (T:=150) (f:=XEntry.cells) (wd:=4) pl [] zm yf zj hK.kl yg ?_;refine V4 zA ?_;apply qay∘Kme∘Xcb;refine q_r L ((Uec pl.arr :: V3a pm.arr :: S0) ++ R) zCd ?_;have hl:Jrc p t:=(Z9d hx).1 zS;exact ⟨(⟨s,x.time,h,x.dropped,pm.arr,w,c,f,x.rest,pl.arr⟩:XSta),Uec pl.arr :: V3a pm.arr :: S0,by rw [U4e,if_pos hl],by rw [U4e,if_pos hl];exact hK.is hx,hK.fin (fun r hr=>Jb (.tail _ (.tail _ hr))) (Jb (.tail _ (.head _))) zRb,rfl,rfl⟩
 have hl:¬ Jrc p t:=fun h=>absurd ((Z9d hx).2 h) zS;have ht:=Jsf hl;have hIs:=hK.is hx;have hS0:∀r∈S0 ++ R,InR r (V3a pm.arr :: (S0 ++ R)):=fun r hr=>Jb (.tail _ hr);apply (Jzg);refine V4 zA ?_;apply qbv∘qaa;refine Ju rfl (Y0d g p (⟨s,x.time,h,x.dropped,pm.arr,w,c,f,x.rest,pl.arr⟩:XSta) pl b10 t _ _ hI hIs (hK.site.mono hS0) zRb (hK.watches.mono hS0) (hK.cuts.mono hS0) (hK.feeder.mono hS0) hK.kl ht) rfl ?_;rintro v M U ⟨w2,c2,f2,q,S2,hqk,hS,⟨hw2,hc2,hf2⟩,rfl,rfl⟩;apply (qa4);have hI2:=hI.settle ht.1 ht.2;have h5:∀r∈V3a pm.arr :: (S0 ++ R),InR r (S2 ++ (V3a pm.arr :: (S0 ++ R))):=fun r hr=>Jb (yl _ hr);have h6:∀r∈S0 ++ R,InR r (S2 ++ (V3a pm.arr :: (S0 ++ R))):=fun r hr=>(hS0 r hr).mono h5;have hv2:StaV (⟨s,t,h,x.dropped,pm.arr,w2,c2,f2,(Ky g p t).rest,q.arr⟩:XSta) (S2 ++ (V3a pm.arr :: (S0 ++ R))):=StaV.of hI2 hS (hK.site.mono h6) (h5 _ (.head _));have hA2:AiryIs s.air.mine g.air:=SiteE.airy hS.site hI2.airy;refine Kg tb [0,1,2,3,4,6,7,8,9,10,5,11,12,13,14,15,16,17] _ Kn zf ye ?_;apply (qal);refine Kq zxb rfl rfl rfl ?_;apply (Xae);refine Kq zBb rfl rfl rfl ?_;apply (qal);refine Kq zZb rfl rfl rfl ?_;iterate 3 apply (qao)
 refine Vn rfl (Kbb (⟨s,t,h,x.dropped,pm.arr,w2,c2,f2,(Ky g p t).rest,q.arr⟩:XSta) g.air _ _ hv2 hA2) rfl rfl ?_;rintro v M U ⟨fl,rfl,hfl,rfl,rfl⟩;refine ⟨zk,zu,?_⟩;refine q_d rfl (Utf s c2 fl (Ky g p t).rest a z t _ _ ⟨(hK.site.mono h6).mono fun r hr=>Jb (.tail _ hr),hc2.mono fun r hr=>Jb (.tail _ hr),Jb (.head _)⟩) ?_;refine Kq zcc rfl rfl rfl ?_;refine Kq zkc rfl rfl rfl ?_;refine Kq zkc rfl rfl rfl ?_;apply (qbr);intro b11;apply qbg∘qcg;refine J9 (Ja (Ji (Ji ?_)));have hfe:fl.l=flP g (Ky g p t):=hfl.trans (StaIs.flows hS);have hce:c2.l=(Ky g p t).cuts:=hS.cuts;have hAE:askE s c2.l fl.l (Ky g p t).rest a z t=askE g.site (Ky g p t).cuts (flP g (Ky g p t)) (Ky g p t).rest a z t:=by rw [SiteE.askE hS.site,hce,hfe]
 have hAR:askR s c2.l fl.l (Ky g p t).rest a z t=askR g.site (Ky g p t).cuts (flP g (Ky g p t)) (Ky g p t).rest a z t:=by rw [SiteE.askR hS.site,hce,hfe]
 rw [hAE,hAR];obtain ⟨e,he⟩:∃e,e=askE g.site (Ky g p t).cuts (flP g (Ky g p t)) (Ky g p t).rest a z t:=⟨_,rfl⟩;rw [← he];have hqln:q.l.length≤400:=by have:=hI2.log;rw [← hS.log] at this;exact this
 apply Xb0∘Xaw;refine q_c ?_ ?_<;>intro hc1;·
  refine Ji ?_;refine Kpa (M:=⟨b10,(⟨s,t,h,x.dropped,pm.arr,w2,c2,f2,(Ky g p t).rest,q.arr⟩:XSta).cells,54⟩ :: (q.L 150 XEntry.cells ++ _)) zk zJb ?_;apply qay∘Xbu;refine Ju rfl (Y6a (⟨s,t,h,x.dropped,pm.arr,w2,c2,f2,(Ky g p t).rest,q.arr⟩:XSta) q b10 7 z e _ _ hqk hqln) rfl ?_;rintro v M U ⟨q2,hq2k,hq2l,rfl,rfl⟩;apply qa4∘Y4f;refine V4 zA ?_;refine Kpa (U:=((Uec q2.arr :: (S2 ++ (V3a pm.arr :: S0))) ++ R)) ye (fun r hr=>Jb (by
   rw [yA,yp,yA] at hr;rcases List.mem_cons.1 hr with h | h;·rw [h];exact .head _
   ·exact .tail _ (.tail _ h))) ?_
  have h3:∀r∈(S2 ++ (V3a pm.arr :: (S0 ++ R))),InR r ((Uec q2.arr :: (S2 ++ (V3a pm.arr :: S0))) ++ R):=fun r hr=>Jb zbb;have h4:∀r∈S0 ++ R,InR r ((Uec q2.arr :: (S2 ++ (V3a pm.arr :: S0))) ++ R):=fun r hr=>(h6 r hr).mono h3;apply qay∘Kme∘Xc6;refine q_r L ((Uec q2.arr :: (S2 ++ (V3a pm.arr :: S0))) ++ R) zCd ?_;have e1:U4e g p a z t=(Yda (Ky g p t) 7 z e,e):=by rw [U4e,if_neg hl];dsimp only;rw [← he,if_pos hc1]
  exact ⟨(⟨s,t,h,x.dropped,pm.arr,w2,c2,f2,(Ky g p t).rest,q2.arr⟩:XSta),Uec q2.arr :: (S2 ++ (V3a pm.arr :: S0)),by rw [e1],by rw [e1];exact hS.note hq2l,⟨hK.site.mono h4,hK.held.mono h4,(h5 _ (.head _)).mono h3,hw2.mono h3,hc2.mono h3,hf2.mono h3,Jb (.head _)⟩,rfl,rfl⟩
 apply (qbv);refine J0 zZb rfl ?_;apply (qab);refine Kta tb rfl rfl rfl rfl zD ze ze ze ?_;apply (qa4);refine Kpa (M:=⟨b10,(⟨s,t,h,x.dropped,pm.arr,w2,c2,f2,askR g.site (Ky g p t).cuts (flP g (Ky g p t)) (Ky g p t).rest a z t,q.arr⟩:XSta).cells,54⟩ :: (q.L 150 XEntry.cells ++ _)) zk zJb ?_;apply qay∘Xbu;refine Ju rfl (Y6a (⟨s,t,h,x.dropped,pm.arr,w2,c2,f2,askR g.site (Ky g p t).cuts (flP g (Ky g p t)) (Ky g p t).rest a z t,q.arr⟩:XSta) q b10 4 z a _ _ hqk hqln) rfl ?_;rintro v M U ⟨q2,hq2k,hq2l,rfl,rfl⟩;apply qa4∘Y4f;refine V4 zA ?_;refine Kpa (U:=((Uec q2.arr :: (S2 ++ (V3a pm.arr :: S0))) ++ R)) ye (fun r hr=>Jb (by
  rw [yA,yp,yA] at hr;rcases List.mem_cons.1 hr with h | h;·rw [h];exact .head _
  ·exact .tail _ (.tail _ h))) ?_
 have h3:∀r∈(S2 ++ (V3a pm.arr :: (S0 ++ R))),InR r ((Uec q2.arr :: (S2 ++ (V3a pm.arr :: S0))) ++ R):=fun r hr=>Jb zbb;have h4:∀r∈S0 ++ R,InR r ((Uec q2.arr :: (S2 ++ (V3a pm.arr :: S0))) ++ R):=fun r hr=>(h6 r hr).mono h3;apply qay∘Kme∘Xc7;refine q_r L ((Uec q2.arr :: (S2 ++ (V3a pm.arr :: S0))) ++ R) zCd ?_;have e1:U4e g p a z t=(Yda { (Ky g p t) with rest:=askR g.site (Ky g p t).cuts (flP g (Ky g p t)) (Ky g p t).rest a z t } 4 z a,0):=by rw [U4e,if_neg hl];dsimp only;rw [← he,if_neg hc1]
 have hS9:StaIs g { (Ky g p t) with rest:=askR g.site (Ky g p t).cuts (flP g (Ky g p t)) (Ky g p t).rest a z t } (⟨s,t,h,x.dropped,pm.arr,w2,c2,f2,askR g.site (Ky g p t).cuts (flP g (Ky g p t)) (Ky g p t).rest a z t,q.arr⟩:XSta):={ hS with rest:=rfl };exact ⟨(⟨s,t,h,x.dropped,pm.arr,w2,c2,f2,askR g.site (Ky g p t).cuts (flP g (Ky g p t)) (Ky g p t).rest a z t,q2.arr⟩:XSta),Uec q2.arr :: (S2 ++ (V3a pm.arr :: S0)),by rw [e1],by rw [e1];exact hS9.note hq2l,⟨hK.site.mono h4,hK.held.mono h4,(h5 _ (.head _)).mono h3,hw2.mono h3,hc2.mono h3,hf2.mono h3,Jb (.head _)⟩,rfl,rfl⟩
end
section
attribute [local irreducible] CJ LJ DJ Tri YV Gives U7 Kb Kp U8 RV Ke OwL.L
def staZ:XSta:=⟨⟨⟨⟨⟨none,0,[]⟩,⟨none,0,[]⟩⟩,⟨none,0,[]⟩,⟨none,0,[]⟩⟩,⟨none,0,[]⟩,⟨none,0,[]⟩,⟨none,0,[]⟩,⟨none,0,[]⟩⟩,0,⟨none,0,[]⟩,0,⟨none,0,[]⟩,⟨none,0,[]⟩,⟨none,0,[]⟩,⟨⟨none,0,[]⟩,⟨none,0,[]⟩,0⟩,⟨0,0,0,0,0⟩,⟨none,0,[]⟩⟩
structure FeedEq (f f':XFeeder):Prop where
 sw:f.switches.l=f'.switches.l
 zn:f.zones.l=f'.zones.l
 rp:f.reply=f'.reply
section
variable {s s':XSite} {f f':XFeeder} (h:SiteE s s') (k:FeedEq f f') (c:List XCut) (fl:List XSpan) (r:XRest) (t:Int)
include k in
include h k
end
end
section
section
variable {A B:Prop}
def Y5e(h:A→B:=by exact J0 zIc rfl):=h
def Uqe(h:B:=by exact ⟨staZ,Ktb,by rw [he];rfl,V8d R,fun h=>by omega,fun _=>rfl,rfl,rfl⟩):=h
def J1g(h:A→B:=by exact J0 zzb rfl):=h
end
def Jfa {α:Type} {P:Program} {n:Nat} {code:Code} {t:Nat→Value} {L:LB} {R:LS} {Q:K2} {f:α→List Value} {wd:Nat} (hf:∀x,(f x).length=wd) (hwd:0 < wd) (h:CJ P n code t L ((⟨none,0,[]⟩:Arr α).sl wd f [] :: R) Q):CJ P n code t L R Q:=
 Jae (T:=3) (p:=(OwL.nil:OwL α)) (f:=f) [] OwL.nil_ok hf hwd yg h
def Ktb:LS:=[psl ⟨none,0,[]⟩,rsl ⟨none,0,[]⟩,fsl ⟨none,0,[]⟩,dsl ⟨none,0,[]⟩,Urc ⟨none,0,[]⟩,Z9e ⟨none,0,[]⟩,Zld ⟨none,0,[]⟩,isl ⟨none,0,[]⟩,bsl ⟨none,0,[]⟩,V3a ⟨none,0,[]⟩,Zrc ⟨none,0,[]⟩,J6c ⟨none,0,[]⟩,Z4b ⟨none,0,[]⟩,Uec ⟨none,0,[]⟩]
def Kxe {P:Program} {n:Nat} {code:Code} {t:Nat→Value} {L:LB} {R:LS} {Q:K2} (h:CJ P n code t L (Ktb ++ R) Q):CJ P n code t L R Q:=by refine Jfa (f:=XEntry.cells) (wd:=4) yf zj ?_;refine Jfa (f:=XSwitch.cells) (wd:=5) yf zj ?_;refine Jfa (f:=XCut.cells) (wd:=3) yf zj ?_;refine Jfa (f:=XWatch.cells) (wd:=3) yf zj ?_;refine Jfa (f:=XMeas.cells) (wd:=4) yf zj ?_;refine Jfa (f:=Ude) (wd:=1) yf zj ?_;refine Jfa (f:=Jj) (wd:=1) yf zj ?_;refine Jfa (f:=XZone.cells) (wd:=4) yf zj ?_;refine Jfa (f:=XCond.cells) (wd:=6) yf zj ?_;refine Jfa (f:=XSens.cells) (wd:=8) yf zj ?_;refine Jfa (f:=XDoor.cells) (wd:=3) yf zj ?_;refine Jfa (f:=XFan.cells) (wd:=4) yf zj ?_;refine Jfa (f:=XRoad.cells) (wd:=10) yf zj ?_;refine Jfa (f:=XPlace.cells) (wd:=2) yf zj ?_;exact h
def V8d (R:LS):StaR staZ (Ktb ++ R):=by have m:∀s∈Ktb,InR s (Ktb ++ R):=fun s hs=>Jb (yr _ hs);refine ⟨⟨⟨m _ ?_,m _ ?_,m _ ?_,m _ ?_⟩,m _ ?_,m _ ?_,m _ ?_,m _ ?_⟩,m _ ?_,m _ ?_,m _ ?_,m _ ?_,⟨m _ ?_,m _ ?_⟩,m _ ?_⟩;all_goals simp [Ktb,staZ]
def Zxc (sw : List XSwitch) : Nat → List XSwitch
 | 0=>sw
 | k + 1=>Ye (Zxc sw k) (k:Int) 0
def Jlf (sw:List XSwitch):List XSwitch:=Zxc sw sw.length
def Ym (s:XSite) (f:XFeeder):Int:=
 if K7 s≠0 then K7 s else if feedE f.switches.l f.zones.l f.reply≠0 then feedE f.switches.l f.zones.l f.reply
 else if f.zones.l.length≠s.zones.l.length then 17 else if∃x∈f.switches.l,x.since≠0 then 8 else 0
def gOf (s:XSite) (f:XFeeder) (A:List Bool):PSite:=⟨s,f.zones.l,f.reply,A⟩
def Z5:XMeas:=⟨-1,0,⟨0,0⟩⟩
def Zhb (s:XSite) (f:XFeeder):PSta:=⟨0,[],0,List.replicate s.sensors.l.length Z5,List.replicate s.conds.l.length ⟨true,-1,0⟩,List.replicate s.zones.l.length ⟨true,-1,0⟩,Jlf f.switches.l,noRest,[]⟩
def Vna {sw : List XSwitch} {zn : List Int} {rp : Int} (h : feedE sw zn rp = 0) : ∀ k, SwKeep sw (Zxc sw k) 0
 | 0=>.refl h 0
 | k + 1=>(Vna h k).openS _
def K3f {s:XSite} {f:XFeeder} (h:Ym s f=0):K7 s=0∧feedE f.switches.l f.zones.l f.reply=0∧f.zones.l.length=s.zones.l.length∧∀x∈f.switches.l,x.since=0:=by
 rw [Ym] at h;split at h;·omega
 split at h;·omega
 split at h;·cases h
 split at h;·cases h
 rename_i h1 h2 h3 h4;exact ⟨Decidable.not_not.1 h1,Decidable.not_not.1 h2,Decidable.not_not.1 h3,fun x hx=>by
  rcases yec (x.since=0) with h5 | h5;·exact h5
  ·exact absurd ⟨x,hx,h5⟩ h4⟩
def Y0a {s:XSite} {f:XFeeder} {A:List Bool} (h:Ym s f=0) (hA:AiryIs s.air.mine A):Inv (gOf s f A) (Zhb s f):=by
 obtain ⟨h1,h2,h3,h4⟩:=K3f h;have hk:=Vna (rp:=f.reply) h2 f.switches.l.length;refine ⟨h1,hA,⟨yI _,by show (0:Int)≤2147483648;decide⟩,yaa,fun x hx=>?_,yaa,fun w hw=>?_,yaa,hk.feedE h2 ⟨yI _,by decide⟩,?_,h3,⟨by show (0:Int)≤0;decide,.inl rfl⟩,yma _,⟨fun x hx=>(by cases hx),yma _⟩⟩;·rw [List.eq_of_mem_replicate hx,Uua,Z5];dsimp only;omega
 ·rw [List.eq_of_mem_replicate hw];exact ⟨⟨by decide,by decide,by decide,.inl rfl⟩,yI _⟩
 ·exact (hk.time ⟨⟨yI _,by decide⟩,fun x hx=>by rw [h4 x hx];exact yI _⟩).2
attribute [local irreducible] CJ LJ DJ Tri YV Gives U7 Kb Kp U8 RV Ke OwL.L
def Vnd (s:XSite) (f:XFeeder) (A:List Bool) (L:LB) (R:LS):Zc:=fun v M U=>∃(y:XSta) (S:LS),v=.tuple #[y.val,.int .i64 (Ym s f)]∧StaR y U∧(Ym s f=0→StaIs (gOf s f A) (Zhb s f) y)∧(Ym s f≠0→y=staZ)∧L=M∧S ++ R=U
def Yeb (s:XSite) (f:XFeeder) (A:List Bool) (L:LB) (R:LS) (hs:SiteR s R) (hf:FeederR f R) (hA:AiryIs s.air.mine A):
 Tri Tryz.prog 16 [s.val,f.val].toArray L R (Vnd s f A L R):=by
 have hswR:=hf.sw.mono fun r hr=>Jb (yl Ktb hr);refine Jd 101 Tryz.call16 Tryz.func16 rfl rfl rfl ?_;apply (Xag);intro b2;apply (qax);intro b3;apply (qaq);intro b4;apply qad∘qco;refine Kxe ?_;have hR0:∀r∈R,InR r (Ktb ++ R):=fun r hr=>Jb (yl _ hr);have hs0:=hs.mono hR0;have hf0:=hf.mono hR0;apply (qay);refine J0 zxb rfl ?_;refine q_l rfl (Kka s _ _ hs0) ?_;apply (Xbj);refine q_c ?_ ?_<;>intro hc0;·
  apply qae∘Y5e∘Xc6;refine q_r L (Ktb ++ R) zCd ?_;have he:Ym s f=K7 s:=by rw [Ym,if_pos hc0]
  exact Uqe
 apply qbo∘J1g;refine q_l rfl (Jla f _ _ hf0) ?_;apply (Xbj);refine q_c ?_ ?_<;>intro hc1;·
  apply qae∘Y5e∘Xc6;refine q_r L (Ktb ++ R) zCd ?_;have he:Ym s f=feedE f.switches.l f.zones.l f.reply:=by rw [Ym,if_neg hc0,if_pos hc1]
  exact Uqe
 apply qbo∘Xe0∘Xaw;refine q_c ?_ ?_<;>intro hc2;·
  apply qae∘Y5e∘Xcb;refine q_r L (Ktb ++ R) zCd ?_;have he:Ym s f=17:=by rw [Ym,if_neg hc0,if_neg hc1,if_pos zc]
  exact Uqe
 have hse:K7 s=0:=Decidable.not_not.1 hc0;have hfe:feedE f.switches.l f.zones.l f.reply=0:=Decidable.not_not.1 hc1;have hfo:=Zo hfe;have hsn:=hfo.sn;have hzl:=hfo.zl;have hso:=(Ys hse).len;apply (Xd8);refine Jh [(2,.pointer _),(3,.pointer _),(4,.pointer _),(33,.slice _ _ _),(34,.int _ _),(35,.int _ _)] zg fun tq0=>?_;refine q_s ([5,9]++rg 35 9) (fun g:{k:Nat // k≤f.switches.l.length∧∀j:Nat,j < k→(f.switches.l.getD j default).since=0}=>[(35,.int .i64 ((g.1:Nat):Int))]) (fun g=>f.switches.l.length - g.1) (⟨0,by omega,fun j hj=>by omega⟩) ?_;rintro ⟨k,hk,hal⟩ junk;try dsimp only
 apply (Xay);refine q_c ?_ ?_<;>intro hc3;·
  have hg:=Js (l:=f.switches.l) (k:=k) default zc;apply (qbb);refine J0 zC rfl ?_;apply qdw∘qaq;intro b9;apply Xcv∘Xaw;refine q_c ?_ ?_<;>intro hc4;·apply qae∘Y5e∘qak∘Xet;refine q_r L (Ktb ++ R) zCd ?_;(have he:Ym s f=8:=by rw [Ym,if_neg hc0,if_neg hc1,if_neg zc,if_pos ⟨_,yi hg,hc4⟩]);exact Uqe
  apply (Xbk);exact uaw
 have hal2:∀x∈f.switches.l,x.since=0:=fun x hx=>by obtain ⟨j,hj,rfl⟩:=yGa hx;have:=hal j zc;rwa [yh,yx hj] at this
 have he:Ym s f=0:=by rw [Ym,if_neg hc0,if_neg hc1,if_neg zc,if_neg (fun ⟨x,hx,h⟩=>h (hal2 x hx))]
 have hn:∀q∈Ktb,InR q (Ktb ++ R):=fun q hq=>Jb (yr _ hq);have hN:StaN (⟨s,0,⟨none,0,[]⟩,0,⟨none,0,[]⟩,⟨none,0,[]⟩,⟨none,0,[]⟩,f,noRest,⟨none,0,[]⟩⟩:XSta):=⟨hse,yma _,yma _,yma _,yma _,(by show f.switches.l.length≤1000;omega),(by show f.zones.l.length≤1000;omega),yma _⟩;have hZ:=V8d R;have hXR:StaR (⟨s,0,⟨none,0,[]⟩,0,⟨none,0,[]⟩,⟨none,0,[]⟩,⟨none,0,[]⟩,f,noRest,⟨none,0,[]⟩⟩:XSta) (Ktb ++ R):=⟨hs0,hZ.held,hZ.meas,hZ.watches,hZ.cuts,hf0,hZ.log⟩;apply (qc3);refine Kg tb [0,1,2,3,4,5,6] _ Kn zf ye ?_;refine Kq zxb rfl rfl rfl ?_;refine Kq zzb rfl rfl rfl ?_;refine q_d rfl (V3d _ _) ?_;refine Kq zic rfl rfl rfl ?_;refine Vn rfl (Kgb (⟨s,0,⟨none,0,[]⟩,0,⟨none,0,[]⟩,⟨none,0,[]⟩,⟨none,0,[]⟩,f,noRest,⟨none,0,[]⟩⟩:XSta) _ _ hN hXR) rfl rfl ?_;rintro v M U ⟨s',h',f',pm,pw,pc,pl,S0,rfl,hK,rfl,rfl⟩;refine ⟨zk,zu,?_⟩;apply (qbr);intro b10;apply (qbg);refine J9 (Ja (Ji (Ji ?_)));obtain ⟨R1,hR1e⟩:∃R1,R1=S0 ++ (Ktb ++ R):=⟨_,rfl⟩;refine K4c zbd ?_;have hK1:StaKO (⟨s,0,⟨none,0,[]⟩,0,⟨none,0,[]⟩,⟨none,0,[]⟩,⟨none,0,[]⟩,f,noRest,⟨none,0,[]⟩⟩:XSta) s' h' f' pm pw pc pl R1:=by rw [hR1e];exact hK
 have hRR1:∀r∈R,InR r R1:=fun r hr=>Jb (by rw [hR1e];exact yl _ (yl _ hr));have hpm0:pm.l=[]:=hK.em;have hpw0:pw.l=[]:=hK.ew;have hpc0:pc.l=[]:=hK.ec;have hpl0:pl.l=[]:=hK.el;have hswn:f'.switches.l=f.switches.l:=hK.esw;apply qay∘Xbh;refine Jh [(2,.pointer _),(4,.pointer _),(10,.pointer _),(51,.int _ _),(52,.int _ _)] zg fun tq1=>?_;refine q_p ([11]++rg 52 12) ((⟨fun g=>[(52,.int .i64 ((g.1.1:Nat):Int))],fun g=>⟨b10,(⟨s',0,h',0,pm.arr,pw.arr,pc.arr,g.1.2.1,noRest,pl.arr⟩:XSta).cells,54⟩ :: (pl.L 150 XEntry.cells ++ (pc.L 71 XCut.cells ++ (pw.L 153 XWatch.cells ++ (pm.L 93 XMeas.cells ++ (⟨b4,staZ.cells,54⟩ :: ⟨b3,f.cells,42⟩ :: ⟨b2,s.cells,38⟩ :: L))))),fun g=>g.1.2.2,fun g=>f.switches.l.length - g.1.1⟩:Head {g:Nat×XFeeder×LS // g.1≤f.switches.l.length∧(g.2.1.switches.l=Zxc f.switches.l g.1∧g.2.1.zones.l=f.zones.l∧g.2.1.reply=f.reply)∧FeederR g.2.1 g.2.2∧∀r∈R1,InR r g.2.2})) (⟨(0,f',R1),by dsimp only;omega,⟨hK.esw,hK.ezn,hK.erp⟩,hK1.feeder,Jc _⟩) ?_;rintro ⟨⟨k1,f1,S1⟩,hk1,⟨hfs,hfz,hfr⟩,hf1,hext⟩ junk;try dsimp only
 dsimp only [XSta.cells];dsimp only at hk1 hfs hfz hfr hf1 hext;apply (Xay);refine q_c ?_ ?_<;>intro hc5;·
  have hkp:=Vna (rp:=f.reply) hfe k1;have hfe1:feedE f1.switches.l f1.zones.l f1.reply=0:=by rw [hfs,hfz,hfr];exact hkp.feedE hfe ⟨yI _,by decide⟩
  have hl1:f1.switches.l.length=f.switches.l.length:=by rw [hfs];exact hkp.len
  have hto1:Kma f1.switches.l 0:=by rw [hfs];exact hkp.time ⟨⟨yI _,by decide⟩,fun x hx=>by rw [hal2 x hx];exact yI _⟩
  have hcan:Z1b f1.switches.l f1.zones.l f1.reply (k1:Int) 0=0:=by rw [Z1b,if_neg (by rw [hfe1];decide),if_neg zc,if_pos hto1]
  apply Xbv∘qad;refine J6 (Ja (Je ?_));apply qab∘J1g∘qaa;refine Ju rfl (Utb f1 (k1:Int) 0 _ _ hf1) rfl ?_;rintro v M U ⟨pp,qq,rp,rfl,⟨hppk,hqqk⟩,hop,rfl,rfl⟩;refine J0 zcc rfl ?_;apply Xbq∘qab;refine Kta tb rfl rfl rfl rfl zD ze ze ze ?_;refine J6 (Jg (Ja ?_));obtain ⟨hppl,hqql,rfl⟩:=hop hcan;refine Kt (T:=3) (f:=Jj) (wd:=1) qq [] zm yf zj hqqk yg ?_;refine V4 zA ?_;refine Kt (T:=76) (f:=XSwitch.cells) (wd:=5) pp [] zm yf zj hppk yg ?_;refine V4 zA ?_;exact (qay∘Xan) zfe
 obtain rfl:k1=f.switches.l.length:=by omega
 apply qcf∘Xbh;refine Jh [(2,.pointer _),(4,.pointer _),(10,.pointer _),(66,.int _ _),(67,.int _ _)] zg fun tq2=>?_;refine q_p (rg 67 9) ((⟨fun g=>[(67,.int .i64 ((g.1.1:Nat):Int))],fun g=>⟨b10,(⟨s',0,h',0,g.1.2.arr,pw.arr,pc.arr,f1,noRest,pl.arr⟩:XSta).cells,54⟩ :: (pl.L 150 XEntry.cells ++ (pc.L 71 XCut.cells ++ (pw.L 153 XWatch.cells ++ (g.1.2.L 93 XMeas.cells ++ (⟨b4,staZ.cells,54⟩ :: ⟨b3,f.cells,42⟩ :: ⟨b2,s.cells,38⟩ :: L))))),fun _=>S1,fun g=>s.sensors.l.length - g.1.1⟩:Head {g:Nat×OwL XMeas // g.1≤s.sensors.l.length∧g.2.ok 4 XMeas.cells∧g.2.l=List.replicate g.1 Z5})) (⟨(0,pm),by dsimp only;omega,hK.km,hpm0⟩) ?_;rintro ⟨⟨k2,pm2⟩,hk2,hm2k,hm2⟩ junk;try dsimp only
 dsimp only [XSta.cells];dsimp only at hk2 hm2k hm2;have hm2n:pm2.l.length=k2:=by rw [hm2,yaa]
 apply (Xay);refine q_c ?_ ?_<;>intro hc6;·refine Jt (Ja (Ji (Jy (Je ?_))));apply (Xaa);refine J0 zmc rfl ?_;refine Y6 zDb rfl ?_;rintro v M U ⟨b72,rfl,rfl,hR72⟩;replace hR72:=hR72.symm;subst hR72;refine Y6 zvd rfl ?_;rintro v M U ⟨o73,rfl,hok73,rfl,rfl⟩;apply Xbo∘Xb1;exact q_k ⟨(k2 + 1,⟨o73,pm2.l ++ [Z5]⟩),by dsimp only;omega,hok73,by dsimp only;rw [hm2,yza]⟩
 obtain rfl:k2=s.sensors.l.length:=by omega
 apply qcf∘Xbh;refine Jh [(2,.pointer _),(4,.pointer _),(10,.pointer _),(78,.int _ _),(79,.int _ _)] zg fun tq3=>?_;refine q_p (rg 79 9) ((⟨fun g=>[(79,.int .i64 ((g.1.1:Nat):Int))],fun g=>⟨b10,(⟨s',0,h',0,pm2.arr,g.1.2.arr,pc.arr,f1,noRest,pl.arr⟩:XSta).cells,54⟩ :: (pl.L 150 XEntry.cells ++ (pc.L 71 XCut.cells ++ (g.1.2.L 153 XWatch.cells ++ (pm2.L 93 XMeas.cells ++ (⟨b4,staZ.cells,54⟩ :: ⟨b3,f.cells,42⟩ :: ⟨b2,s.cells,38⟩ :: L))))),fun _=>S1,fun g=>s.conds.l.length - g.1.1⟩:Head {g:Nat×OwL XWatch // g.1≤s.conds.l.length∧g.2.ok 3 XWatch.cells∧g.2.l=List.replicate g.1 (⟨true,-1,0⟩:XWatch)})) (⟨(0,pw),by dsimp only;omega,hK.kw,hpw0⟩) ?_;rintro ⟨⟨k3,pw2⟩,hk3,hw2k,hw2⟩ junk;try dsimp only
 dsimp only [XSta.cells];dsimp only at hk3 hw2k hw2;have hw2n:pw2.l.length=k3:=by rw [hw2,yaa]
 apply (Xay);refine q_c ?_ ?_<;>intro hc7;·refine Jt (Ja (Ji (Jy ?_)));refine Kh tb [] [0,1,2,3] [4,5,6] (_) _ Kn zf zk yd ?_;apply (Xah);refine Kv rfl (Jee _ _) rfl rfl ?_;rintro v M U ⟨rfl,rfl,rfl⟩;refine ⟨zk,zu,?_⟩;refine Keb zEb rfl rfl rfl ?_;rintro v M U ⟨b84,rfl,rfl,hR84⟩;replace hR84:=hR84.symm;subst hR84;apply (Xb3);refine V7a ztd rfl rfl rfl ?_;rintro v M U ⟨o85,rfl,hok85,rfl,rfl⟩;apply Xdb∘Xer;exact q_k ⟨(k3 + 1,⟨o85,pw2.l ++ [⟨true,-1,0⟩]⟩),by dsimp only;omega,hok85,by dsimp only;rw [hw2,yza]⟩
 obtain rfl:k3=s.conds.l.length:=by omega
 apply qcf∘Xbh;refine Jh [(4,.pointer _),(10,.pointer _),(90,.int _ _),(91,.int _ _)] zg fun tq4=>?_;refine q_p (rg 91 9) ((⟨fun g=>[(91,.int .i64 ((g.1.1:Nat):Int))],fun g=>⟨b10,(⟨s',0,h',0,pm2.arr,pw2.arr,g.1.2.arr,f1,noRest,pl.arr⟩:XSta).cells,54⟩ :: (pl.L 150 XEntry.cells ++ (g.1.2.L 71 XCut.cells ++ (pw2.L 153 XWatch.cells ++ (pm2.L 93 XMeas.cells ++ (⟨b4,staZ.cells,54⟩ :: ⟨b3,f.cells,42⟩ :: ⟨b2,s.cells,38⟩ :: L))))),fun _=>S1,fun g=>s.zones.l.length - g.1.1⟩:Head {g:Nat×OwL XCut // g.1≤s.zones.l.length∧g.2.ok 3 XCut.cells∧g.2.l=List.replicate g.1 (⟨true,-1,0⟩:XCut)})) (⟨(0,pc),by dsimp only;omega,hK.kc,hpc0⟩) ?_;rintro ⟨⟨k4,pc2⟩,hk4,hc2k,hc2⟩ junk;try dsimp only
 dsimp only [XSta.cells];dsimp only at hk4 hc2k hc2;have hc2n:pc2.l.length=k4:=by rw [hc2,yaa]
 apply (Xay);refine q_c ?_ ?_<;>intro hc8;·refine Jt (Ja (Ji (Jy (Je ?_))));apply (Xaa);refine J0 zNb rfl ?_;refine Y6 zEb rfl ?_;rintro v M U ⟨b96,rfl,rfl,hR96⟩;replace hR96:=hR96.symm;subst hR96;refine Y6 zud rfl ?_;rintro v M U ⟨o97,rfl,hok97,rfl,rfl⟩;apply Xbo∘Xb1;exact q_k ⟨(k4 + 1,⟨o97,pc2.l ++ [⟨true,-1,0⟩]⟩),by dsimp only;omega,hok97,by dsimp only;rw [hc2,yza]⟩
 obtain rfl:k4=s.zones.l.length:=by omega
 refine Kt (T:=93) (f:=XMeas.cells) (wd:=4) pm2 [] zm yf zj hm2k yg ?_;refine V4 zA ?_;refine Kt (T:=153) (f:=XWatch.cells) (wd:=3) pw2 [] zm yf zj hw2k yg ?_;refine V4 zA ?_;refine Kt (T:=71) (f:=XCut.cells) (wd:=3) pc2 [] zm yf zj hc2k yg ?_;refine V4 zA ?_;refine Kt (T:=150) (f:=XEntry.cells) (wd:=4) pl [] zm yf zj hK.kl yg ?_;refine V4 zA ?_;obtain ⟨R2,hR2e⟩:∃R2,R2=Uec pl.arr :: J6c pc2.arr :: Zrc pw2.arr :: V3a pm2.arr :: S1:=⟨_,rfl⟩;refine K4c zcd ?_;have h12:∀r∈S1,InR r (R2 ++ R):=fun r hr=>Jb (by rw [hR2e];exact .tail _ (.tail _ (.tail _ (.tail _ (yr _ hr)))));have h02:∀r∈R1,InR r (R2 ++ R):=fun r hr=>(hext r hr).mono h12;have hRR2:∀r∈R,InR r R2:=fun r hr=>((hRR1 r hr).mono hext).mono fun r hr=>Jb (by rw [hR2e];exact .tail _ (.tail _ (.tail _ (.tail _ hr))));have e1:InR (Uec pl.arr) (R2 ++ R):=Jb zoa;have e2:InR (J6c pc2.arr) (R2 ++ R):=Jb zka;have e3:InR (Zrc pw2.arr) (R2 ++ R):=Jb zAa;have e4:InR (V3a pm2.arr) (R2 ++ R):=Jb (by rw [hR2e];exact .tail _ (.tail _ (.tail _ (.head _))));apply (qbk);refine J0 zBb rfl ?_;apply (Xc7);refine Ku (M:=L) (U:=R2 ++ R) zCd ?hp ?hL ?hR;case hp=>exact ⟨(⟨s',0,h',0,pm2.arr,pw2.arr,pc2.arr,f1,noRest,pl.arr⟩:XSta),R2,by rw [he],⟨hK1.site.mono h02,hK1.held.mono h02,e4,e3,e2,hf1.mono h12,e1⟩,fun _=>⟨hK.es,rfl,hK.eh,rfl,hm2,hw2,hc2,hfs,hfz,hfr,rfl,hpl0⟩,fun h=>absurd he h,rfl,rfl⟩
 case hL=>exact zk
 case hR=>exact ubw
end
section
section
variable {g:PSite} {p:PSta}
def Zpf (p:PSta):Prop:=∀c∈p.cuts,c.off=true
def U0e {l:List XCut} (h:∀c∈l,c.off=true) {i:Nat} (hi:i < l.length):(l.getD i default).off=true:=h _ (yi (Js (l:=l) (k:=i) default hi))
def U7d (vals : List Int) (h : Zpf p) : ∀ k, k ≤ p.cuts.length → darkTo g vals p k = p
 | 0,_=>rfl
 | k + 1,hk=>by
  rw [darkTo,U7d vals h k zc,U4b,if_pos (.inl (U0e h zc))]
end
end
section
section
variable {a:XAir} {s:XSetting} {x:XState} (h:MadeA a s x)
include h
end
section
variable {a:XAir} {s:XSetting} {x:XState} (h:MadeA a s x)
include h
end
end
end Go.Proofs.YtchfclmokpbldaaGreat
