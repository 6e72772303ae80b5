/-
  Stations: closing, and when one is due, the program's side. By an AI agent; no person has read it.
-/
import Derived.Test.YtchfclmokpbldaaGreatStaF
set_option linter.all false
set_option maxHeartbeats 4000000
namespace Go.Proofs.YtchfclmokpbldaaGreat
open Go.Aw Go
set_option maxRecDepth 20000
attribute [local irreducible] CJ LJ DJ Tri YV Gives Uq J2 Km Ur RV J4 OwL.L
section
variable {A B:Prop}
def Uae(h:A→B:=by exact Jy ztb rfl):=h
def Vrg(h:A→B:=by exact Kk (T:=93) (f:=XMeas.cells) (wd:=4) pm [] zj yf ze hK.km yg):=h
def Uig(h:A→B:=by exact K0 zrb rfl rfl rfl):=h
def Veg(h:A→B:=by exact Kk (T:=150) (f:=XEntry.cells) (wd:=4) q2 [] zj yf ze hq2k yg):=h
def Jbg(h:A→B:=by exact Jy zrb rfl):=h
def J7g(h:A→B:=by exact J6b rfl rfl rfl rfl zB zb zb zb zg):=h
end
structure FeedEq (f f':XFeeder):Prop where
 sw:f.switches.l=f'.switches.l
 zn:f.zones.l=f'.zones.l
 rp:f.reply=f'.reply
section
variable {s s':XSite} {f f':XFeeder} (h:SiteE s s') (k:FeedEq f f') (c:List XCut) (fl:List XSpan) (r:XRest) (t:Int)
include k in
def K1c (z:Int):atR f z=atR f' z:=by rw [atR,atR,k.sw,k.zn,k.rp]
include h k
def Jzf:Jva s c fl r f t=Jva s' c fl r f' t:=by simp only [Jva,SiteE.sharedE h,SiteE.readyE h,SiteE.nzones h,k.sw,k.zn,k.rp,K1c k]
def Zoa:Vs s c fl r f t=Vs s' c fl r f' t:=by simp only [Vs,Jzf h k,k.sw,k.zn,k.rp,K1c k]
def J5e:Uia s c fl r f t=Uia s' c fl r f' t:=by simp only [Uia,Zoa h k,Zde,k.zn,K1c k]
def Kme:Kna s c fl r f t=Kna s' c fl r f' t:=by simp only [Kna,Zoa h k,Zde,k.zn,K1c k]
def V0d:Zz s c fl r f t=Zz s' c fl r f' t:=by simp only [Zz,Zoa h k,k.sw,K1c k]
end
def Z9c (g:PSite) (p:PSta) (x:XSta) (t:Int) (L:LB) (R:LS) (hI:Inv g p) (hx:StaIs g p x) (hR:StaR x R):
 Tri Tryz.prog 23 [x.val,.int .i64 t].toArray L R (Zla g (U4a g p t) L R):=by
 refine Jd 67 Tryz.call23 Tryz.func23 rfl rfl rfl ?_;apply (Xaf);intro b2;apply (qaq);intro b4;apply Xag∘Uae;refine Jo rfl zkc rfl ?_;rintro v M U ⟨s,h,w,c,f,pm,pl,S0,rfl,hK,rfl,rfl⟩;apply (qaq);intro b6;apply Xbc∘Uae∘qaa;refine q_l rfl (J0a x t _ _) ?_;apply (qaf);refine q_c ?_ ?_<;>intro hc0;·refine Jp ?_;apply (Vrg);refine U0 zt ?_;refine Kk (T:=150) (f:=XEntry.cells) (wd:=4) pl [] zj yf ze hK.kl yg ?_;refine U0 zt ?_;apply qay∘Uae∘Xa3;refine q_r L ((Jda pl.arr :: Ya pm.arr :: S0) ++ R) zgd ?_;have hl:Zu p t:=(Koa hx).1 zE;exact ⟨(⟨s,x.time,h,x.dropped,pm.arr,w,c,f,x.rest,pl.arr⟩:XSta),Jda pl.arr :: Ya pm.arr :: S0,by rw [U4a,if_pos hl],by rw [U4a,if_pos hl];exact hK.is hx,hK.fin (fun r hr=>Ja (.tail _ (.tail _ hr))) zZb zCb,rfl,rfl⟩
 have hl:¬ Zu p t:=fun h=>absurd ((Koa hx).2 h) zE;have ht:=Yw hl;have hIs:=hK.is hx;have hS0:∀r∈S0 ++ R,InR r (Ya pm.arr :: (S0 ++ R)):=fun r hr=>Ja (.tail _ hr);apply (Vrg);refine U0 zt ?_;apply (Xc6);refine Jo rfl zVc rfl ?_;rintro v M U ⟨w2,c2,f2,q,S2,hqk,hS,⟨hw2,hc2,hf2⟩,rfl,rfl⟩;apply (qa4);have hI2:=hI.settle ht.1 ht.2;have h5:∀r∈Ya pm.arr :: (S0 ++ R),InR r (S2 ++ (Ya pm.arr :: (S0 ++ R))):=fun r hr=>Ja (yk _ hr);have h6:∀r∈S0 ++ R,InR r (S2 ++ (Ya pm.arr :: (S0 ++ R))):=fun r hr=>(hS0 r hr).mono h5;have hv2:StaV (⟨s,t,h,x.dropped,pm.arr,w2,c2,f2,(Ji g p t).rest,q.arr⟩:XSta) (S2 ++ (Ya pm.arr :: (S0 ++ R))):=StaV.of hI2 hS (hK.site.mono h6) (h5 _ (.head _));have hA2:AiryIs s.air.mine g.air:=SiteE.airy hS.site hI2.airy;have hce:c2.l=(Ji g p t).cuts:=hS.cuts;have hfq:FeedEq f2 (mkF g (Ji g p t)):=⟨hS.sw,hS.zn,hS.rp⟩;have hsz:=hI2.sok.len;have hfo:=hI2.fok;have hn1:c2.l.length≤1000:=by rw [hce,hI2.clen];omega
 have hn2:f2.switches.l.length≤1000:=by rw [hfq.sw];exact yna hfo.sn ze
 have hn3:f2.zones.l.length≤1000:=by rw [hfq.zn];exact yna hfo.zl ze
 apply qay∘Xdv∘Xcb;refine Kh tb [0,1,2,3,4,6,7,8,9,10,5,11,12,13,14,15,16,17,18,19,20,21,22] _ Kr zc ye ?_;apply (qal);refine K0 zvb rfl rfl rfl ?_;apply (Xak);refine K0 ztb rfl rfl rfl ?_;apply (qal);refine K0 zzb rfl rfl rfl ?_;apply qal∘Uig∘qao;refine Yn rfl ztc rfl rfl ?_;rintro v M U ⟨fl,rfl,hfl,rfl,rfl⟩;refine ⟨zg,zq,?_⟩;refine Yn rfl (Vye s c2 fl (Ji g p t).rest f2 t _ _ ⟨(hK.site.mono h6).mono fun r hr=>Ja (.tail _ hr),hc2.mono fun r hr=>Ja (.tail _ hr),Ja (.head _)⟩ (hf2.mono fun r hr=>Ja (.tail _ hr)) ⟨hn1,hn2,hn3⟩) rfl rfl ?_;rintro v M U ⟨rq,pc,psw,pz,rp,rfl,⟨hpck,hpswk,hpzk⟩,hCI,rfl,hRC⟩;refine ⟨zg,zq,?_⟩;refine K0 zPb rfl rfl rfl ?_;iterate 4 refine K0 zbc rfl rfl rfl ?_
 apply (qbr);intro b8;apply (qbr);intro b10;apply (qbg);refine K0 (Ud zob) rfl rfl rfl ?_;apply (Xdp);refine J1 (Jb (Jp (Jp ?_)));have hfe:fl.l=flP g (Ji g p t):=hfl.trans (StaIs.flows hS);have hcE:Vs s c2.l fl.l (Ji g p t).rest f2 t=Vs g.site (Ji g p t).cuts (flP g (Ji g p t)) (Ji g p t).rest (mkF g (Ji g p t)) t:=by rw [Zoa hS.site hfq,hce,hfe]
 have hcR:rq=Uia g.site (Ji g p t).cuts (flP g (Ji g p t)) (Ji g p t).rest (mkF g (Ji g p t)) t:=by rw [hCI.rest,J5e hS.site hfq,hce,hfe]
 have hcC:pc.l=Kna g.site (Ji g p t).cuts (flP g (Ji g p t)) (Ji g p t).rest (mkF g (Ji g p t)) t:=by rw [hCI.cuts,Kme hS.site hfq,hce,hfe]
 have hcS:psw.l=Zz g.site (Ji g p t).cuts (flP g (Ji g p t)) (Ji g p t).rest (mkF g (Ji g p t)) t:=by rw [hCI.sw,V0d hS.site hfq,hce,hfe]
 have hcZ:pz.l=g.zn:=hCI.zn.trans hfq.zn;have hcP:rp=g.rp:=hCI.rp.trans hfq.rp;rw [hcE];obtain ⟨e,he⟩:∃e,e=Vs g.site (Ji g p t).cuts (flP g (Ji g p t)) (Ji g p t).rest (mkF g (Ji g p t)) t:=⟨_,rfl⟩;rw [← he] at hcE ⊢;have hqln:q.l.length≤400:=by have:=hI2.log;rw [← hS.log] at this;exact this
 refine Kk (T:=3) (f:=Jk) (wd:=1) pz [] zj yf ze hpzk yg ?_;refine U0 zt ?_;refine Kk (T:=76) (f:=XSwitch.cells) (wd:=5) psw [] zj yf ze hpswk yg ?_;refine U0 zt ?_;refine Kk (T:=71) (f:=XCut.cells) (wd:=3) pc [] zj yf ze hpck yg ?_;refine U0 zt ?_;obtain ⟨R3,hR3e⟩:∃R3,R3=Uyc pc.arr :: Jdc psw.arr :: isl pz.arr :: U:=⟨_,rfl⟩;have hR13:∀r∈(S2 ++ (Ya pm.arr :: (S0 ++ R))),InR r R3:=fun r hr=>(hRC r (.tail _ hr)).mono fun r hr=>Ja (by rw [hR3e];exact .tail _ (.tail _ (.tail _ hr)));have hpcR:InR (Uyc pc.arr) R3:=Ja zta;have hpfR:FeederR ⟨psw.arr,pz.arr,rp⟩ R3:=⟨Ja (by rw [hR3e];exact .tail _ (.head _)),Ja (by rw [hR3e];exact .tail _ (.tail _ (.head _)))⟩;have hR03:∀r∈S0 ++ R,InR r R3:=fun r hr=>(h6 r hr).mono hR13;refine Ubb (show _=R3 by rw [hR3e]) ?_;apply Xa9∘Xat;refine q_c ?_ ?_<;>intro hc1;·
  refine Jp ?_;refine Vg (M:=⟨b6,(⟨s,t,h,x.dropped,pm.arr,w2,c2,f2,(Ji g p t).rest,q.arr⟩:XSta).cells,54⟩ :: (q.L 150 XEntry.cells ++ _)) zg zBb ?_;apply Xa9∘qaa;refine Jo rfl (J8a (⟨s,t,h,x.dropped,pm.arr,w2,c2,f2,(Ji g p t).rest,q.arr⟩:XSta) q b6 7 (Ji g p t).rest.zone e _ _ hqk hqln) rfl ?_;rintro v M U ⟨q2,hq2k,hq2l,rfl,rfl⟩;apply qa4∘Veg;refine U0 zt ?_;have h3:∀r∈(S2 ++ (Ya pm.arr :: (S0 ++ R))),InR r ((Jda q2.arr :: R3) ++ R):=fun r hr=>(hR13 r hr).mono fun r hr=>Ja (.tail _ (yp _ hr));have h4:∀r∈S0 ++ R,InR r ((Jda q2.arr :: R3) ++ R):=fun r hr=>(h6 r hr).mono h3;apply qay∘Uae∘Xci;refine Kv (M:=L) (U:=(Jda q2.arr :: R3) ++ R) zgd ?hp ?hL ?hR;case hp=>(have e1:U4a g p t=(Zh (Ji g p t) 7 (Ji g p t).rest.zone e,e):=by rw [U4a,if_neg hl];dsimp only;rw [← he,if_pos hc1]);exact ⟨(⟨s,t,h,x.dropped,pm.arr,w2,c2,f2,(Ji g p t).rest,q2.arr⟩:XSta),Jda q2.arr :: R3,by rw [e1],by rw [e1];exact hS.note hq2l,⟨hK.site.mono h4,hK.held.mono h4,(h5 _ (.head _)).mono h3,hw2.mono h3,hc2.mono h3,hf2.mono h3,Ja (.head _)⟩,rfl,rfl⟩
  case hL=>exact zg
  case hR=>
   exact fun r hr=>by
    rcases List.mem_append.1 hr with h | h;·exact Ja h
    ·exact (hR03 r (yk _ h)).mono fun r hr=>Ja (.tail _ hr)
 have he0:e=0:=Decidable.not_not.1 hc1;have hcan:Jva s c2.l fl.l (Ji g p t).rest f2 t=0:=by
  have h9:Vs s c2.l fl.l (Ji g p t).rest f2 t=0:=hcE.trans he0;rw [Vs] at h9;split at h9;·omega
  ·rename_i h8;exact Decidable.not_not.1 h8
 obtain ⟨hz1,hz2,hz3⟩:=V1d hcan;apply qbv∘Xaa∘qab∘Jbg∘qaa;refine Jo rfl (Ytd c2 f2 (Ji g p t).rest.zone _ _ (hc2.mono hR13) (hf2.mono hR13) hz3 za hz2) rfl ?_;rintro v M U ⟨rfl,rfl,hRN⟩;obtain ⟨R4,hR4⟩:∃R4,R4=U:=⟨_,rfl⟩;rw [← hR4] at hRN ⊢;refine Jy zPb rfl ?_;apply Xa6∘Xbw∘qa4;refine J5 tb [59,60] [0,1,2] [3,4,5,6,7,8] (_) _ Kr zc zg (by (repeat (first | apply List.Sublist.cons (a:=Blk.mk b6 _ _) | apply List.Sublist.cons_cons));exact yv _) ?_;refine Kp zzb rfl rfl rfl rfl ?_;refine Vf zdd rfl rfl rfl rfl ?_;refine Vf zrb rfl rfl rfl rfl ?_;apply qba∘qal∘J7g∘Xbu∘qal∘J7g∘qb9;have hat:atR f2 (Ji g p t).rest.zone=atR (mkF g (Ji g p t)) (Ji g p t).rest.zone:=K1c hfq _;refine Vg (M:=⟨b6,(⟨s,t,h,x.dropped,pm.arr,w2,pc.arr,⟨psw.arr,pz.arr,rp⟩,rq,q.arr⟩:XSta).cells,54⟩ :: (q.L 150 XEntry.cells ++ _)) zg zBb ?_;apply (Xa9);refine Jo rfl (J8a (⟨s,t,h,x.dropped,pm.arr,w2,pc.arr,⟨psw.arr,pz.arr,rp⟩,rq,q.arr⟩:XSta) q b6 6 (atR f2 (Ji g p t).rest.zone) 0 _ _ hqk hqln) rfl ?_;rintro v M U ⟨q2,hq2k,hq2l,rfl,rfl⟩;apply qa4∘Veg;refine U0 zt ?_;obtain ⟨R5,hR5e⟩:∃R5,R5=Jda q2.arr :: R4:=⟨_,rfl⟩;refine Ubb (show _=R5 by rw [hR5e]) ?_;have hq2R:InR (Jda q2.arr) (R5 ++ R):=Ja (by rw [hR5e];exact .head _);have h45:∀r∈R4,InR r (R5 ++ R):=fun r hr=>Ja (by rw [hR5e];exact .tail _ (yp _ hr));have h35:∀r∈R3,InR r (R5 ++ R):=fun r hr=>(hRN r hr).mono h45;have h15:∀r∈(S2 ++ (Ya pm.arr :: (S0 ++ R))),InR r (R5 ++ R):=fun r hr=>(hR13 r hr).mono h35;have h4:∀r∈S0 ++ R,InR r (R5 ++ R):=fun r hr=>(hR03 r hr).mono h35;have hRR:∀r∈R,InR r R5:=fun r hr=>((hR03 r (yk _ hr)).mono hRN).mono fun r hr=>Ja (by rw [hR5e];exact .tail _ hr);apply qay∘Uae∘Xb0;refine Kv (M:=L) (U:=R5 ++ R) zgd ?hp ?hL ?hR;case hp=>
  have e1:U4a g p t=(Zh { (Ji g p t) with rest:=Uia g.site (Ji g p t).cuts (flP g (Ji g p t)) (Ji g p t).rest (mkF g (Ji g p t)) t,cuts:=Kna g.site (Ji g p t).cuts (flP g (Ji g p t)) (Ji g p t).rest (mkF g (Ji g p t)) t,sw:=Zz g.site (Ji g p t).cuts (flP g (Ji g p t)) (Ji g p t).rest (mkF g (Ji g p t)) t } 6 (atR (mkF g (Ji g p t)) (Ji g p t).rest.zone) 0,0):=by rw [U4a,if_neg hl];dsimp only;rw [← he,if_neg hc1]
  have hS9:StaIs g { (Ji g p t) with rest:=Uia g.site (Ji g p t).cuts (flP g (Ji g p t)) (Ji g p t).rest (mkF g (Ji g p t)) t,cuts:=Kna g.site (Ji g p t).cuts (flP g (Ji g p t)) (Ji g p t).rest (mkF g (Ji g p t)) t,sw:=Zz g.site (Ji g p t).cuts (flP g (Ji g p t)) (Ji g p t).rest (mkF g (Ji g p t)) t } (⟨s,t,h,x.dropped,pm.arr,w2,pc.arr,⟨psw.arr,pz.arr,rp⟩,rq,q.arr⟩:XSta):={ hS with rest:=hcR,cuts:=hcC,sw:=hcS,zn:=hcZ,rp:=hcP };rw [hat] at hq2l;exact ⟨(⟨s,t,h,x.dropped,pm.arr,w2,pc.arr,⟨psw.arr,pz.arr,rp⟩,rq,q2.arr⟩:XSta),R5,by rw [e1],by rw [e1];exact hS9.note hq2l,⟨hK.site.mono h4,hK.held.mono h4,(h5 _ (.head _)).mono h15,hw2.mono h15,hpcR.mono h35,hpfR.mono h35,hq2R⟩,rfl,rfl⟩
 case hL=>exact zg
 case hR=>
  exact fun r hr=>by
   rcases List.mem_append.1 hr with h | h;·exact Ja h
   ·exact hRR r h
def Ulb (g:PSite) (p:PSta) (k:Nat):Bool:=(List.range k).any fun i=>decide (Y2 g.site.sensors.l p.meas (i:Int) p.time≠nothingS)
def Vdb (g:PSite) (p:PSta) (k:Nat):Ulb g p (k + 1)=(Ulb g p k || decide (Y2 g.site.sensors.l p.meas (k:Int) p.time≠nothingS)):=by rw [Ulb,ykb,List.any_append];simp [Ulb]
def Vze (g:PSite) (p:PSta) (d:Int) (k:Nat):Int:=if Ulb g p k=true then min d p.time else d
def Jtf {g:PSite} {p:PSta} {d:Int} {k:Nat} (h:Y2 g.site.sensors.l p.meas (k:Int) p.time≠nothingS):Vze g p d (k + 1)=min (Vze g p d k) p.time:=by rw [Vze,Vze,Vdb,decide_eq_true h,yac,if_pos rfl];split <;> omega
def Vxf {g:PSite} {p:PSta} {d:Int} {k:Nat} (h:Y2 g.site.sensors.l p.meas (k:Int) p.time=nothingS):Vze g p d (k + 1)=Vze g p d k:=by rw [Vze,Vze,Vdb,decide_eq_false (fun h2=>h2 h),Bool.or_false]
def Zsd (g0:PSite) (p:PSta) (x:XSta) (L:LB) (R:LS) (hI:Inv g0 p) (hx:StaIs g0 p x) (hR:StaR x R):
 Tri Tryz.prog 37 [x.val].toArray L R (fun v M U=>v=.int .i64 (K6g g0 p)∧L=M∧R=U):=by
 have hln:=hI.sok.len;have hcl:x.site.conds.l=g0.site.conds.l:=SiteE.conds hx.site;have hsl:x.site.sensors.l=g0.site.sensors.l:=SiteE.sens hx.site;have hwl:x.watches.l=p.watches:=hx.watches;have hml:x.meas.l=p.meas:=hx.meas;have htm:x.time=p.time:=hx.time;have hpt:=hI.time;have hwn:x.watches.l.length=g0.site.conds.l.length:=by rw [hwl];exact hI.wlen
 have hcln:x.site.conds.l.length=g0.site.conds.l.length:=by rw [hcl]
 have hsln:x.site.sensors.l.length=g0.site.sensors.l.length:=by rw [hsl]
 have hcR:=hR.site.conds;have hwR:=hR.watches;have hmok:∀m∈x.meas.l,Uaa m:=by rw [hml];exact hI.mok
 have hdu:Ybf x.feeder.switches.l x.feeder.zones.l x.feeder.reply=(Zxc p.sw g0.rp):=by rw [hx.sw,hx.zn,hx.rp,Ybf,if_neg (by rw [hI.fe];decide)]
 refine Jd 70 Tryz.call37 Tryz.func37 rfl rfl rfl ?_;apply (Xaf);intro b1;apply Xag∘qab∘Jbg;refine q_l rfl (Jrc x.feeder _ _ hR.feeder) ?_;apply qad∘qco;rw [hdu];apply qay∘qab∘Xaz;refine Jl [(1,.pointer _),(3,.int _ _),(12,.slice _ _ _),(13,.int _ _),(14,.int _ _)] zh fun tq0=>?_;refine q_s ([3,4,5]++rg 14 26) (fun g:{k:Nat // k≤g0.site.conds.l.length}=>[(14,.int .i64 ((g.1:Nat):Int)),(3,.int .i64 (Kae g0 p g.1 (Zxc p.sw g0.rp)))]) (fun g=>g0.site.conds.l.length - g.1) (⟨0,by omega⟩) ?_;rintro ⟨k,hk⟩ junk;try dsimp only
 apply (Xan);refine q_c ?_ ?_<;>intro hc0;·
  have hg:=Jt (l:=x.site.conds.l) (k:=k) default za;have hgw:=Jt (l:=x.watches.l) (k:=k) default za;have hwk:=hI.wok (x.watches.l.getD k default) (by rw [← hwl];exact yi hgw);have hwk2:=hwk.1;rw [Ula] at hwk2;have hdc:Kae g0 p (k + 1) (Zxc p.sw g0.rp)=if (x.site.conds.l.getD k default).kind=1 then min (Kae g0 p k (Zxc p.sw g0.rp)) (Jad (x.site.conds.l.getD k default).level (x.watches.l.getD k default)) else Kae g0 p k (Zxc p.sw g0.rp):=by rw [Kae,hcl,hwl]
  obtain ⟨c,hc⟩:∃c,c=x.site.conds.l.getD k default:=⟨_,rfl⟩;obtain ⟨w,hw⟩:∃w,w=x.watches.l.getD k default:=⟨_,rfl⟩;rw [← hc] at hg hdc;rw [← hw] at hgw hwk hwk2 hdc;apply (Xa4);refine Jy zC rfl ?_;refine Jy zHa rfl ?_;apply (qaq);intro b5;apply qad∘Xb9∘Xcc;apply Uy (G:=[_,_,_,_,_]) (j:=3) (cj:=22) rfl rfl zb rfl zmb rfl;·intro hg4;replace hg4:=qb hg4;exact (Xec) zJd
  intro junk4;apply (qaf);refine q_c ?_ ?_<;>intro hc1;·refine Kh tb [0,1,2,3,4,5,6,7,8,9,10] _ Kr zc ye ?_;apply qao∘qal∘Uig∘Xbv∘qds∘qdv;refine q_d rfl (K7d c.level w _ _ za) ?_;refine K0 zHc rfl rfl rfl ?_;apply qcg∘qby∘Xae;exact Ki ⟨k + 1,by omega⟩ zm (by dsimp only;rw [hdc,if_pos za];exact ⟨rfl,rfl,trivial⟩) zg zBb zu
  apply (Xay);exact Ki ⟨k + 1,by omega⟩ zm (by dsimp only;rw [hdc,if_neg za];exact ⟨rfl,rfl,trivial⟩) zg zBb zu
 obtain rfl:k=g0.site.conds.l.length:=by omega
 obtain ⟨D,hD⟩:∃D,D=Kae g0 p g0.site.conds.l.length (Zxc p.sw g0.rp):=⟨_,rfl⟩;rw [← hD];apply qcf∘qab∘Xaz;refine Jl [(1,.pointer _),(3,.int _ _),(43,.int _ _),(44,.int _ _)] zh fun tq1=>?_;refine q_s ([3,6]++rg 44 18) (fun g:{j:Nat // j≤g0.site.sensors.l.length}=>[(44,.int .i64 ((g.1:Nat):Int)),(3,.int .i64 (Vze g0 p D g.1))]) (fun g=>g0.site.sensors.l.length - g.1) (⟨0,by omega⟩) ?_;rintro ⟨j,hj⟩ junk;try dsimp only
 apply (Xan);refine q_c ?_ ?_<;>intro hc2;·
  have hkn:Y2 x.site.sensors.l x.meas.l (j:Int) x.time=Y2 g0.site.sensors.l p.meas (j:Int) p.time:=by rw [hsl,hml,htm]
  apply Xa4∘Xag∘qab;refine Jy zvb rfl ?_;apply Xah∘Xaa;refine q_l rfl (Zrb x.site x.meas (j:Int) x.time _ _ hR.site.sensors hR.meas hmok za) ?_;refine q_l rfl (Ua _ _) ?_;refine Jy (Ylb Zgd rfl rfl) rfl ?_;apply (qaf);refine q_c ?_ ?_<;>intro hc3;·
   apply Xa9∘Xaa;refine Jy zHc rfl ?_;apply qad∘Xa8;exact Ki ⟨j + 1,by omega⟩ zm (by
   dsimp only;rw [Jtf (by rw [← hkn];intro h;rw [h] at hc3;simp [nothingS] at hc3),← htm];exact ⟨rfl,rfl,trivial⟩) zg zBb zu
  apply (Xay);exact Ki ⟨j + 1,by omega⟩ zm (by
  dsimp only;rw [Vxf (by rw [← hkn,Jfc];simpa [nothingS] using hc3)];exact ⟨rfl,rfl,trivial⟩) zg zBb zu
 obtain rfl:j=g0.site.sensors.l.length:=by omega
 have hdq:Vze g0 p D g0.site.sensors.l.length=Zuf g0 p:=by rw [Vze,Zuf,Ktb,Ulb,hD]
 rw [hdq];apply qcf∘qaa∘Xaa∘qbx∘qaf;refine q_c ?_ ?_<;>intro hc4;·apply Xcl∘qar∘Xal;refine q_i L R ?_;exact ⟨by rw [K6g,if_pos za,htm],rfl,rfl⟩
 apply Xc6∘Xai;refine q_i L R ?_;exact ⟨by rw [K6g,if_neg za],rfl,rfl⟩
end Go.Proofs.YtchfclmokpbldaaGreat
