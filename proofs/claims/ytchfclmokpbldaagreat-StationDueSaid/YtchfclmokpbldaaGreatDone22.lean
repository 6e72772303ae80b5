/-
  Merged texts. By an AI agent.
-/
import Derived.Test.YtchfclmokpbldaaGreatEasyR
import Derived.Test.YtchfclmokpbldaaGreatCloneS
import Derived.Test.YtchfclmokpbldaaGreatEasy
import Derived.Test.YtchfclmokpbldaaGreatStaA
import Derived.Test.YtchfclmokpbldaaGreatStatM
import Derived.Test.YtchfclmokpbldaaGreatFlows
import Derived.Laws.IdiomStrings
import Derived.Test.YtchfclmokpbldaaGreatRestP
import Derived.Test.YtchfclmokpbldaaGreatCutC
import Derived.Test.YtchfclmokpbldaaGreatStrEq
import Derived.Test.YtchfclmokpbldaaGreatLaw11b
import Derived.Test.YtchfclmokpbldaaGreatRestN
import Derived.Test.YtchfclmokpbldaaGreatStaE
import Derived.Test.YtchfclmokpbldaaGreatStaF
import Derived.Test.YtchfclmokpbldaaGreatStaG
set_option linter.all false
set_option maxHeartbeats 4000000
set_option maxRecDepth 20000
namespace Go.Proofs.YtchfclmokpbldaaGreat
open Go.Aw Go
section
section
variable {s:XSite} {len dl ho:Int} {f:XFeeder} {A:List Bool} (h:EasyD s len dl ho)
include h
def Kac {n:Nat} (hn:1≤n∧n≤3) (h1:f.switches.l=Y9a n) (h2:f.zones.l=[(n:Int) - 1]) (h3:f.reply=3):Uya s f=0:=by
 obtain ⟨z,h7,_⟩:=h.zone;have hfe:feedE f.switches.l f.zones.l f.reply=0:=by
  rw [h1,h2,h3];have:n=1∨n=2∨n=3:=by omega
  rcases this with rfl | rfl | rfl <;> decide
 rw [Uya,(K5d h).err,if_neg ze,hfe,if_neg ze,if_neg (by rw [h2,h7];simp),if_neg];rintro ⟨x,hx,h9⟩;rw [h1,Y9a,List.mem_map] at hx;obtain ⟨i,_,rfl⟩:=hx;exact h9 rfl
def sw1:List XSwitch:=[⟨-1,0,0,false,false⟩]
def pAw (t:Int):PSta:=⟨t,[],0,[Jda],[⟨true,-1,t⟩],[⟨true,-1,0⟩],sw1,noRest,[]⟩
def Uec (h1:f.switches.l=Y9a 1):Vmc s f=pAw 0:=by obtain ⟨z,h7,_⟩:=h.zone;rw [Vmc,h.sens,h.conds,h7,h1];rfl
def Z1c (h1:f.switches.l=Y9a 1) (h2:f.zones.l=[0]) (h3:f.reply=3) (hI:Inv (gOf s f A) (pAw 0)):Jh (gOf s f A) (pAw 0) 2=pAw 2:=by
 obtain ⟨z,h7,hzr,_⟩:=h.zone;have hI2:=hI.at (t:=2) (by show (0:Int)≤2;decide) ze;have hv0:=hI2.valErr;have hk:∀t,U4 s.sensors.l [Jda] 0 t=nothingS:=fun t=>by rw [U4,if_neg];rintro ⟨_,_,h9⟩;exact absurd (show (-1:Int)=0 from h9) ze
 have hst:Zi (Zc dl).level ⟨true,-1,0⟩ nothingS 2=⟨true,-1,2⟩:=rfl;have hv:Kyb (gOf s f A) { pAw 0 with time:=2 }=[0]:=by
  rw [Kyb,valuesV,if_neg (by rw [hv0];decide)];show [U1a s.sensors.l [Jda] _ (s.conds.l.getD 0 default) ⟨true,-1,0⟩ 2]=[0];rw [h.conds];show [U1a s.sensors.l [Jda] _ (Zc dl) ⟨true,-1,0⟩ 2]=[0];have:U1a s.sensors.l [Jda] (flP (gOf s f A) { pAw 0 with time:=2 }) (Zc dl) ⟨true,-1,0⟩ 2=0:=by rw [U1a,if_neg (show ¬ (Zc dl).kind=5 by show ¬ (1:Int)=5;decide),if_neg (show ¬ (Zc dl).kind=2 by show ¬ (1:Int)=2;decide),if_neg (show ¬ (Zc dl).kind=3 by show ¬ (1:Int)=3;decide),if_neg (show ¬ (Zc dl).kind=4 by show ¬ (1:Int)=4;decide)];show (if (Zi _ _ (U4 s.sensors.l [Jda] 0 2) 2).over=false then (-1:Int) else if Jha (U4 s.sensors.l [Jda] 0 2) 100=1 then 1 else 0)=0;rw [hk,hst];decide
  rw [this]
 have hw:valuesW s [Jda] [⟨true,-1,0⟩] (flP (gOf s f A) { pAw 0 with time:=2 }) 2=[⟨true,-1,2⟩]:=by have hv0':valuesErr s [Jda] [⟨true,-1,0⟩] (flP (gOf s f A) { pAw 0 with time:=2 }) 2=0:=hv0;rw [valuesW,if_neg (by rw [hv0'];decide)];show [Zg s.sensors.l [Jda] (s.conds.l.getD 0 default) ⟨true,-1,0⟩ 2]=_;rw [h.conds];show [Zg s.sensors.l [Jda] (Zc dl) ⟨true,-1,0⟩ 2]=_;rw [Zg,if_pos (show (Zc dl).kind=1 from rfl)];show [Zi _ _ (U4 s.sensors.l [Jda] 0 2) 2]=_;rw [hk,hst]
 have hce:cutsErr s [0] [⟨true,-1,0⟩] 2=0:=by rw [cutsErr,(K5d h).err,if_neg ze,if_neg (by rw [h7,h.conds];simp),if_neg ze]
 have hc:cutsC s [0] [⟨true,-1,0⟩] 2=[⟨true,-1,0⟩]:=by rw [cutsC,if_neg (by rw [hce];decide)];show [Upc (Jla (s.zones.l.getD 0 default).rule.l [0]) ⟨true,-1,0⟩ 2]=_;rw [h7];show [Upc (Jla z.rule.l [0]) ⟨true,-1,0⟩ 2]=_;rw [hzr];decide
 have hn:cutsN s [0] [⟨true,-1,0⟩] 2=[]:=by rw [cutsN,if_neg (by rw [hce];decide)];show (if Jla _ _≠-1∧true=false then _ else [])=([]:List Int);rw [if_neg (fun h=>by cases h.2)]
 have hA2:settleA (gOf s f A) { pAw 0 with time:=2 }=pAw 2:=by rw [settleA,hv];show Y6a _ { pAw 0 with time:=2,watches:=valuesW s [Jda] [⟨true,-1,0⟩] (flP (gOf s f A) { pAw 0 with time:=2 }) 2,cuts:=cutsC s [0] [⟨true,-1,0⟩] 2 } (cutsN s [0] [⟨true,-1,0⟩] 2)=_;rw [hw,hc,hn];rfl
 rw [Jh];rw [hA2];have hB:settleB (gOf s f A) (pAw 2)=pAw 2:=by rw [settleB];show Zn 2 (Zn 3 { pAw 2 with rest:=Zo [⟨true,-1,0⟩] noRest,sw:=(J1a sw1 f.reply 2).sw } (J1a sw1 f.reply 2).late) (J1a sw1 f.reply 2).opened=_;rw [h3];have:J1a sw1 3 2=⟨sw1,[],[]⟩:=rfl;rw [this,Zo,if_pos (.inl rfl)];rfl
 rw [hB];exact Zbd _ (fun c hc=>by rw [List.mem_singleton.1 hc]) _ (ym _)
def Kze (h1:f.switches.l=Y9a 1) (h2:f.zones.l=[0]) (h3:f.reply=3) (hA:AiryIs s.air.mine A):
 Vtd (gOf s f A) (Vmc s f) 0 0 2=({ pAw 2 with log:=[⟨2,7,0,20⟩] },20):=by
 have h0:=Kac (f:=f) h (n:=1) ⟨by decide,by decide⟩ h1 (by rw [h2];rfl) h3;have hI:=Uqc (A:=A) h0 hA;rw [Uec h h1] at hI ⊢;have hI2:=Z1c h h1 h2 h3 hI;have hI3:=hI.settle (t:=2) (by show (0:Int)≤2;decide) ze;rw [hI2] at hI3;have hfl:=hI3.flLen;obtain ⟨z,h7,hzr,_⟩:=h.zone;have he:askE s [⟨true,-1,0⟩] (flP (gOf s f A) (pAw 2)) noRest 0 0 2=20:=by rw [Kof h rfl (by rw [hfl];show s.air.mine.roads.l.length=1;rw [h.roads];rfl) ⟨by decide,by decide⟩,readyE,if_neg ze,h7];show Z3a s _ ⟨true,-1,0⟩ z 2=20;rw [Z3a,if_neg ze,if_pos (.inl (.inl ze))]
 rw [Vtd,if_neg (by rw [Zt];show ¬ ((2:Int) < 0∨_);decide)];dsimp only;rw [hI2];show (if askE s [⟨true,-1,0⟩] (flP (gOf s f A) (pAw 2)) noRest 0 0 2≠0 then (Y0 (pAw 2) 7 0 (askE s [⟨true,-1,0⟩] (flP (gOf s f A) (pAw 2)) noRest 0 0 2),askE s [⟨true,-1,0⟩] (flP (gOf s f A) (pAw 2)) noRest 0 0 2) else _)=_;rw [he,if_pos ze];rfl
end
end
section
attribute [local irreducible] CJ LJ DJ Tri YV Gives Ur J3 Ko Uq RV J5 OwL.L
structure EasyN (f:XFeeder) (n:Nat):Prop where
 rng:1≤n∧n≤3
 sw:f.switches.l=Y9a n
 zn:f.zones.l=[(n:Int) - 1]
 rp:f.reply=3
def V2e (c:Nat) (x:Arr Int) (k:Nat) (R:LS) (hx:CodesR x R) (hk:k≤x.l.length):
 Tri Tryz.prog 15 [.pointer (some ⟨c, 0, none⟩)].toArray [cblk c x k] R
  (fun v M U=>∃(s:XSite) (len dl ho:Int) (f:XFeeder) (n k':Nat),v=.tuple #[s.val,f.val]∧EasyD s len dl ho∧EasyN f n∧(k'≤x.l.length∧(x.l.length≤k→len=1∧dl=1∧ho=1∧n=1∧k'=k))∧(SiteR s U∧FeederR f U∧∀r∈R,InR r U)∧cblk c x k' :: []=M):=by refine Tri.postW (Zgc c x k R hx hk) ?_;rintro v M U c w ⟨s,len,dl,ho,sw,zn,n,k',rfl,hE,⟨hsk,hzk⟩,hn,hsl,hzl,hk',⟨hs,hR⟩,rfl⟩ hst;have h1:=hst.frzO (subs:=[]) hsk yf ze yg;have h2:=h1.frzO (subs:=[]) hzk yf ze yg;have h3:∀r∈U,InR r (isl zn.arr :: Zmb sw.arr :: U):=fun r hr=>Ja (.tail _ (.tail _ hr));exact ⟨_,_,h2,s,len,dl,ho,⟨sw.arr,zn.arr,3⟩,n,k',rfl,hE,⟨hn,hsl,hzl,rfl⟩,hk',⟨hs.mono h3,⟨Ja (.tail _ (.head _)),Ja (.head _)⟩,fun r hr=>(hR r hr).mono h3⟩,rfl⟩
end
section
section
variable {P:Program} {ρ:Operand→Value} {L:LB} {R:LS} {dst:Option Tmp} {ty:TypeId} {pos:String} {after:Array Edge} {guard:Option (Nat×Bool)} (tb:Tabs P) {T T2:TypeId} {x y:Operand}
end
end
section
attribute [local irreducible] CJ LJ DJ Tri YV Gives Ur J3 Ko Uq RV J5 OwL.L
def Z7c (x y:Arr XCut) (L:LB) (R:LS) (hx:InR (Joc x) R) (hy:InR (Joc y) R) (he:x.l=y.l):
 Tri Tryz.prog 69 [x.val,y.val].toArray L R (fun v M U=>v=.bool true∧L=M∧R=U):=by
 have hle:x.l.length=y.l.length:=by rw [he]
 refine Vb Tryz.call69 hx fun hxn=>?_;refine Jd 26 Tryz.call69 Tryz.func69 rfl rfl rfl ?_;apply Xba∘qaw∘Xao∘Xao∘Xat;refine q_c ?_ ?_<;>intro hc0;·apply (Xc8);refine q_b L R ?_;exact absurd hle za
 apply qbo∘Xa4;refine Jl [(0,.slice _ _ _),(1,.slice _ _ _),(5,.int _ _)] zh fun tq0=>?_;refine q_s ([4,5]++rg 11 15) (fun g:{k:Nat // k≤x.l.length}=>[(5,.int .i64 ((g.1:Nat):Int))]) (fun g=>x.l.length - g.1) (⟨0,by omega⟩) ?_;rintro ⟨k,hk⟩ junk;try dsimp only
 apply Xay∘Xao∘Xa5;refine q_c ?_ ?_<;>intro hc1;·
  have hxg:=Ju (l:=x.l) (k:=k) default za;have hyg:y.l[k]?=some (x.l.getD k default):=by rw [← he];exact hxg
  refine J1 (Jb (Jp (Ka (Jp ?_))));refine Kh tb [0,1,2,3,4,5,6,7,8] ([]) Kq zc zg ?_;refine K1 zed rfl rfl rfl ?_;apply qao∘qds∘qdv;refine K1 zed rfl rfl rfl ?_;apply qao∘qds∘qdv;refine K1 (K7b Vmg rfl rfl zP zP rfl) rfl rfl rfl ?_;exact ua3
 exact (qbk) zpe
end
section
def Kie:StrEq Tryz.prog 150 [.i,.i,.i,.i]:=
 Vxb [(3,[.i]),(3,[.i]),(3,[.i]),(3,[.i])] zc zc zc zc rfl (by
  intro p hp
  simp only [yU,yR,or_false] at hp
  rcases hp with rfl | rfl | rfl | rfl <;> exact Yma zc)
attribute [local irreducible] CJ LJ DJ Tri YV Gives Ur J3 Ko Uq RV J5 OwL.L
def Ktd (x y:Arr XEntry) (L:LB) (R:LS) (hx:InR (Z5 x) R) (hy:InR (Z5 y) R) (he:x.l=y.l):
 Tri Tryz.prog 64 [x.val,y.val].toArray L R (fun v M U=>v=.bool true∧L=M∧R=U):=by
 have hle:x.l.length=y.l.length:=by rw [he]
 refine Uza Tryz.call64 hx fun hxn=>?_;refine Jd 26 Tryz.call64 Tryz.func64 rfl rfl rfl ?_;apply Xba∘qaw∘Xao∘Xao∘Xat;refine q_c ?_ ?_<;>intro hc0;·apply (Xc8);refine q_b L R ?_;exact absurd hle za
 apply qbo∘Xa4;refine Jl [(0,.slice _ _ _),(1,.slice _ _ _),(5,.int _ _)] zh fun tq0=>?_;refine q_s ([4,5]++rg 11 15) (fun g:{k:Nat // k≤x.l.length}=>[(5,.int .i64 ((g.1:Nat):Int))]) (fun g=>x.l.length - g.1) (⟨0,by omega⟩) ?_;rintro ⟨k,hk⟩ junk;try dsimp only
 apply Xay∘Xao∘Xa5;refine q_c ?_ ?_<;>intro hc1;·
  have hxg:=Ju (l:=x.l) (k:=k) default za;have hyg:y.l[k]?=some (x.l.getD k default):=by rw [← he];exact hxg
  refine J1 (Jb (Jp (Ka (Jp ?_))));refine Kh tb [0,1,2,3,4,5,6,7,8] ([]) Kq zc zg ?_;refine K1 zed rfl rfl rfl ?_;apply qao∘qds∘qdp;refine K1 zed rfl rfl rfl ?_;apply qao∘qds∘qdp;refine K1 (K7b Kie rfl rfl zP zP rfl) rfl rfl rfl ?_;exact ua3
 exact (qbk) zpe
end
section
attribute [local irreducible] CJ LJ DJ Tri YV Gives Ur J3 Ko Uq RV J5 OwL.L
section
variable {A B:Prop}
def Z8d(h:A→B:=by exact Jx zN rfl):=h
def Y2e(h:A→B:=by exact V4 zPb rfl rfl):=h
def Klg(h:A→B:=by exact V4 zAa rfl rfl):=h
end
def Zbb (L:LB) (R:LS):Tri Tryz.prog 51 ([]:List Value).toArray L R (fun v M U=>v=.bool true∧L=M∧R=U):=by
 refine Jd 62 Tryz.call51 Tryz.func51 rfl rfl rfl ?_;apply Xba∘qa4;refine Y8c 1 ?_;apply (qay);refine Jm rfl (Kde ⟨none,0,[]⟩ _ _ ⟨Ja (.head _),fun i q hq=>by simp at hq⟩) rfl ?_;rintro v M U ⟨c,rfl,hx,rfl,rfl⟩;refine Jm rfl (Tri.spl (.consL .rest) (V2e c _ 0 _ hx (yga _))) rfl ?_;rintro v M U ⟨_,rfl,s,len,dl,ho,f,n,k1,rfl,hE,hN,⟨hk1,he0⟩,⟨hs,hf,hR0⟩,rfl⟩;refine Jx zXb rfl ?_;apply (Xdv);intro b1;apply (qaq);intro b2;apply qak∘Xcx;obtain ⟨rfl,rfl,rfl,rfl,_⟩:=he0 (yga _);have hRR:∀r∈R,InR r U:=fun r hr=>hR0 r (.tail _ (.tail _ hr));obtain ⟨A,hA⟩:=Kje s.air.mine;refine Vd (M:=⟨b2,f.cells,42⟩ :: ⟨b1,s.cells,38⟩ :: L) (List.sublist_append_left _ _) zCb ?_;have h0:=Kac (f:=f) hE hN.rng hN.sw hN.zn hN.rp;have hI:=Uqc (A:=A) h0 hA;have hq:=Kze (f:=f) (A:=A) hE hN.sw hN.zn hN.rp hA;apply (qay);refine Jx zvb rfl ?_;refine Jx zrb rfl ?_;refine Jm rfl (Ztb s f A _ _ hs hf hA) rfl ?_;rintro v M U ⟨x,S1,rfl,hxR,hx0,_,rfl,rfl⟩;rw [h0];have hx:=hx0 h0;refine Jx zXb rfl ?_;apply (Xdv);intro b3;apply qak∘Xag;refine Jx ztb rfl ?_;refine Jm rfl (K2c (gOf s f A) (Vmc s f) x 0 0 2 _ _ hI hx hxR) rfl ?_;rintro v M U ⟨y,S2,rfl,hy,hyR,rfl,rfl⟩;rw [hq] at hy ⊢;refine Jx zXb rfl ?_;apply (Xdv);intro b5;apply qak∘Xcd;obtain ⟨z,h7,_⟩:=hE.zone;have hxc:x.cuts.l=[⟨true,-1,0⟩]:=by rw [hx.cuts,Uec hE hN.sw];rfl
 have hyl:y.log.l=[⟨2,7,0,20⟩]:=hy.log;have hcn:x.cuts.l.length=1:=by rw [hxc];rfl
 have hln:y.log.l.length=1:=by rw [hyl];rfl
 have hcg:x.cuts.l[0]?=some ⟨true,-1,0⟩:=by rw [hxc];rfl
 have hlg:y.log.l[0]?=some ⟨2,7,0,20⟩:=by rw [hyl];rfl
 have hxR2:=hxR.mono (U:=S2 ++ (S1 ++ U)) fun r hr=>Ja (yk _ hr);have hcR:=hxR2.cuts;have hlR:=hyR.log;have hv:StaV x (S2 ++ (S1 ++ U)):=StaV.of hI hx hxR2.site hxR2.meas;have hfl1:(Z6 x.site (gOf s f A).air x.meas.l x.time).length=1:=by rw [StaIs.flows hx,hI.flLen];exact congrArg List.length hE.roads
 apply Xa7∘Xcc;refine Jaa (k:=25) zmb (fun hg3=>?_) (fun hg3=>?_);·
  replace hg3:=qb hg3;refine V4 zAb rfl rfl ?_;apply (Y2e);refine V4 zIb rfl rfl ?_;refine V4 zic rfl rfl ?_;apply Z8d∘qah;refine Jaa (k:=31) zmb (fun hg9=>?_) (fun hg9=>?_);·
   replace hg9:=qb hg9;refine V4 zAb rfl rfl ?_;apply Y2e∘Klg;refine V4 (Yba tb rfl rfl rfl) rfl rfl ?_;refine V4 zca rfl rfl ?_;apply Z8d∘qah;refine Jaa (k:=38) zmb (fun hg16=>?_) (fun hg16=>?_);·
    replace hg16:=qb hg16;refine V4 (J0 znb) rfl rfl ?_;refine V4 zic rfl rfl ?_;apply Z8d∘qah;refine Jaa (k:=42) zmb (fun hg20=>?_) (fun hg20=>?_);·
     replace hg20:=qb hg20;refine V4 zAb rfl rfl ?_;apply (Y2e);refine V4 zIb rfl rfl ?_;refine V4 zic rfl rfl ?_;apply Z8d∘qah;refine Jaa (k:=48) zmb (fun hg26=>?_) (fun hg26=>?_);·
      replace hg26:=qb hg26;refine V4 zAb rfl rfl ?_;apply Y2e∘Klg;refine V4 zya rfl rfl ?_;refine V4 (J4 (qs:=[(0,(Value.int _ _).cells.toList),(1,(Value.int _ _).cells.toList),(3,(Value.int _ _).cells.toList)]) (out:=[_,_,_,_]) tb rfl rfl rfl rfl) rfl rfl ?_;refine V4 (Udc Kie rfl rfl zP zP rfl) rfl rfl ?_;apply Z8d∘qah;refine Jaa (k:=56) zmb (fun hg34=>?_) (fun hg34=>?_);·
       replace hg34:=qb hg34;refine V4 ztb rfl rfl ?_;refine J4b rfl (Kbb x (gOf s f A).air _ _ hv (SiteE.airy hx.site hI.airy)) rfl rfl ?_;rintro v M U ⟨fl,rfl,hfl,rfl,rfl⟩;refine V4 zIb rfl rfl ?_;refine V4 zic rfl rfl ?_;apply Z8d∘Xbf;refine Kw (M:=L) (U:=R) (U8 rfl zdd) ?hp ?hL ?hR;case hp=>exact ⟨by simp [hfl,hfl1],rfl,rfl⟩
       case hL=>exact zg
       case hR=>exact fun r hr=>(hRR r hr).mono fun r hr=>Ja zG
      replace hg34:=qb hg34;exact absurd (show true=false from hg34) ze
     replace hg26:=qb hg26;(first | exact absurd rfl hg26 | (simp at hg26;done) | (simp [hcn,hln] at hg26;done) | exact absurd ze hg26)
    replace hg20:=qb hg20;(first | exact absurd rfl hg20 | (simp at hg20;done) | (simp [hcn,hln] at hg20;done) | exact absurd ze hg20)
   replace hg16:=qb hg16;(first | exact absurd rfl hg16 | (simp at hg16;done) | (simp [hcn,hln] at hg16;done) | exact absurd ze hg16)
  replace hg9:=qb hg9;(first | exact absurd rfl hg9 | (simp at hg9;done) | (simp [hcn,hln] at hg9;done) | exact absurd ze hg9)
 replace hg3:=qb hg3;(first | exact absurd rfl hg3 | (simp at hg3;done) | (simp [hcn,hln] at hg3;done) | exact absurd ze hg3)
end
section
attribute [local irreducible] CJ LJ DJ Tri YV Gives Ur J3 Ko Uq RV J5 OwL.L
section
variable {A B:Prop}
def Z5d(h:A→B:=by exact Jx ztb rfl):=h
end
structure PAct where
 kind:Int
 n:Int
 m:Int
 wait:Int
 bytes:List Int
structure XAct where
 kind:Int
 n:Int
 m:Int
 wait:Int
 bytes:Arr Int
def XAct.cells (x:XAct):List Value:=[.int .i64 x.kind,.int .i64 x.n,.int .i64 x.m,.int .i64 x.wait,x.bytes.val]
abbrev XAct.val (x:XAct):Value:=.agg #[.int .i64 x.kind,.int .i64 x.n,.int .i64 x.m,.int .i64 x.wait,x.bytes.val]
def XAct.p (x:XAct):PAct:=⟨x.kind,x.n,x.m,x.wait,x.bytes.l⟩
instance:Inhabited XAct:=⟨⟨0,0,0,0,⟨none,0,[]⟩⟩⟩
instance:Inhabited PAct:=⟨⟨0,0,0,0,[]⟩⟩
structure ActOk (a:PAct):Prop where
 n:-1000≤a.n∧a.n≤1000
 m:-1000≤a.m∧a.m≤1000
 wait:-2147483648≤a.wait∧a.wait≤2147483648
 bytes:BytesOk a.bytes
 len:a.bytes.length≤100000
def K5b (a:PAct):Prop:=a.kind=0∨a.kind=1∨a.kind=2
instance (a:PAct):Decidable (K5b a):=by unfold K5b;infer_instance
def Uzf {a:PAct} (h0:¬ a.kind=0) (h1:¬ a.kind=1):decide (a.kind=2)=decide (K5b a):=by
 rcases yaa (a.kind=2) with h | h;·rw [decide_eq_true h,decide_eq_true (p:=K5b a) (.inr (.inr h))]
 ·rw [decide_eq_false h,decide_eq_false (p:=K5b a) (by unfold K5b;omega)]
def Kva (g:PSite) (p:PSta) (a:PAct):PSta×Int:=
 if K5b a then Yzb g p a.bytes (p.time + a.wait)
 else if a.kind=3 then J6a g p a.n (a.m - 1) (p.time + a.wait)
 else if a.kind=4 then Vtd g p a.n a.m (p.time + a.wait)
 else if a.kind=5 then Za g p a.n (p.time + a.wait)
 else if a.kind=6 then Vfa g p (p.time + a.wait)
 else Yxa g p (p.time + a.wait)
def Inv.done {g:PSite} {p:PSta} (h:Inv g p) {a:PAct} (ha:ActOk a):Inv g (Kva g p a).1:=by
 rw [Kva];split;·exact h.feed ha.bytes _
 split;·exact h.answer _ _ _
 split;·exact h.ask _ _ _
 split;·exact h.confirm _ _
 split;·exact h.close _
 ·exact h.tick _
def J3f (g:PSite) (p:PSta) (x:XSta) (a:XAct) (L:LB) (R:LS) (hI:Inv g p) (hx:StaIs g p x) (hR:StaR x R) (haR:InR (bsl a.bytes) R) (ha:ActOk a.p) (hdr:0≤p.dropped∧p.dropped≤1152921504606846976):
 Tri Tryz.prog 62 [x.val,a.val].toArray L R (V3a g (Kva g p a.p) L R):=by
 have htm:=hI.time;have hxt:=hx.time;have hw:-2147483648≤a.wait∧a.wait≤2147483648:=ha.wait;have hm:-1000≤a.m∧a.m≤1000:=ha.m;have hak:a.p.kind=a.kind:=rfl;refine Jd 69 Tryz.call62 Tryz.func62 rfl rfl rfl ?_;apply (Xaf);intro b2;apply (qax);intro b3;apply (qaq);intro b4;apply Xag∘Xa6∘qar∘Xar∘Xaa;refine J7 (Jb (Ka (Jp (Jp (Jg ?_)))));apply (Xax);refine Vy [14,16,17] ((⟨fun q=>[(14,.bool q.1)],fun _=>⟨b4,staZ.cells,54⟩ :: ⟨b3,a.cells,144⟩ :: ⟨b2,x.cells,54⟩ :: L,fun _=>R,fun _=>0⟩:Head {b:Bool // b=decide (K5b a.p)})) ?_ ?_;·
  skip
  refine q_c ?_ ?_<;>intro hc0;·refine J1 ?_;exact q_j ⟨decide (a.kind=0),by rw [decide_eq_true hc0];exact (decide_eq_true (p:=K5b a.p) (.inl hc0)).symm⟩
  apply (Xbj);refine q_c ?_ ?_<;>intro hc1;·refine J1 ?_;exact q_j ⟨decide (a.kind=1),by rw [decide_eq_true hc1];exact (decide_eq_true (p:=K5b a.p) (.inr (.inl hc1))).symm⟩
  apply qay∘qbn∘qaz∘qav;exact q_j ⟨decide (a.kind=2),Uzf (a:=a.p) hc0 hc1⟩
 rintro ⟨bb,hbb⟩ junk;try dsimp only
 have hxa:((K5b a.p:Prop)↔bb=true):=by rw [hbb];simp
 refine q_c ?_ ?_<;>intro hc2;·
  have hfa:K5b a.p:=by simpa [hbb] using hc2
  have hdo:Kva g p a.p=Yzb g p a.bytes.l (x.time + a.wait):=by rw [Kva,if_pos hfa,hxt];rfl
  apply qae∘Z5d∘Xai;refine Jm rfl (Umd g p x a.bytes (x.time + a.wait) _ _ hI hx hR haR ha.bytes ha.len hdr) rfl ?_;exact zwd
 have hfa:¬ K5b a.p:=by simpa [hbb] using hc2
 apply (Xbj);refine q_c ?_ ?_<;>intro hc3;·
  have hdo:Kva g p a.p=J6a g p a.n (a.m - 1) (x.time + a.wait):=by rw [Kva,if_neg hfa,if_pos (show a.p.kind=3 from hc3),hxt];rfl
  apply qae∘Z5d∘Xa6∘qa9∘qaa;refine Jm rfl (U0c g p x a.n (a.m - 1) (x.time + a.wait) _ _ hI hx hR) rfl ?_;exact zwd
 apply (Xbj);refine q_c ?_ ?_<;>intro hc4;·
  have hdo:Kva g p a.p=Vtd g p a.n a.m (x.time + a.wait):=by rw [Kva,if_neg hfa,if_neg zGc,if_pos (show a.p.kind=4 from hc4),hxt];rfl
  apply qae∘Z5d∘Xaa∘Xai;refine Jm rfl (K2c g p x a.n a.m (x.time + a.wait) _ _ hI hx hR) rfl ?_;exact zwd
 apply (Xbj);refine q_c ?_ ?_<;>intro hc5;·
  have hdo:Kva g p a.p=Za g p a.n (x.time + a.wait):=by rw [Kva,if_neg hfa,if_neg zGc,if_neg (show ¬ a.p.kind=4 from hc4),if_pos (show a.p.kind=5 from hc5),hxt];rfl
  apply qae∘Z5d∘Xai;refine Jm rfl (Jlc g p x a.n (x.time + a.wait) _ _ hI hx hR) rfl ?_;exact zwd
 apply (Xbj);refine q_c ?_ ?_<;>intro hc6;·
  have hdo:Kva g p a.p=Vfa g p (x.time + a.wait):=by rw [Kva,if_neg hfa,if_neg zGc,if_neg (show ¬ a.p.kind=4 from hc4),if_neg (show ¬ a.p.kind=5 from hc5),if_pos (show a.p.kind=6 from hc6),hxt];rfl
  apply qae∘Z5d∘qaa;refine Jm rfl (Zsc g p x (x.time + a.wait) _ _ hI hx hR) rfl ?_;exact zwd
 have hdo:Kva g p a.p=Yxa g p (x.time + a.wait):=by rw [Kva,if_neg hfa,if_neg zGc,if_neg (show ¬ a.p.kind=4 from hc4),if_neg (show ¬ a.p.kind=5 from hc5),if_neg (show ¬ a.p.kind=6 from hc6),hxt];rfl
 refine J1 (Je (Jb (Jp (Jg ?_))));apply Z5d∘qaa;refine Jm rfl (Vsa g p x (x.time + a.wait) _ _ hI hx hR) rfl ?_;rintro v M U ⟨y,S,rfl,hy,hyR,rfl,rfl⟩;apply Xbb∘Xbw;refine q_r L (S ++ R) zfd ?_;exact ⟨y,S,by rw [hdo],by rw [hdo];exact hy,hyR,rfl,rfl⟩
end
end Go.Proofs.YtchfclmokpbldaaGreat
