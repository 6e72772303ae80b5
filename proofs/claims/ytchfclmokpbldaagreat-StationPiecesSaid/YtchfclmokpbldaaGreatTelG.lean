/-
  Merged texts. By an AI agent.
-/
import Derived.Test.YtchfclmokpbldaaGreatEasyR
import Derived.Test.YtchfclmokpbldaaGreatCloneS
import Derived.Test.YtchfclmokpbldaaGreatEasy
import Derived.Test.YtchfclmokpbldaaGreatStaA
import Derived.Test.YtchfclmokpbldaaGreatStatI
import Derived.Test.YtchfclmokpbldaaGreatFlows
import Derived.Laws.IdiomStrings
import Derived.Test.YtchfclmokpbldaaGreatRestP
import Derived.Test.YtchfclmokpbldaaGreatCutC
import Derived.Test.YtchfclmokpbldaaGreatFeedC
import Derived.Test.YtchfclmokpbldaaGreatLaw11b
import Derived.Test.YtchfclmokpbldaaGreatAppR
import Derived.Test.YtchfclmokpbldaaGreatStaE
import Derived.Test.YtchfclmokpbldaaGreatStaG
import Derived.Test.YtchfclmokpbldaaGreatTelF
set_option linter.all false
set_option maxHeartbeats 4000000
set_option maxRecDepth 20000
namespace Go.Proofs.YtchfclmokpbldaaGreat
open Go.Aw Go
section
section
variable {s:XSite} {len dl ho:Int} {f:XFeeder} {A:List Bool} (h:EasyD s len dl ho)
include h
def Zqb {n:Nat} (hn:1≤n∧n≤3) (h1:f.switches.l=V3a n) (h2:f.zones.l=[(n:Int) - 1]) (h3:f.reply=3):K2a s f=0:=by
 obtain ⟨z,h7,_⟩:=h.zone;have hfe:feedE f.switches.l f.zones.l f.reply=0:=by
  rw [h1,h2,h3];have:n=1∨n=2∨n=3:=by omega
  rcases this with rfl | rfl | rfl <;> decide
 rw [K2a,(Kfd h).err,if_neg ze,hfe,if_neg ze,if_neg (by rw [h2,h7];simp),if_neg];rintro ⟨x,hx,h9⟩;rw [h1,V3a,List.mem_map] at hx;obtain ⟨i,_,rfl⟩:=hx;exact h9 rfl
def sw1:List XSwitch:=[⟨-1,0,0,false,false⟩]
def pAw (t:Int):PSta:=⟨t,[],0,[Z6],[⟨true,-1,t⟩],[⟨true,-1,0⟩],sw1,noRest,[]⟩
def Zkb (h1:f.switches.l=V3a 1):Uia s f=pAw 0:=by obtain ⟨z,h7,_⟩:=h.zone;rw [Uia,h.sens,h.conds,h7,h1];rfl
def Vnc (h1:f.switches.l=V3a 1) (h2:f.zones.l=[0]) (h3:f.reply=3) (hI:Inv (gOf s f A) (pAw 0)):Ka (gOf s f A) (pAw 0) 2=pAw 2:=by
 obtain ⟨z,h7,hzr,_⟩:=h.zone;have hI2:=hI.at (t:=2) (by show (0:Int)≤2;decide) ze;have hv0:=hI2.valErr;have hk:∀t,Zk s.sensors.l [Z6] 0 t=nothingS:=fun t=>by rw [Zk,if_neg];rintro ⟨_,_,h9⟩;exact absurd (show (-1:Int)=0 from h9) ze
 have hst:Zl (Yx dl).level ⟨true,-1,0⟩ nothingS 2=⟨true,-1,2⟩:=rfl;have hv:Uib (gOf s f A) { pAw 0 with time:=2 }=[0]:=by
  rw [Uib,valuesV,if_neg (by rw [hv0];decide)];show [Ktb s.sensors.l [Z6] _ (s.conds.l.getD 0 default) ⟨true,-1,0⟩ 2]=[0];rw [h.conds];show [Ktb s.sensors.l [Z6] _ (Yx dl) ⟨true,-1,0⟩ 2]=[0];have:Ktb s.sensors.l [Z6] (flP (gOf s f A) { pAw 0 with time:=2 }) (Yx dl) ⟨true,-1,0⟩ 2=0:=by rw [Ktb,if_neg (show ¬ (Yx dl).kind=5 by show ¬ (1:Int)=5;decide),if_neg (show ¬ (Yx dl).kind=2 by show ¬ (1:Int)=2;decide),if_neg (show ¬ (Yx dl).kind=3 by show ¬ (1:Int)=3;decide),if_neg (show ¬ (Yx dl).kind=4 by show ¬ (1:Int)=4;decide)];show (if (Zl _ _ (Zk s.sensors.l [Z6] 0 2) 2).over=false then (-1:Int) else if Z5 (Zk s.sensors.l [Z6] 0 2) 100=1 then 1 else 0)=0;rw [hk,hst];decide
  rw [this]
 have hw:valuesW s [Z6] [⟨true,-1,0⟩] (flP (gOf s f A) { pAw 0 with time:=2 }) 2=[⟨true,-1,2⟩]:=by have hv0':valuesErr s [Z6] [⟨true,-1,0⟩] (flP (gOf s f A) { pAw 0 with time:=2 }) 2=0:=hv0;rw [valuesW,if_neg (by rw [hv0'];decide)];show [Vra s.sensors.l [Z6] (s.conds.l.getD 0 default) ⟨true,-1,0⟩ 2]=_;rw [h.conds];show [Vra s.sensors.l [Z6] (Yx dl) ⟨true,-1,0⟩ 2]=_;rw [Vra,if_pos (show (Yx dl).kind=1 from rfl)];show [Zl _ _ (Zk s.sensors.l [Z6] 0 2) 2]=_;rw [hk,hst]
 have hce:cutsErr s [0] [⟨true,-1,0⟩] 2=0:=by rw [cutsErr,(Kfd h).err,if_neg ze,if_neg (by rw [h7,h.conds];simp),if_neg ze]
 have hc:cutsC s [0] [⟨true,-1,0⟩] 2=[⟨true,-1,0⟩]:=by rw [cutsC,if_neg (by rw [hce];decide)];show [K3e (Uwa (s.zones.l.getD 0 default).rule.l [0]) ⟨true,-1,0⟩ 2]=_;rw [h7];show [K3e (Uwa z.rule.l [0]) ⟨true,-1,0⟩ 2]=_;rw [hzr];decide
 have hn:cutsN s [0] [⟨true,-1,0⟩] 2=[]:=by rw [cutsN,if_neg (by rw [hce];decide)];show (if Uwa _ _≠-1∧true=false then _ else [])=([]:List Int);rw [if_neg (fun h=>by cases h.2)]
 have hA2:settleA (gOf s f A) { pAw 0 with time:=2 }=pAw 2:=by rw [settleA,hv];show Zpa _ { pAw 0 with time:=2,watches:=valuesW s [Z6] [⟨true,-1,0⟩] (flP (gOf s f A) { pAw 0 with time:=2 }) 2,cuts:=cutsC s [0] [⟨true,-1,0⟩] 2 } (cutsN s [0] [⟨true,-1,0⟩] 2)=_;rw [hw,hc,hn];rfl
 rw [Ka];rw [hA2];have hB:settleB (gOf s f A) (pAw 2)=pAw 2:=by rw [settleB];show Zp 2 (Zp 3 { pAw 2 with rest:=Jma [⟨true,-1,0⟩] noRest,sw:=(Jra sw1 f.reply 2).sw } (Jra sw1 f.reply 2).late) (Jra sw1 f.reply 2).opened=_;rw [h3];have:Jra sw1 3 2=⟨sw1,[],[]⟩:=rfl;rw [this,Jma,if_pos (.inl rfl)];rfl
 rw [hB];exact Kkc _ (fun c hc=>by rw [List.mem_singleton.1 hc]) _ (yn _)
def Kee (h1:f.switches.l=V3a 1) (h2:f.zones.l=[0]) (h3:f.reply=3) (hA:AiryIs s.air.mine A):
 Y3d (gOf s f A) (Uia s f) 0 0 2=({ pAw 2 with log:=[⟨2,7,0,20⟩] },20):=by
 have h0:=Zqb (f:=f) h (n:=1) ⟨by decide,by decide⟩ h1 (by rw [h2];rfl) h3;have hI:=Juc (A:=A) h0 hA;rw [Zkb h h1] at hI ⊢;have hI2:=Vnc h h1 h2 h3 hI;have hI3:=hI.settle (t:=2) (by show (0:Int)≤2;decide) ze;rw [hI2] at hI3;have hfl:=hI3.flLen;obtain ⟨z,h7,hzr,_⟩:=h.zone;have he:askE s [⟨true,-1,0⟩] (flP (gOf s f A) (pAw 2)) noRest 0 0 2=20:=by rw [Yie h rfl (by rw [hfl];show s.air.mine.roads.l.length=1;rw [h.roads];rfl) ⟨by decide,by decide⟩,readyE,if_neg ze,h7];show Zba s _ ⟨true,-1,0⟩ z 2=20;rw [Zba,if_neg ze,if_pos (.inl (.inl ze))]
 rw [Y3d,if_neg (by rw [Jxa];show ¬ ((2:Int) < 0∨_);decide)];dsimp only;rw [hI2];show (if askE s [⟨true,-1,0⟩] (flP (gOf s f A) (pAw 2)) noRest 0 0 2≠0 then (Jua (pAw 2) 7 0 (askE s [⟨true,-1,0⟩] (flP (gOf s f A) (pAw 2)) noRest 0 0 2),askE s [⟨true,-1,0⟩] (flP (gOf s f A) (pAw 2)) noRest 0 0 2) else _)=_;rw [he,if_pos ze];rfl
end
end
section
attribute [local irreducible] CJ LJ DJ Tri YV Gives Uo J0 Kj Un RV J2 OwL.L
structure EasyN (f:XFeeder) (n:Nat):Prop where
 rng:1≤n∧n≤3
 sw:f.switches.l=V3a n
 zn:f.zones.l=[(n:Int) - 1]
 rp:f.reply=3
def Kfe (c:Nat) (x:Arr Int) (k:Nat) (R:LS) (hx:CodesR x R) (hk:k≤x.l.length):
 Tri Tryz.prog 15 [.pointer (some ⟨c, 0, none⟩)].toArray [cblk c x k] R
  (fun v M U=>∃(s:XSite) (len dl ho:Int) (f:XFeeder) (n k':Nat),v=.tuple #[s.val,f.val]∧EasyD s len dl ho∧EasyN f n∧(k'≤x.l.length∧(x.l.length≤k→len=1∧dl=1∧ho=1∧n=1∧k'=k))∧(SiteR s U∧FeederR f U∧∀r∈R,InR r U)∧cblk c x k' :: []=M):=by refine Tri.postW (Yvc c x k R hx hk) ?_;rintro v M U c w ⟨s,len,dl,ho,sw,zn,n,k',rfl,hE,⟨hsk,hzk⟩,hn,hsl,hzl,hk',⟨hs,hR⟩,rfl⟩ hst;have h1:=hst.frzO (subs:=[]) hsk yf ze yg;have h2:=h1.frzO (subs:=[]) hzk yf ze yg;have h3:∀r∈U,InR r (isl zn.arr :: Jqd sw.arr :: U):=fun r hr=>Ja (.tail _ (.tail _ hr));exact ⟨_,_,h2,s,len,dl,ho,⟨sw.arr,zn.arr,3⟩,n,k',rfl,hE,⟨hn,hsl,hzl,rfl⟩,hk',⟨hs.mono h3,⟨Ja (.tail _ (.head _)),Ja (.head _)⟩,fun r hr=>(hR r hr).mono h3⟩,rfl⟩
end
section
section
variable {P:Program} {ρ:Operand→Value} {L:LB} {R:LS} {dst:Option Tmp} {ty:TypeId} {pos:String} {after:Array Edge} {guard:Option (Nat×Bool)} (tb:Tabs P) {T T2:TypeId} {x y:Operand}
end
end
section
attribute [local irreducible] CJ LJ DJ Tri YV Gives Uo J0 Kj Un RV J2 OwL.L
end
section
def Jff:StrEq Tryz.prog 150 [.i,.i,.i,.i]:=
 Und [(3,[.i]),(3,[.i]),(3,[.i]),(3,[.i])] zc zc zc zc rfl (by
  intro p hp
  simp only [yU,yR,or_false] at hp
  rcases hp with rfl | rfl | rfl | rfl <;> exact K4d zc)
def Kqf {T:TypeId} {ti:TI} (h:V2 tb.tab T=some ti):∃i,Tryz.prog.info? T=some i:=by obtain ⟨i,u,z,hi,_⟩:=Uq (tb.ok _ _ h);exact ⟨i,hi⟩
def Zwe {d:Nat}:FE Tryz.prog (d + 2) 90 [.i,.i]:=by obtain ⟨i,hi⟩:=Kqf (T:=90) rfl;exact Vrf (pl:=[(3,[.i]),(3,[.i])]) zc zc hi zc zc (by intro p hp;simp only [yU,yR,or_false] at hp;rcases hp with rfl | rfl <;> exact K4d zc)
def Y0f:StrEq Tryz.prog 93 [.i,.i,.i,.i]:=
 Und [(3,[.i]),(3,[.i]),(90,[.i,.i])] zc zc zc zc rfl (by
  intro p hp
  simp only [yU,yR,or_false] at hp
  rcases hp with rfl | rfl | rfl
  ·exact K4d zc
  ·exact K4d zc
  ·exact Zwe)
attribute [local irreducible] CJ LJ DJ Tri YV Gives Uo J0 Kj Un RV J2 OwL.L
def V7c (x y:Arr XMeas) (L:LB) (R:LS) (hx:InR (Vsa x) R) (hy:InR (Vsa y) R) (he:x.l=y.l):
 Tri Tryz.prog 61 [x.val,y.val].toArray L R (fun v M U=>v=.bool true∧L=M∧R=U):=by
 have hle:x.l.length=y.l.length:=by rw [he]
 refine Jzb Tryz.call61 hx fun hxn=>?_;refine Je 26 Tryz.call61 Tryz.func61 rfl rfl rfl ?_;apply Xbm∘qaw∘Xak∘Xak∘Xax;refine q_c ?_ ?_<;>intro hc0;·apply Xbm∘qbh;refine q_b L R ?_;exact absurd hle za
 apply qbo∘Xa4;refine Jk [(0,.slice _ _ _),(1,.slice _ _ _),(5,.int _ _)] zh fun tq0=>?_;refine q_s ([4,5]++rg 11 15) (fun g:{k:Nat // k≤x.l.length}=>[(5,.int .i64 ((g.1:Nat):Int))]) (fun g=>x.l.length - g.1) (⟨0,by omega⟩) ?_;rintro ⟨k,hk⟩ junk;try dsimp only
 apply Xaw∘Xak∘Xa2;refine q_c ?_ ?_<;>intro hc1;·
  have hxg:=Ju (l:=x.l) (k:=k) default za;have hyg:y.l[k]?=some (x.l.getD k default):=by rw [← he];exact hxg
  refine J1 (Jb (Jl (Kb (Jl ?_))));refine Kk tb [0,1,2,3,4,5,6,7,8] ([]) Kr zc zi ?_;refine K3 zOc rfl rfl rfl ?_;apply qao∘qds∘qdp;refine K3 zOc rfl rfl rfl ?_;apply qao∘qds∘qdp;refine K3 (Yqd Y0f rfl rfl zka zka rfl) rfl rfl rfl ?_;apply (qbu);refine q_c ?_ ?_<;>intro hc2;·apply Xbm∘qbt;refine q_b L R ?_;exact absurd hc2 (by simp [Yh,Jye])
  apply qbj∘Xbd;exact q_k (⟨k + 1,by omega⟩)
 apply qbk∘Xbl;refine q_b L R ?_;exact zkd
end
section
attribute [local irreducible] CJ LJ DJ Tri YV Gives Uo J0 Kj Un RV J2 OwL.L
section
variable {A B:Prop}
def Vxd(h:A→B:=by exact Jx zN rfl):=h
def Vbe(h:A→B:=by exact Vn zIb rfl rfl):=h
def Unf(h:A→B:=by exact Vn zxa rfl rfl):=h
end
def Kbd (L:LB) (R:LS):Tri Tryz.prog 51 ([]:List Value).toArray L R (fun v M U=>v=.bool true∧L=M∧R=U):=by
 refine Je 62 Tryz.call51 Tryz.func51 rfl rfl rfl ?_;apply Xbm∘qa4;refine Ufd 1 ?_;apply (qay);refine Jq rfl (Zhd ⟨none,0,[]⟩ _ _ ⟨Ja (.head _),fun i q hq=>by simp at hq⟩) rfl ?_;rintro v M U ⟨c,rfl,hx,rfl,rfl⟩;refine Jq rfl (Tri.spl (.consL .rest) (Kfe c _ 0 _ hx (yga _))) rfl ?_;rintro v M U ⟨_,rfl,s,len,dl,ho,f,n,k1,rfl,hE,hN,⟨hk1,he0⟩,⟨hs,hf,hR0⟩,rfl⟩;refine Jx zSb rfl ?_;apply Xbt∘qaq;intro b1;apply (qaq);intro b2;apply qak∘Xdo;obtain ⟨rfl,rfl,rfl,rfl,_⟩:=he0 (yga _);have hRR:∀r∈R,InR r U:=fun r hr=>hR0 r (.tail _ (.tail _ hr));obtain ⟨A,hA⟩:=Zud s.air.mine;refine Y3 (M:=⟨b2,f.cells,42⟩ :: ⟨b1,s.cells,38⟩ :: L) (List.sublist_append_left _ _) zxb ?_;have h0:=Zqb (f:=f) hE hN.rng hN.sw hN.zn hN.rp;have hI:=Juc (A:=A) h0 hA;have hq:=Kee (f:=f) (A:=A) hE hN.sw hN.zn hN.rp hA;apply (qay);refine Jx zmb rfl ?_;refine Jx zjb rfl ?_;refine Jq rfl (Vpb s f A _ _ hs hf hA) rfl ?_;rintro v M U ⟨x,S1,rfl,hxR,hx0,_,rfl,rfl⟩;rw [h0];have hx:=hx0 h0;refine Jx zSb rfl ?_;apply Xbt∘qaq;intro b3;apply qak∘Xah;refine Jx znb rfl ?_;refine Jq rfl (Vhd (gOf s f A) (Uia s f) x 0 0 2 _ _ hI hx hxR) rfl ?_;rintro v M U ⟨y,S2,rfl,hy,hyR,rfl,rfl⟩;rw [hq] at hy ⊢;refine Jx zSb rfl ?_;apply Xbt∘qaq;intro b5;apply qak∘Xb4;obtain ⟨z,h7,_⟩:=hE.zone;have hxc:x.cuts.l=[⟨true,-1,0⟩]:=by rw [hx.cuts,Zkb hE hN.sw];rfl
 have hyl:y.log.l=[⟨2,7,0,20⟩]:=hy.log;have hcn:x.cuts.l.length=1:=by rw [hxc];rfl
 have hln:y.log.l.length=1:=by rw [hyl];rfl
 have hcg:x.cuts.l[0]?=some ⟨true,-1,0⟩:=by rw [hxc];rfl
 have hlg:y.log.l[0]?=some ⟨2,7,0,20⟩:=by rw [hyl];rfl
 have hxR2:=hxR.mono (U:=S2 ++ (S1 ++ U)) fun r hr=>Ja (yk _ hr);have hcR:=hxR2.cuts;have hlR:=hyR.log;have hv:StaV x (S2 ++ (S1 ++ U)):=StaV.of hI hx hxR2.site hxR2.meas;have hfl1:(Vna x.site (gOf s f A).air x.meas.l x.time).length=1:=by rw [StaIs.flows hx,hI.flLen];exact congrArg List.length hE.roads
 apply Xbi∘Xcq;refine Zm (k:=25) zfb (fun hg3=>?_) (fun hg3=>?_);·
  replace hg3:=qb hg3;refine Vn zsb rfl rfl ?_;apply (Vbe);refine Vn zzb rfl rfl ?_;refine Vn zec rfl rfl ?_;apply Vxd∘qah;refine Zm (k:=31) zfb (fun hg9=>?_) (fun hg9=>?_);·
   replace hg9:=qb hg9;refine Vn zsb rfl rfl ?_;apply Vbe∘Unf;refine Vn (Uqa tb rfl rfl rfl) rfl rfl ?_;refine Vn zaa rfl rfl ?_;apply Vxd∘qah;refine Zm (k:=38) zfb (fun hg16=>?_) (fun hg16=>?_);·
    replace hg16:=qb hg16;refine Vn (Jz zgb) rfl rfl ?_;refine Vn zec rfl rfl ?_;apply Vxd∘qah;refine Zm (k:=42) zfb (fun hg20=>?_) (fun hg20=>?_);·
     replace hg20:=qb hg20;refine Vn zsb rfl rfl ?_;apply (Vbe);refine Vn zzb rfl rfl ?_;refine Vn zec rfl rfl ?_;apply Vxd∘qah;refine Zm (k:=48) zfb (fun hg26=>?_) (fun hg26=>?_);·
      replace hg26:=qb hg26;refine Vn zsb rfl rfl ?_;apply Vbe∘Unf;refine Vn zva rfl rfl ?_;refine Vn (J4 (qs:=[(0,(Value.int _ _).cells.toList),(1,(Value.int _ _).cells.toList),(3,(Value.int _ _).cells.toList)]) (out:=[_,_,_,_]) tb rfl rfl rfl rfl) rfl rfl ?_;refine Vn (Yjd Jff rfl rfl zka zka rfl) rfl rfl ?_;apply Vxd∘qah;refine Zm (k:=56) zfb (fun hg34=>?_) (fun hg34=>?_);·
       replace hg34:=qb hg34;refine Vn znb rfl rfl ?_;refine Jpb rfl (Yub x (gOf s f A).air _ _ hv (SiteE.airy hx.site hI.airy)) rfl rfl ?_;rintro v M U ⟨fl,rfl,hfl,rfl,rfl⟩;refine Vn zzb rfl rfl ?_;refine Vn zec rfl rfl ?_;apply Vxd∘Xbl;refine K0 (M:=L) (U:=R) (U8 rfl zNc) ?hp ?hL ?hR;case hp=>exact ⟨by simp [hfl,hfl1],rfl,rfl⟩
       case hL=>exact zi
       case hR=>exact fun r hr=>(hRR r hr).mono fun r hr=>Ja zF
      replace hg34:=qb hg34;exact absurd (show true=false from hg34) ze
     replace hg26:=qb hg26;(first | exact absurd rfl hg26 | (simp at hg26;done) | (simp [hcn,hln] at hg26;done) | exact absurd ze hg26)
    replace hg20:=qb hg20;(first | exact absurd rfl hg20 | (simp at hg20;done) | (simp [hcn,hln] at hg20;done) | exact absurd ze hg20)
   replace hg16:=qb hg16;(first | exact absurd rfl hg16 | (simp at hg16;done) | (simp [hcn,hln] at hg16;done) | exact absurd ze hg16)
  replace hg9:=qb hg9;(first | exact absurd rfl hg9 | (simp at hg9;done) | (simp [hcn,hln] at hg9;done) | exact absurd ze hg9)
 replace hg3:=qb hg3;(first | exact absurd rfl hg3 | (simp at hg3;done) | (simp [hcn,hln] at hg3;done) | exact absurd ze hg3)
end
section
attribute [local irreducible] CJ LJ DJ Tri YV Gives Uo J0 Kj Un RV J2 OwL.L
structure PAct where
 kind:Int
 n:Int
 m:Int
 wait:Int
 bytes:List Int
structure XAct where
 kind:Int
 n:Int
 m:Int
 wait:Int
 bytes:Arr Int
instance:Inhabited XAct:=⟨⟨0,0,0,0,⟨none,0,[]⟩⟩⟩
instance:Inhabited PAct:=⟨⟨0,0,0,0,[]⟩⟩
structure ActOk (a:PAct):Prop where
 n:-1000≤a.n∧a.n≤1000
 m:-1000≤a.m∧a.m≤1000
 wait:-2147483648≤a.wait∧a.wait≤2147483648
 bytes:BytesOk a.bytes
 len:a.bytes.length≤100000
def Juf (a:PAct):Prop:=a.kind=0∨a.kind=1∨a.kind=2
instance (a:PAct):Decidable (Juf a):=by unfold Juf;infer_instance
def Kue (g:PSite) (p:PSta) (a:PAct):PSta×Int:=
 if Juf a then Y2 g p a.bytes (p.time + a.wait)
 else if a.kind=3 then J3e g p a.n (a.m - 1) (p.time + a.wait)
 else if a.kind=4 then Y3d g p a.n a.m (p.time + a.wait)
 else if a.kind=5 then K9d g p a.n (p.time + a.wait)
 else if a.kind=6 then Zre g p (p.time + a.wait)
 else Yrf g p (p.time + a.wait)
def Zze {a:Int}:a.fdiv (2 ^ (min (8:Int).toNat IntKind.i64.bits))=a / 256:=by show a.fdiv (2 ^ 8)=_;rw [yQa _ ze];rfl
def u8m {a:Int} (h:0≤a∧a < 1048576):IntKind.u8.wrap a=a % 256:=by obtain ⟨n,rfl⟩:∃n:Nat,a=(n:Int):=⟨a.toNat,by omega⟩;unfold IntKind.wrap;simp [IntKind.bits,IntKind.signed]
def u8w {a:Int} (h:0≤a∧a≤255):IntKind.u8.wrap a=a:=by obtain ⟨n,rfl⟩:∃n:Nat,a=(n:Int):=⟨a.toNat,by omega⟩;exact Zbf za
def Tri.lendD {P : Program} {f : FuncId} {args : Array Value} {A : LB} {R : LS} {p : OwL Int} {T : TypeId} {u : Value} (hin : InB (p.L T Vd) A) (hok : p.ok 1 Vd) (h1 : 1 ≤ p.l.length)
 (h:Tri P f args [] (bsl (Yw p.arr 1 1) :: R) (fun v M U=>v=u∧[]=M∧bsl (Yw p.arr 1 1) :: R=U)):Tri P f args A R (fun v M U=>v=u∧A=M∧R=U):=by
 refine Go.Proofs.YtchfclmokpbldaaGreat.Tri.lendU (S:=[bsl (Yw p.arr 1 1)]) (fun w G hh s hs=>?_) h;rw [List.mem_singleton.1 hs];have h0:=Yu hh hin hok yf ze (subs:=[]) yg;have h2:=Ywc h0 (m:=1) ze h1 ze;have e1:p.arr.l.length - 1=(p.arr.l.drop 1).length:=by rw [yca]
 have e2:(p.arr.l.map Vd).drop 1=(p.arr.l.drop 1).map Vd:=by rw [List.map_drop]
 rw [e1,e2] at h2;exact h2
def Vpa (f:XTele):Int:=if (f.address < 0∨255 < f.address)∨f.kind < 0∨255 < f.kind then 1 else if 64 < f.data.length then 2 else 0
def U0c (f:XFrame) (L:LB) (R:LS) (hf:InR (bsl f.data) R) (hb:BytesOk f.data.l):
 Tri Tryz.prog 83 [f.val].toArray L R (fun v M U=>∃q:OwL Int,v=.tuple #[q.val,.int .i64 (Vpa f.tele)]∧q.ok 1 Vd∧q.l=(if Vpa f.tele=0 then Uuc f.tele else [])∧q.L 5 Vd ++ L=M∧∀r∈R,InR r U):=by
 refine Je 53 Tryz.call83 Tryz.func83 rfl rfl rfl ?_;apply (Xag);intro b1;apply qc4∘Xaq∘Xbn;apply Kf (G:=[_,_,_]) (j:=3) (cj:=9) rfl rfl zb rfl zfb rfl;·exact zad
 intro junk4;apply (qah);apply Kf (G:=[_,_,_]) (j:=8) (cj:=14) rfl rfl zb rfl zfb rfl;·exact zTd
 intro junk9;apply (qah);apply Kf (G:=[_,_,_]) (j:=13) (cj:=19) rfl rfl zb rfl zfb rfl;·exact zwd
 intro junk14;apply (qaf);refine q_c ?_ ?_<;>intro hc0;·
  apply Xcz∘Xav;refine K0 (M:=L) (U:=R) zQc ?hp ?hL ?hR;case hp=>(have he:Vpa f.tele=1:=by rw [Vpa,if_pos zR]);exact ubc
  case hL=>exact zi
  case hR=>exact fun r hr=>Ja hr
 apply qbo∘Xab∘Xb1;refine q_c ?_ ?_<;>intro hc1;·
  apply Xcz∘Xav;refine q_r L R zQc ?_;have he:Vpa f.tele=2:=by rw [Vpa,if_neg zR,if_pos zR]
  exact ubc
 apply qbv∘Xab∘qdg∘Xaa∘qdg∘Xaa∘qdg;refine Yl (Jm (qs:=[(0,(Value.int _ _).cells.toList),(1,(Value.int _ _).cells.toList),(2,(Value.int _ _).cells.toList),(3,(Value.int _ _).cells.toList)]) (out:=[_,_,_,_]) tb rfl rfl rfl rfl rfl rfl rfl) rfl ?_;rintro v M U ⟨b38,rfl,rfl,hR38⟩;replace hR38:=hR38.symm;subst hR38;apply (Xaa);have e1:IntKind.u8.wrap (f.data.l.length:Int)=f.data.l.length:=u8w za;have e2:IntKind.u8.wrap f.address=f.address:=u8w za;have e3:IntKind.u8.wrap f.kind=f.kind:=u8w za;rw [e1,e2,e3];have hok38:(⟨.own b38 4 [],[126,(f.data.l.length:Int),f.address,f.kind]⟩:OwL Int).ok 1 Vd:=⟨rfl,yn _,by decide,rfl⟩;refine Z9f (show _=(⟨.own b38 4 [],[126,(f.data.l.length:Int),f.address,f.kind]⟩:OwL Int).L 5 Vd ++ (⟨b1,f.cells,118⟩ :: L) by (simp [OwL.L,Ow.L,Vd,XFrame.cells,Arr.val];rfl)) ?_;refine Yl (Z0 tb (⟨.own b38 4 [],[126,(f.data.l.length:Int),f.address,f.kind]⟩:OwL Int) f.data rfl rfl rfl ze rfl rfl hok38 hf zj yf (by simp only [yv,yL];omega)) rfl ?_;rintro v M U ⟨o41,rfl,hok41,rfl,rfl⟩;apply (Xda);have hwl:(⟨o41,[126,(f.data.l.length:Int),f.address,f.kind] ++ f.data.l⟩:OwL Int).l=Vma f.tele:=rfl;have hwb:BytesOk (Vma f.tele):=fun x hx=>by
  rw [← hwl] at hx;simp only [yz,yw,yU] at hx;rcases hx with h | h | h | h | h;·omega
  ·omega
  ·omega
  ·omega
  ·exact hb x h
 have hcr:=Kbc (Vma f.tele).tail;rw [Crc] at hcr;apply (Xc0);refine Jx (Jxb (m:=1) (wd:=1) (u:=(⟨o41,[126,(f.data.l.length:Int),f.address,f.kind] ++ f.data.l⟩:OwL Int).arr) tb rfl rfl rfl rfl rfl ze zo rfl) rfl ?_;refine q_l rfl (Tri.lendD zG hok41 zo (Ymb (Yw (⟨o41,[126,(f.data.l.length:Int),f.address,f.kind] ++ f.data.l⟩:OwL Int).arr 1 1) _ _ zCb (fun x hx=>hwb x (yqa hx)))) ?_;apply (Xb4);have ecr:(Yw (⟨o41,[126,(f.data.l.length:Int),f.address,f.kind] ++ f.data.l⟩:OwL Int).arr 1 1).l=(Vma f.tele).tail:=List.drop_one;rw [ecr];obtain ⟨cr,hcre⟩:∃cr,cr=Jvb (Vma f.tele).tail:=⟨_,rfl⟩;rw [← hcre] at hcr ⊢;have e4:IntKind.u8.wrap (cr / 256)=cr / 256:=u8w za;have e5:IntKind.u8.wrap cr=cr % 256:=u8m za;apply (Xcd);refine Jx (Ybb rfl rfl ze Zze) rfl ?_;apply qdg∘qaa∘qdg;refine Yl zqb rfl ?_;rintro v M U ⟨b51,rfl,rfl,hR51⟩;replace hR51:=hR51.symm;subst hR51;rw [e4,e5];refine Joa (wd:=1) (len:=2) (cap:=2) (rows:=[Vd (cr / 256),Vd (cr % 256)]) (subs:=[]) rfl ze ze (fun r hr=>by rcases List.mem_cons.1 hr with rfl | hr;rfl;rw [List.mem_singleton.1 hr];rfl) ze rfl yg ?_;have h51:InR (bsl (⟨some ⟨b51,0,none⟩,2,[cr / 256,cr % 256]⟩:Arr Int)) (bsl (⟨some ⟨b51,0,none⟩,2,[cr / 256,cr % 256]⟩:Arr Int) :: R):=Ja (.head _);refine Yl (Z0 tb (⟨o41,[126,(f.data.l.length:Int),f.address,f.kind] ++ f.data.l⟩:OwL Int) (⟨some ⟨b51,0,none⟩,2,[cr / 256,cr % 256]⟩:Arr Int) rfl rfl rfl ze rfl rfl hok41 h51 zj yf (by simp only [yv,yL,yj];omega)) rfl ?_;rintro v M U ⟨o52,rfl,hok52,rfl,rfl⟩;apply qc4∘Xai;refine q_r ((⟨o52,([126,(f.data.l.length:Int),f.address,f.kind] ++ f.data.l) ++ [cr / 256,cr % 256]⟩:OwL Int).L 5 Vd ++ L) (bsl (⟨some ⟨b51,0,none⟩,2,[cr / 256,cr % 256]⟩:Arr Int) :: R) zQc ?_;have he:Vpa f.tele=0:=by rw [Vpa,if_neg zR,if_neg zR]
 exact ⟨(⟨o52,([126,(f.data.l.length:Int),f.address,f.kind] ++ f.data.l) ++ [cr / 256,cr % 256]⟩:OwL Int),by rw [he];rfl,hok52,by rw [he,if_pos rfl,hcre];rfl,rfl,fun r hr=>Ja (.tail _ hr)⟩
end
end Go.Proofs.YtchfclmokpbldaaGreat
