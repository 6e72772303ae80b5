/-
  Texts of one chapter, merged. By an AI agent; no person has read it.
-/
import Derived.Test.YtchfclmokpbldaaGreatEasyR
import Derived.Test.YtchfclmokpbldaaGreatCloneS
import Derived.Test.YtchfclmokpbldaaGreatEasy
import Derived.Test.YtchfclmokpbldaaGreatStaA
import Derived.Test.YtchfclmokpbldaaGreatStatM
import Derived.Test.YtchfclmokpbldaaGreatFlows
import Derived.Laws.IdiomStrings
import Derived.Test.YtchfclmokpbldaaGreatRestP
import Derived.Test.YtchfclmokpbldaaGreatCutC
import Derived.Test.YtchfclmokpbldaaGreatStrEq
import Derived.Test.YtchfclmokpbldaaGreatLaw11b
import Derived.Test.YtchfclmokpbldaaGreatRestN
import Derived.Test.YtchfclmokpbldaaGreatStaE
import Derived.Test.YtchfclmokpbldaaGreatStaG
import Derived.Test.YtchfclmokpbldaaGreatTelF
set_option linter.unusedVariables false
set_option linter.unusedSimpArgs false
set_option maxRecDepth 20000
namespace Go.Proofs.YtchfclmokpbldaaGreat
open Go.Aw Go
section
section
variable {s:XSite} {len dl ho:Int} {f:XFeeder} {A:List Bool} (h:EasyD s len dl ho)
include h
theorem J2b {n:Nat} (hn:1≤n∧n≤3) (h1:f.switches.l=Uba n) (h2:f.zones.l=[(n:Int) - 1]) (h3:f.reply=3):Vea s f=0:=by
  obtain ⟨z,h7,_⟩:=h.zone
  have hfe:feedE f.switches.l f.zones.l f.reply=0:=by
    rw [h1,h2,h3]
    have:n=1∨n=2∨n=3:=by omega
    rcases this with rfl | rfl | rfl <;> decide
  rw [Vea,(Zsc h).err,if_neg zc,hfe,if_neg zc,if_neg (by rw [h2,h7];simp),if_neg]
  rintro ⟨x,hx,h9⟩
  rw [h1,Uba,List.mem_map] at hx
  obtain ⟨i,_,rfl⟩:=hx
  exact h9 rfl
def sw1:List XSwitch:=[⟨-1,0,0,false,false⟩]
def pAw (t:Int):PSta:=⟨t,[],0,[Zx],[⟨true,-1,t⟩],[⟨true,-1,0⟩],sw1,noRest,[]⟩
theorem Y7b (h1:f.switches.l=Uba 1):Ybc s f=pAw 0:=by
  obtain ⟨z,h7,_⟩:=h.zone
  rw [Ybc,h.sens,h.conds,h7,h1]
  rfl
theorem V5c (h1:f.switches.l=Uba 1) (h2:f.zones.l=[0]) (h3:f.reply=3) (hI:Inv (gOf s f A) (pAw 0)):Jd (gOf s f A) (pAw 0) 2=pAw 2:=by
  obtain ⟨z,h7,hzr,_⟩:=h.zone
  have hI2:=hI.at (t:=2) (by show (0:Int)≤2;decide) zc
  have hv0:=hI2.valErr
  have hk:∀t,Y6 s.sensors.l [Zx] 0 t=nothingS:=fun t=>by
    rw [Y6,if_neg]
    rintro ⟨_,_,h9⟩
    exact absurd (show (-1:Int)=0 from h9) zc
  have hst:Y5 (Yq dl).level ⟨true,-1,0⟩ nothingS 2=⟨true,-1,2⟩:=rfl
  have hv:Kja (gOf s f A) { pAw 0 with time:=2 }=[0]:=by
    rw [Kja,valuesV,if_neg (by rw [hv0];decide)]
    show [Knb s.sensors.l [Zx] _ (s.conds.l.getD 0 default) ⟨true,-1,0⟩ 2]=[0]
    rw [h.conds]
    show [Knb s.sensors.l [Zx] _ (Yq dl) ⟨true,-1,0⟩ 2]=[0]
    have:Knb s.sensors.l [Zx] (flP (gOf s f A) { pAw 0 with time:=2 }) (Yq dl) ⟨true,-1,0⟩ 2=0:=by
      rw [Knb,if_neg (show ¬ (Yq dl).kind=5 by show ¬ (1:Int)=5;decide),if_neg (show ¬ (Yq dl).kind=2 by show ¬ (1:Int)=2;decide),if_neg (show ¬ (Yq dl).kind=3 by show ¬ (1:Int)=3;decide),if_neg (show ¬ (Yq dl).kind=4 by show ¬ (1:Int)=4;decide)]
      show (if (Y5 _ _ (Y6 s.sensors.l [Zx] 0 2) 2).over=false then (-1:Int) else if Zy (Y6 s.sensors.l [Zx] 0 2) 100=1 then 1 else 0)=0
      rw [hk,hst]
      decide
    rw [this]
  have hw:valuesW s [Zx] [⟨true,-1,0⟩] (flP (gOf s f A) { pAw 0 with time:=2 }) 2=[⟨true,-1,2⟩]:=by
    have hv0':valuesErr s [Zx] [⟨true,-1,0⟩] (flP (gOf s f A) { pAw 0 with time:=2 }) 2=0:=hv0
    rw [valuesW,if_neg (by rw [hv0'];decide)]
    show [U9a s.sensors.l [Zx] (s.conds.l.getD 0 default) ⟨true,-1,0⟩ 2]=_
    rw [h.conds]
    show [U9a s.sensors.l [Zx] (Yq dl) ⟨true,-1,0⟩ 2]=_
    rw [U9a,if_pos (show (Yq dl).kind=1 from rfl)]
    show [Y5 _ _ (Y6 s.sensors.l [Zx] 0 2) 2]=_
    rw [hk,hst]
  have hce:cutsErr s [0] [⟨true,-1,0⟩] 2=0:=by
    rw [cutsErr,(Zsc h).err,if_neg zc,if_neg (by rw [h7,h.conds];simp),if_neg zc]
  have hc:cutsC s [0] [⟨true,-1,0⟩] 2=[⟨true,-1,0⟩]:=by
    rw [cutsC,if_neg (by rw [hce];decide)]
    show [Y5d (J1a (s.zones.l.getD 0 default).rule.l [0]) ⟨true,-1,0⟩ 2]=_
    rw [h7]
    show [Y5d (J1a z.rule.l [0]) ⟨true,-1,0⟩ 2]=_
    rw [hzr]
    decide
  have hn:cutsN s [0] [⟨true,-1,0⟩] 2=[]:=by
    rw [cutsN,if_neg (by rw [hce];decide)]
    show (if J1a _ _≠-1∧true=false then _ else [])=([]:List Int)
    rw [if_neg (fun h=>by cases h.2)]
  have hA2:settleA (gOf s f A) { pAw 0 with time:=2 }=pAw 2:=by
    rw [settleA,hv]
    show Vga _ { pAw 0 with time:=2,watches:=valuesW s [Zx] [⟨true,-1,0⟩] (flP (gOf s f A) { pAw 0 with time:=2 }) 2,cuts:=cutsC s [0] [⟨true,-1,0⟩] 2 } (cutsN s [0] [⟨true,-1,0⟩] 2)=_
    rw [hw,hc,hn]
    rfl
  rw [Jd]
  rw [hA2]
  have hB:settleB (gOf s f A) (pAw 2)=pAw 2:=by
    rw [settleB]
    show Yr 2 (Yr 3 { pAw 2 with rest:=Zt [⟨true,-1,0⟩] noRest,sw:=(Yg sw1 f.reply 2).sw } (Yg sw1 f.reply 2).late) (Yg sw1 f.reply 2).opened=_
    rw [h3]
    have:Yg sw1 3 2=⟨sw1,[],[]⟩:=rfl
    rw [this,Zt,if_pos (.inl rfl)]
    rfl
  rw [hB]
  exact Ucd _ (fun c hc=>by rw [List.mem_singleton.1 hc]) _ (Nat.le_refl _)
theorem Ygd (h1:f.switches.l=Uba 1) (h2:f.zones.l=[0]) (h3:f.reply=3) (hA:AiryIs s.air.mine A):
    Yjc (gOf s f A) (Ybc s f) 0 0 2=({ pAw 2 with log:=[⟨2,7,0,20⟩] },20):=by
  have h0:=J2b (f:=f) h (n:=1) ⟨by decide,by decide⟩ h1 (by rw [h2];rfl) h3
  have hI:=Kpc (A:=A) h0 hA
  rw [Y7b h h1] at hI ⊢
  have hI2:=V5c h h1 h2 h3 hI
  have hI3:=hI.settle (t:=2) (by show (0:Int)≤2;decide) zc
  rw [hI2] at hI3
  have hfl:=hI3.flLen
  obtain ⟨z,h7,hzr,_⟩:=h.zone
  have he:askE s [⟨true,-1,0⟩] (flP (gOf s f A) (pAw 2)) noRest 0 0 2=20:=by
    rw [Uie h rfl (by rw [hfl];show s.air.mine.roads.l.length=1;rw [h.roads];rfl) ⟨by decide,by decide⟩,readyE,if_neg zc,h7]
    show Zaa s _ ⟨true,-1,0⟩ z 2=20
    rw [Zaa,if_neg zc,if_pos (.inl (.inl zc))]
  rw [Yjc,if_neg (by rw [Jia];show ¬ ((2:Int) < 0∨_);decide)]
  dsimp only
  rw [hI2]
  show (if askE s [⟨true,-1,0⟩] (flP (gOf s f A) (pAw 2)) noRest 0 0 2≠0 then (Yi (pAw 2) 7 0 (askE s [⟨true,-1,0⟩] (flP (gOf s f A) (pAw 2)) noRest 0 0 2),askE s [⟨true,-1,0⟩] (flP (gOf s f A) (pAw 2)) noRest 0 0 2) else _)=_
  rw [he,if_pos zc]
  rfl
end
end
section
attribute [local irreducible] CJ LJ DJ Tri YV Gives Ui J0 Ke Uh RV J2 OwL.L
structure EasyN (f:XFeeder) (n:Nat):Prop where
  rng:1≤n∧n≤3
  sw:f.switches.l=Uba n
  zn:f.zones.l=[(n:Int) - 1]
  rp:f.reply=3
theorem Ugc (c:Nat) (x:Arr Int) (k:Nat) (R:List Sl) (hx:CodesR x R) (hk:k≤x.l.length):
    Tri Tryz.prog 15 [.pointer (some ⟨c, 0, none⟩)].toArray [cblk c x k] R
      (fun v L' R'=>∃(s:XSite) (len dl ho:Int) (f:XFeeder) (n k':Nat),v=.tuple #[s.val,f.val]∧EasyD s len dl ho∧EasyN f n∧(k'≤x.l.length∧(x.l.length≤k→len=1∧dl=1∧ho=1∧n=1∧k'=k))∧(SiteR s R'∧FeederR f R'∧∀r∈R,InR r R')∧cblk c x k' :: []=L'):=by
  refine Tri.postW (Uxc c x k R hx hk) ?_
  rintro v L' R' c w ⟨s,len,dl,ho,sw,zn,n,k',rfl,hE,⟨hsk,hzk⟩,hn,hsl,hzl,hk',⟨hs,hR⟩,rfl⟩ hst
  have h1:=hst.frzO (subs:=[]) hsk (fun _=>rfl) zc (fun s hs=>by cases hs)
  have h2:=h1.frzO (subs:=[]) hzk (fun _=>rfl) zc (fun s hs=>by cases hs)
  have h3:∀r∈R',InR r (isl zn.arr :: Vhb sw.arr :: R'):=fun r hr=>Ja (.tail _ (.tail _ hr))
  exact ⟨_,_,h2,s,len,dl,ho,⟨sw.arr,zn.arr,3⟩,n,k',rfl,hE,⟨hn,hsl,hzl,rfl⟩,hk',⟨hs.mono h3,⟨Ja (.tail _ (.head _)),Ja (.head _)⟩,fun r hr=>(hR r hr).mono h3⟩,rfl⟩
end
section
section
variable {P:Program} {ρ:Operand→Value} {L:List Blk} {R:List Sl} {dst:Option Tmp} {ty:TypeId} {pos:String} {after:Array Edge} {guard:Option (Nat×Bool)} (tb:Tabs P) {T T2:TypeId} {x y:Operand}
end
end
section
attribute [local irreducible] CJ LJ DJ Tri YV Gives Ui J0 Ke Uh RV J2 OwL.L
end
section
attribute [local irreducible] CJ LJ DJ Tri YV Gives Ui J0 Ke Uh RV J2 OwL.L
end
section
theorem Joe:StrEq Tryz.prog 150 [.i,.i,.i,.i]:=
  Uwe [(3,[.i]),(3,[.i]),(3,[.i]),(3,[.i])] ze ze ze ze rfl (by
    intro p hp
    simp only [List.mem_cons,List.not_mem_nil,or_false] at hp
    rcases hp with rfl | rfl | rfl | rfl <;> exact K5f ze)
attribute [local irreducible] CJ LJ DJ Tri YV Gives Ui J0 Ke Uh RV J2 OwL.L
theorem Z1c (x y:Arr XEntry) (L:List Blk) (R:List Sl) (hx:InR (Yw x) R) (hy:InR (Yw y) R) (he:x.l=y.l):
    Tri Tryz.prog 64 [x.val,y.val].toArray L R (fun v L' R'=>v=.bool true∧L=L'∧R=R'):=by
  have hle:x.l.length=y.l.length:=by rw [he]
  refine V3a Tryz.call64 hx fun hxn=>?_
  refine Jg 26 Tryz.call64 Tryz.func64 rfl rfl rfl ?_
  refine Xbb ?_
  refine qaw ?_
  refine Xap ?_
  refine Xap ?_
  refine Xaq ?_
  refine q_c (fun hc0=>?_) (fun hc0=>?_)
  ·
   refine Xbb ?_
   refine qbh ?_
   refine q_b (L':=L) (R':=R) ?_
   exact absurd hle za
  refine qbo ?_
  refine Xb4 ?_
  refine Jo [(0,Value.slice _ _ _),(1,Value.slice _ _ _),(5,Value.int _ _)] zg fun tq0=>?_
  refine q_s [4,5,11,12,13,14,15,16,17,18,19,20,21,22,23,24,25] (fun g:{k:Nat // k≤x.l.length}=>[(5,.int .i64 ((g.1:Nat):Int))]) (fun g=>x.l.length - g.1) (⟨0,by omega⟩) ?_
  rintro ⟨k,hk⟩ junk
  try dsimp only
  refine Xce ?_
  refine Xap ?_
  refine Xbo ?_
  refine q_c (fun hc1=>?_) (fun hc1=>?_)
  ·
   have hxg:=Jw (l:=x.l) (k:=k) default za
   have hyg:y.l[k]?=some (x.l.getD k default):=by rw [← he];exact hxg
   refine J5 (Jb (Jn (Kg (Jn ?_))))
   refine Kn tb [0,1,2,3,4,5,6,7,8] ([]) K1 ze zi ?_
   refine Kv zKc rfl rfl rfl ?_
   refine qao ?_
   refine qds ?_
   refine qdp ?_
   refine Kv zKc rfl rfl rfl ?_
   refine qao ?_
   refine qds ?_
   refine qdp ?_
   refine Kv (Vrd Joe rfl rfl zka zka rfl) rfl rfl rfl ?_
   refine qbu ?_
   refine q_c (fun hc2=>?_) (fun hc2=>?_)
   ·
    refine Xbb ?_
    refine qbt ?_
    refine q_b (L':=L) (R':=R) ?_
    exact absurd hc2 (by simp [V3,V2d])
   refine qbj ?_
   refine Xdo ?_
   exact q_k (⟨k + 1,by omega⟩)
  refine qbk ?_
  refine Xba ?_
  refine q_b (L':=L) (R':=R) ?_
  exact zpd
end
section
attribute [local irreducible] CJ LJ DJ Tri YV Gives Ui J0 Ke Uh RV J2 OwL.L
section
variable {A9 B9:Prop}
theorem U0d (a:A9) (h:A9→B9:=by exact Jx zL rfl):B9:=h a
theorem Vse (a:A9) (h:A9→B9:=by exact Vp zKb rfl rfl):B9:=h a
theorem Jyf (a:A9) (h:A9→B9:=by exact Vp zua rfl rfl):B9:=h a
end
set_option maxHeartbeats 1000000 in
theorem Zqc (L:List Blk) (R:List Sl):Tri Tryz.prog 51 ([]:List Value).toArray L R (fun v L' R'=>v=.bool true∧L=L'∧R=R'):=by
  refine Jg 62 Tryz.call51 Tryz.func51 rfl rfl rfl ?_
  refine Xbb ?_
  refine qa4 ?_
  refine K1d 1 ?_
  refine qay ?_
  refine Js rfl (Zhd ⟨none,0,[]⟩ _ _ ⟨Ja (.head _),fun i q hq=>by simp at hq⟩) rfl ?_
  rintro v L' R' ⟨c,rfl,hx,rfl,rfl⟩
  refine Js rfl (Tri.spl (.consL .rest) (Ugc c _ 0 _ hx (Nat.zero_le _))) rfl ?_
  rintro v L' R' ⟨_,rfl,s,len,dl,ho,f,n,k1,rfl,hE,hN,⟨hk1,he0⟩,⟨hs,hf,hR0⟩,rfl⟩
  refine Jx zDb rfl ?_
  refine Xcx ?_
  intro b1
  refine qaq ?_
  intro b2
  refine qak ?_
  refine Xc2 ?_
  obtain ⟨rfl,rfl,rfl,rfl,_⟩:=he0 (Nat.zero_le _)
  have hRR:∀r∈R,InR r R':=fun r hr=>hR0 r (.tail _ (.tail _ hr))
  obtain ⟨A,hA⟩:=Jxe s.air.mine
  refine U2 (L':=⟨b2,f.cells,42⟩ :: ⟨b1,s.cells,38⟩ :: L) (List.sublist_append_left _ _) zqb ?_
  have h0:=J2b (f:=f) hE hN.rng hN.sw hN.zn hN.rp
  have hI:=Kpc (A:=A) h0 hA
  have hq:=Ygd (f:=f) (A:=A) hE hN.sw hN.zn hN.rp hA
  refine qay ?_
  refine Jx zmb rfl ?_
  refine Jx zkb rfl ?_
  refine Js rfl (Vbb s f A _ _ hs hf hA) rfl ?_
  rintro v L' R' ⟨x,S1,rfl,hxR,hx0,_,rfl,rfl⟩
  rw [h0]
  have hx:=hx0 h0
  refine Jx zDb rfl ?_
  refine Xcx ?_
  intro b3
  refine qak ?_
  refine Xaf ?_
  refine Jx zjb rfl ?_
  refine Js rfl (Y5b (gOf s f A) (Ybc s f) x 0 0 2 _ _ hI hx hxR) rfl ?_
  rintro v L' R' ⟨y,S2,rfl,hy,hyR,rfl,rfl⟩
  rw [hq] at hy ⊢
  refine Jx zDb rfl ?_
  refine Xcx ?_
  intro b5
  refine qak ?_
  refine Xb3 ?_
  obtain ⟨z,h7,_⟩:=hE.zone
  have hxc:x.cuts.l=[⟨true,-1,0⟩]:=by rw [hx.cuts,Y7b hE hN.sw];rfl
  have hyl:y.log.l=[⟨2,7,0,20⟩]:=hy.log
  have hcn:x.cuts.l.length=1:=by rw [hxc];rfl
  have hln:y.log.l.length=1:=by rw [hyl];rfl
  have hcg:x.cuts.l[0]?=some ⟨true,-1,0⟩:=by rw [hxc];rfl
  have hlg:y.log.l[0]?=some ⟨2,7,0,20⟩:=by rw [hyl];rfl
  have hxR2:=hxR.mono (R':=S2 ++ (S1 ++ R')) fun r hr=>Ja (List.mem_append_right _ hr)
  have hcR:=hxR2.cuts
  have hlR:=hyR.log
  have hv:StaV x (S2 ++ (S1 ++ R')):=StaV.of hI hx hxR2.site hxR2.meas
  have hfl1:(Vca x.site (gOf s f A).air x.meas.l x.time).length=1:=by
    rw [StaIs.flows hx,hI.flLen]
    exact congrArg List.length hE.roads
  refine Xa3 ?_
  refine qbn ?_
  refine qah ?_
  refine Jsa (k:=25) zdb (fun hg3=>?_) (fun hg3=>?_)
  ·
   replace hg3:=qb hg3
   refine Vp zzb rfl rfl ?_
   refine Vse ?_
   refine Vp ztb rfl rfl ?_
   refine Vp zRb rfl rfl ?_
   refine U0d ?_
   refine qah ?_
   refine Jsa (k:=31) zdb (fun hg9=>?_) (fun hg9=>?_)
   ·
    replace hg9:=qb hg9
    refine Vp zzb rfl rfl ?_
    refine Vse ?_
    refine Jyf ?_
    refine Vp (U3a tb rfl rfl rfl) rfl rfl ?_
    refine Vp zfa rfl rfl ?_
    refine U0d ?_
    refine qah ?_
    refine Jsa (k:=38) zdb (fun hg16=>?_) (fun hg16=>?_)
    ·
     replace hg16:=qb hg16
     refine Vp (Jy zeb) rfl rfl ?_
     refine Vp zRb rfl rfl ?_
     refine U0d ?_
     refine qah ?_
     refine Jsa (k:=42) zdb (fun hg20=>?_) (fun hg20=>?_)
     ·
      replace hg20:=qb hg20
      refine Vp zzb rfl rfl ?_
      refine Vse ?_
      refine Vp ztb rfl rfl ?_
      refine Vp zRb rfl rfl ?_
      refine U0d ?_
      refine qah ?_
      refine Jsa (k:=48) zdb (fun hg26=>?_) (fun hg26=>?_)
      ·
       replace hg26:=qb hg26
       refine Vp zzb rfl rfl ?_
       refine Vse ?_
       refine Jyf ?_
       refine Vp zsa rfl rfl ?_
       refine Vp (Kb (qs:=[(0,(Value.int _ _).cells.toList),(1,(Value.int _ _).cells.toList),(3,(Value.int _ _).cells.toList)]) (out:=[_,_,_,_]) tb rfl rfl rfl rfl) rfl rfl ?_
       refine Vp (U5d Joe rfl rfl zka zka rfl) rfl rfl ?_
       refine U0d ?_
       refine qah ?_
       refine Jsa (k:=56) zdb (fun hg34=>?_) (fun hg34=>?_)
       ·
        replace hg34:=qb hg34
        refine Vp zjb rfl rfl ?_
        refine Udb rfl (Jfb x (gOf s f A).air _ _ hv (SiteE.airy hx.site hI.airy)) rfl rfl ?_
        rintro v L' R' ⟨fl,rfl,hfl,rfl,rfl⟩
        refine Vp ztb rfl rfl ?_
        refine Vp zRb rfl rfl ?_
        refine U0d ?_
        refine Xba ?_
        refine Ks (L':=L) (R':=R) (Ya rfl zHc) ?hp ?hL ?hR
        case hp=>exact ⟨by simp [hfl,hfl1],rfl,rfl⟩
        case hL=>exact zi
        case hR=>exact fun r hr=>(hRR r hr).mono fun r hr=>Ja (by simp [hr])
       replace hg34:=qb hg34
       exact absurd (show true=false from hg34) zc
      replace hg26:=qb hg26
      (first | exact absurd rfl hg26 | (simp at hg26;done) | (simp [hcn,hln] at hg26;done) | exact absurd zc hg26)
     replace hg20:=qb hg20
     (first | exact absurd rfl hg20 | (simp at hg20;done) | (simp [hcn,hln] at hg20;done) | exact absurd zc hg20)
    replace hg16:=qb hg16
    (first | exact absurd rfl hg16 | (simp at hg16;done) | (simp [hcn,hln] at hg16;done) | exact absurd zc hg16)
   replace hg9:=qb hg9
   (first | exact absurd rfl hg9 | (simp at hg9;done) | (simp [hcn,hln] at hg9;done) | exact absurd zc hg9)
  replace hg3:=qb hg3
  (first | exact absurd rfl hg3 | (simp at hg3;done) | (simp [hcn,hln] at hg3;done) | exact absurd zc hg3)
end
section
attribute [local irreducible] CJ LJ DJ Tri YV Gives Ui J0 Ke Uh RV J2 OwL.L
section
variable {A9 B9:Prop}
theorem Urd (a:A9) (h:A9→B9:=by exact Jx zjb rfl):B9:=h a
end
structure PAct where
  kind:Int
  n:Int
  m:Int
  wait:Int
  bytes:List Int
structure XAct where
  kind:Int
  n:Int
  m:Int
  wait:Int
  bytes:Arr Int
def XAct.cells (x:XAct):List Value:=[.int .i64 x.kind,.int .i64 x.n,.int .i64 x.m,.int .i64 x.wait,x.bytes.val]
abbrev XAct.val (x:XAct):Value:=.agg #[.int .i64 x.kind,.int .i64 x.n,.int .i64 x.m,.int .i64 x.wait,x.bytes.val]
def XAct.p (x:XAct):PAct:=⟨x.kind,x.n,x.m,x.wait,x.bytes.l⟩
instance:Inhabited XAct:=⟨⟨0,0,0,0,⟨none,0,[]⟩⟩⟩
instance:Inhabited PAct:=⟨⟨0,0,0,0,[]⟩⟩
structure ActOk (a:PAct):Prop where
  n:-1000≤a.n∧a.n≤1000
  m:-1000≤a.m∧a.m≤1000
  wait:-2147483648≤a.wait∧a.wait≤2147483648
  bytes:BytesOk a.bytes
  len:a.bytes.length≤100000
def J0b (a:PAct):Prop:=a.kind=0∨a.kind=1∨a.kind=2
instance (a:PAct):Decidable (J0b a):=by unfold J0b;infer_instance
theorem Yne {a:PAct} (h0:¬ a.kind=0) (h1:¬ a.kind=1):decide (a.kind=2)=decide (J0b a):=by
  rcases Classical.em (a.kind=2) with h | h
  · rw [decide_eq_true h,decide_eq_true (p:=J0b a) (.inr (.inr h))]
  · rw [decide_eq_false h,decide_eq_false (p:=J0b a) (by unfold J0b;omega)]
def Kha (g:PSite) (p:PSta) (a:PAct):PSta×Int:=
  if J0b a then K8b g p a.bytes (p.time + a.wait)
  else if a.kind=3 then Zr g p a.n (a.m - 1) (p.time + a.wait)
  else if a.kind=4 then Yjc g p a.n a.m (p.time + a.wait)
  else if a.kind=5 then V7 g p a.n (p.time + a.wait)
  else if a.kind=6 then Kma g p (p.time + a.wait)
  else Uab g p (p.time + a.wait)
theorem Inv.done {g:PSite} {p:PSta} (h:Inv g p) {a:PAct} (ha:ActOk a):Inv g (Kha g p a).1:=by
  rw [Kha]
  split
  · exact h.feed ha.bytes _
  split
  · exact h.answer _ _ _
  split
  · exact h.ask _ _ _
  split
  · exact h.confirm _ _
  split
  · exact h.close _
  · exact h.tick _
set_option maxHeartbeats 1000000 in
theorem Kse (g:PSite) (p:PSta) (x:XSta) (a:XAct) (L:List Blk) (R:List Sl) (hI:Inv g p) (hx:StaIs g p x) (hR:StaR x R) (haR:InR (bsl a.bytes) R) (ha:ActOk a.p) (hdr:0≤p.dropped∧p.dropped≤1152921504606846976):
    Tri Tryz.prog 62 [x.val,a.val].toArray L R (Uva g (Kha g p a.p) L R):=by
  have htm:=hI.time
  have hxt:=hx.time
  have hw:-2147483648≤a.wait∧a.wait≤2147483648:=ha.wait
  have hm:-1000≤a.m∧a.m≤1000:=ha.m
  have hak:a.p.kind=a.kind:=rfl
  refine Jg 69 Tryz.call62 Tryz.func62 rfl rfl rfl ?_
  refine Xag ?_
  intro b2
  refine qax ?_
  intro b3
  refine qaq ?_
  intro b4
  refine Xaf ?_
  refine Xbe ?_
  refine qar ?_
  refine Xas ?_
  refine Xaa ?_
  refine J6 (Jb (Kg (Jn (Jn (Jh ?_)))))
  refine Xay ?_
  refine Yka [14,16,17] ((⟨fun q=>[(14,.bool q.1)],fun _=>⟨b4,staZ.cells,54⟩ :: ⟨b3,a.cells,144⟩ :: ⟨b2,x.cells,54⟩ :: L,fun _=>R,fun _=>0⟩:Head {b:Bool // b=decide (J0b a.p)})) ?_ ?_
  ·
   skip
   refine q_c (fun hc0=>?_) (fun hc0=>?_)
   ·
    refine J5 ?_
    exact q_j ⟨decide (a.kind=0),by rw [decide_eq_true hc0];exact (decide_eq_true (p:=J0b a.p) (.inl hc0)).symm⟩
   refine Xbi ?_
   refine q_c (fun hc1=>?_) (fun hc1=>?_)
   ·
    refine J5 ?_
    exact q_j ⟨decide (a.kind=1),by rw [decide_eq_true hc1];exact (decide_eq_true (p:=J0b a.p) (.inr (.inl hc1))).symm⟩
   refine qay ?_
   refine qbn ?_
   refine qaz ?_
   refine qav ?_
   exact q_j ⟨decide (a.kind=2),Yne (a:=a.p) hc0 hc1⟩
  rintro ⟨bb,hbb⟩ junk
  try dsimp only
  have hxa:((J0b a.p:Prop)↔bb=true):=by rw [hbb];simp
  refine q_c (fun hc2=>?_) (fun hc2=>?_)
  ·
   have hfa:J0b a.p:=by simpa [hbb] using hc2
   have hdo:Kha g p a.p=K8b g p a.bytes.l (x.time + a.wait):=by rw [Kha,if_pos hfa,hxt];rfl
   refine qae ?_
   refine Urd ?_
   refine Xam ?_
   refine Js rfl (Jmd g p x a.bytes (x.time + a.wait) _ _ hI hx hR haR ha.bytes ha.len hdr) rfl ?_
   exact zbd
  have hfa:¬ J0b a.p:=by simpa [hbb] using hc2
  refine Xbi ?_
  refine q_c (fun hc3=>?_) (fun hc3=>?_)
  ·
   have hdo:Kha g p a.p=Zr g p a.n (a.m - 1) (x.time + a.wait):=by rw [Kha,if_neg hfa,if_pos (show a.p.kind=3 from hc3),hxt];rfl
   refine qae ?_
   refine Urd ?_
   refine Xbe ?_
   refine qa9 ?_
   refine qaa ?_
   refine Js rfl (Jqc g p x a.n (a.m - 1) (x.time + a.wait) _ _ hI hx hR) rfl ?_
   exact zbd
  refine Xbi ?_
  refine q_c (fun hc4=>?_) (fun hc4=>?_)
  ·
   have hdo:Kha g p a.p=Yjc g p a.n a.m (x.time + a.wait):=by rw [Kha,if_neg hfa,if_neg zjc,if_pos (show a.p.kind=4 from hc4),hxt];rfl
   refine qae ?_
   refine Urd ?_
   refine Xaa ?_
   refine Xam ?_
   refine Js rfl (Y5b g p x a.n a.m (x.time + a.wait) _ _ hI hx hR) rfl ?_
   exact zbd
  refine Xbi ?_
  refine q_c (fun hc5=>?_) (fun hc5=>?_)
  ·
   have hdo:Kha g p a.p=V7 g p a.n (x.time + a.wait):=by rw [Kha,if_neg hfa,if_neg zjc,if_neg (show ¬ a.p.kind=4 from hc4),if_pos (show a.p.kind=5 from hc5),hxt];rfl
   refine qae ?_
   refine Urd ?_
   refine Xam ?_
   refine Js rfl (Yxb g p x a.n (x.time + a.wait) _ _ hI hx hR) rfl ?_
   exact zbd
  refine Xbi ?_
  refine q_c (fun hc6=>?_) (fun hc6=>?_)
  ·
   have hdo:Kha g p a.p=Kma g p (x.time + a.wait):=by rw [Kha,if_neg hfa,if_neg zjc,if_neg (show ¬ a.p.kind=4 from hc4),if_neg (show ¬ a.p.kind=5 from hc5),if_pos (show a.p.kind=6 from hc6),hxt];rfl
   refine qae ?_
   refine Urd ?_
   refine qaa ?_
   refine Js rfl (Vdc g p x (x.time + a.wait) _ _ hI hx hR) rfl ?_
   exact zbd
  have hdo:Kha g p a.p=Uab g p (x.time + a.wait):=by rw [Kha,if_neg hfa,if_neg zjc,if_neg (show ¬ a.p.kind=4 from hc4),if_neg (show ¬ a.p.kind=5 from hc5),if_neg (show ¬ a.p.kind=6 from hc6),hxt];rfl
  refine J5 (Ji (Jb (Jn (Jh ?_))))
  refine Urd ?_
  refine qaa ?_
  refine Js rfl (Jld g p x (x.time + a.wait) _ _ hI hx hR) rfl ?_
  rintro v L' R' ⟨y,S,rfl,hy,hyR,rfl,rfl⟩
  refine Xa4 ?_
  refine Xbl ?_
  refine q_r (L':=L) (R':=S ++ R) zLc ?_
  exact ⟨y,S,by rw [hdo],by rw [hdo];exact hy,hyR,rfl,rfl⟩
end
section
attribute [local irreducible] CJ LJ DJ Tri YV Gives Ui J0 Ke Uh RV J2 OwL.L
theorem Zbd {a:Int}:a.fdiv (2 ^ (min (8:Int).toNat IntKind.i64.bits))=a / 256:=by
  show a.fdiv (2 ^ 8)=_
  rw [Int.fdiv_eq_ediv_of_nonneg _ zc];rfl
theorem u8m {a:Int} (h:0≤a∧a < 1048576):IntKind.u8.wrap a=a % 256:=by
  obtain ⟨n,rfl⟩:∃n:Nat,a=(n:Int):=⟨a.toNat,by omega⟩
  unfold IntKind.wrap
  simp [IntKind.bits,IntKind.signed]
theorem u8w {a:Int} (h:0≤a∧a≤255):IntKind.u8.wrap a=a:=by
  obtain ⟨n,rfl⟩:∃n:Nat,a=(n:Int):=⟨a.toNat,by omega⟩
  exact Vcf za
theorem Tri.lendD {P : Program} {f : FuncId} {args : Array Value} {A : List Blk} {R : List Sl} {p : OwL Int} {T : TypeId} {u : Value} (hin : InB (p.L T Zw) A) (hok : p.ok 1 Zw) (h1 : 1 ≤ p.l.length)
    (h:Tri P f args [] (bsl (Yp p.arr 1 1) :: R) (fun v L' R'=>v=u∧[]=L'∧bsl (Yp p.arr 1 1) :: R=R')):Tri P f args A R (fun v L' R'=>v=u∧A=L'∧R=R'):=by
  refine Go.Proofs.YtchfclmokpbldaaGreat.Tri.lendU (S:=[bsl (Yp p.arr 1 1)]) (fun w G hh s hs=>?_) h
  rw [List.mem_singleton.1 hs]
  have h0:=Z1a hh hin hok (fun _=>rfl) zc (subs:=[]) (fun s hs=>by cases hs)
  have h2:=V0c h0 (m:=1) zc h1 zc
  have e1:p.arr.l.length - 1=(p.arr.l.drop 1).length:=by rw [List.length_drop]
  have e2:(p.arr.l.map Zw).drop 1=(p.arr.l.drop 1).map Zw:=by rw [List.map_drop]
  rw [e1,e2] at h2
  exact h2
def K1a (f:XTele):Int:=if (f.address < 0∨255 < f.address)∨f.kind < 0∨255 < f.kind then 1 else if 64 < f.data.length then 2 else 0
theorem Vyc (f:XFrame) (L:List Blk) (R:List Sl) (hf:InR (bsl f.data) R) (hb:BytesOk f.data.l):
    Tri Tryz.prog 83 [f.val].toArray L R (fun v L' R'=>∃q:OwL Int,v=.tuple #[q.val,.int .i64 (K1a f.tele)]∧q.ok 1 Zw∧q.l=(if K1a f.tele=0 then Y8b f.tele else [])∧q.L 5 Zw ++ L=L'∧∀r∈R,InR r R'):=by
  refine Jg 53 Tryz.call83 Tryz.func83 rfl rfl rfl ?_
  refine Xag ?_
  intro b1
  refine qc4 ?_
  refine Xas ?_
  refine Xbg ?_
  apply J9 (G:=[_,_,_]) (j:=3) (cj:=9) rfl rfl zb rfl zdb rfl
  ·
   exact zZc
  intro junk4
  refine qah ?_
  apply J9 (G:=[_,_,_]) (j:=8) (cj:=14) rfl rfl zb rfl zdb rfl
  ·
   exact zUd
  intro junk9
  refine qah ?_
  apply J9 (G:=[_,_,_]) (j:=13) (cj:=19) rfl rfl zb rfl zdb rfl
  ·
   exact zWd
  intro junk14
  refine qaf ?_
  refine q_c (fun hc0=>?_) (fun hc0=>?_)
  ·
   refine Xcw ?_
   refine Xai ?_
   refine Ks (L':=L) (R':=R) zPc ?hp ?hL ?hR
   case hp=>
    have he:K1a f.tele=1:=by rw [K1a,if_pos zY]
    exact ⟨.nil,by rw [he];rfl,OwL.nil_ok,by rw [he];rfl,by rw [Kh];rfl,fun r hr=>Ja hr⟩
   case hL=>exact zi
   case hR=>exact fun r hr=>Ja hr
  refine qbo ?_
  refine Xco ?_
  refine qaf ?_
  refine q_c (fun hc1=>?_) (fun hc1=>?_)
  ·
   refine Xcw ?_
   refine Xai ?_
   refine q_r (L':=L) (R':=R) zPc ?_
   have he:K1a f.tele=2:=by rw [K1a,if_neg zY,if_pos zY]
   exact ⟨.nil,by rw [he];rfl,OwL.nil_ok,by rw [he];rfl,by rw [Kh];rfl,fun r hr=>Ja hr⟩
  refine qbv ?_
  refine Xac ?_
  refine qdg ?_
  refine Xaa ?_
  refine qdg ?_
  refine Xaa ?_
  refine qdg ?_
  refine Y9 (Jv (qs:=[(0,(Value.int _ _).cells.toList),(1,(Value.int _ _).cells.toList),(2,(Value.int _ _).cells.toList),(3,(Value.int _ _).cells.toList)]) (out:=[_,_,_,_]) tb rfl rfl rfl rfl rfl rfl rfl) rfl ?_
  rintro v L' R' ⟨b38,rfl,rfl,hR38⟩
  replace hR38:=hR38.symm;subst hR38
  refine Xaa ?_
  have e1:IntKind.u8.wrap (f.data.l.length:Int)=f.data.l.length:=u8w za
  have e2:IntKind.u8.wrap f.address=f.address:=u8w za
  have e3:IntKind.u8.wrap f.kind=f.kind:=u8w za
  rw [e1,e2,e3]
  have hok38:(⟨.own b38 4 [],[126,(f.data.l.length:Int),f.address,f.kind]⟩:OwL Int).ok 1 Zw:=⟨rfl,Nat.le_refl _,by decide,rfl⟩
  refine Yaf (show _=(⟨.own b38 4 [],[126,(f.data.l.length:Int),f.address,f.kind]⟩:OwL Int).L 5 Zw ++ (⟨b1,f.cells,118⟩ :: L) by (simp [OwL.L,Ow.L,Zw,XFrame.cells,Arr.val];rfl)) ?_
  refine Y9 (Yo tb (⟨.own b38 4 [],[126,(f.data.l.length:Int),f.address,f.kind]⟩:OwL Int) f.data rfl rfl rfl zc rfl rfl hok38 hf zj (fun _=>rfl) zla) rfl ?_
  rintro v L' R' ⟨o41,rfl,hok41,rfl,rfl⟩
  refine Xcm ?_
  have hwl:(⟨o41,[126,(f.data.l.length:Int),f.address,f.kind] ++ f.data.l⟩:OwL Int).l=Vaa f.tele:=rfl
  have hwb:BytesOk (Vaa f.tele):=fun x hx=>by
    rw [← hwl] at hx
    simp only [List.cons_append,List.nil_append,List.mem_cons] at hx
    rcases hx with h | h | h | h | h
    · omega
    · omega
    · omega
    · omega
    · exact hb x h
  have hcr:=Khc (Vaa f.tele).tail
  rw [Crc] at hcr
  refine Xcy ?_
  refine Jx (Kbb (m:=1) (wd:=1) (u:=(⟨o41,[126,(f.data.l.length:Int),f.address,f.kind] ++ f.data.l⟩:OwL Int).arr) tb rfl rfl rfl rfl rfl zc zo rfl) rfl ?_
  refine q_l rfl (Tri.lendD zO hok41 zo (V8b (Yp (⟨o41,[126,(f.data.l.length:Int),f.address,f.kind] ++ f.data.l⟩:OwL Int).arr 1 1) _ _ zpb (fun x hx=>hwb x (List.mem_of_mem_drop hx)))) ?_
  refine Xb3 ?_
  have ecr:(Yp (⟨o41,[126,(f.data.l.length:Int),f.address,f.kind] ++ f.data.l⟩:OwL Int).arr 1 1).l=(Vaa f.tele).tail:=List.drop_one
  rw [ecr]
  obtain ⟨cr,hcre⟩:∃cr,cr=Jtb (Vaa f.tele).tail:=⟨_,rfl⟩
  rw [← hcre] at hcr ⊢
  have e4:IntKind.u8.wrap (cr / 256)=cr / 256:=u8w za
  have e5:IntKind.u8.wrap cr=cr % 256:=u8m za
  refine Xca ?_
  refine Jx (J3b rfl rfl zc Zbd) rfl ?_
  refine qdg ?_
  refine qaa ?_
  refine qdg ?_
  refine Y9 znb rfl ?_
  rintro v L' R' ⟨b51,rfl,rfl,hR51⟩
  replace hR51:=hR51.symm;subst hR51
  rw [e4,e5]
  refine Jua (wd:=1) (len:=2) (cap:=2) (rows:=[Zw (cr / 256),Zw (cr % 256)]) (subs:=[]) rfl zc zc (fun r hr=>by rcases List.mem_cons.1 hr with rfl | hr;rfl;rw [List.mem_singleton.1 hr];rfl) zc rfl (fun s hs=>by cases hs) ?_
  have h51:InR (bsl (⟨some ⟨b51,0,none⟩,2,[cr / 256,cr % 256]⟩:Arr Int)) (bsl (⟨some ⟨b51,0,none⟩,2,[cr / 256,cr % 256]⟩:Arr Int) :: R):=Ja (.head _)
  refine Y9 (Yo tb (⟨o41,[126,(f.data.l.length:Int),f.address,f.kind] ++ f.data.l⟩:OwL Int) (⟨some ⟨b51,0,none⟩,2,[cr / 256,cr % 256]⟩:Arr Int) rfl rfl rfl zc rfl rfl hok41 h51 zj (fun _=>rfl) (by simp only [List.length_cons,List.length_nil,List.length_append];omega)) rfl ?_
  rintro v L' R' ⟨o52,rfl,hok52,rfl,rfl⟩
  refine qc4 ?_
  refine Xah ?_
  refine q_r (L':=(⟨o52,([126,(f.data.l.length:Int),f.address,f.kind] ++ f.data.l) ++ [cr / 256,cr % 256]⟩:OwL Int).L 5 Zw ++ L) (R':=bsl (⟨some ⟨b51,0,none⟩,2,[cr / 256,cr % 256]⟩:Arr Int) :: R) zPc ?_
  have he:K1a f.tele=0:=by rw [K1a,if_neg zY,if_neg zY]
  exact ⟨(⟨o52,([126,(f.data.l.length:Int),f.address,f.kind] ++ f.data.l) ++ [cr / 256,cr % 256]⟩:OwL Int),by rw [he];rfl,hok52,by rw [he,if_pos rfl,hcre];rfl,rfl,fun r hr=>Ja (.tail _ hr)⟩
end
end Go.Proofs.YtchfclmokpbldaaGreat
