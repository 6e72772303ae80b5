/-
  Draws: MakeS, Make, BranchW, Draw1, Draw2, FitS, Fit, MadeS, Made, New, Base, in one text. By an AI agent; no person has read it.
-/
import Derived.Test.YtchfclmokpbldaaGreatFlows
import Derived.Test.YtchfclmokpbldaaGreatOwn
set_option linter.unusedVariables false
set_option linter.unusedSimpArgs false
section
variable {A9 B9:Prop}
theorem U6e (a:A9) (h:A9→B9:=by exact Kx (Jk tb rfl rfl rfl rfl (i:=(a.doors.l.getD k default).road.toNat) zk za) rfl rfl rfl rfl):B9:=h a
theorem Y2e (a:A9) (h:A9→B9:=by exact Kx (Jk tb rfl rfl rfl rfl (i:=k) zk za) rfl rfl rfl rfl):B9:=h a
theorem Vvf (a:A9) (h:A9→B9:=by exact Kj tb [] [0,1,2,3,4,5,6,7,8,9,10] [11] (_) _ K1 ze zi (by (repeat (first | apply List.Sublist.cons (a:=Blk.mk b20 _ _) | apply List.Sublist.cons_cons));exact List.Sublist.refl _)):B9:=h a
theorem Kwf (a:A9) (h:A9→B9:=by exact Kj tb [] [0,1,2,3,4,5,6,7,8,9,10] [11] (_) _ K1 ze zi (by (repeat (first | apply List.Sublist.cons (a:=Blk.mk b14 _ _) | apply List.Sublist.cons_cons));exact List.Sublist.refl _)):B9:=h a
end
section
namespace Go.Proofs.YtchfclmokpbldaaGreat
open Go.Aw Go
def Yu (a : XAir) (s : XSetting) : Nat → List XSpan
  | 0=>List.replicate a.mine.roads.l.length ⟨0,0⟩
  | k + 1=>
    let d:=a.doors.l.getD k default
    let x:=Ysa d (s.doors.l.getD k 0)
    let y:=(Yu a s k).getD d.road.toNat default
    (Yu a s k).set d.road.toNat ⟨y.low + x.low,y.high + x.high⟩
theorem Jfa (a : XAir) (s : XSetting) : ∀ k, (Yu a s k).length = a.mine.roads.l.length
  | 0=>by simp [Yu]
  | k + 1=>by simp only [Yu,List.length_set];exact Jfa a s k
theorem Zfa {a:XAir} {s:XSetting} (ha:AirOk a) {r:Nat} (hr:r < a.mine.roads.l.length):∀k,k≤a.doors.l.length→∃x:XSpan,(Yu a s k)[r]?=some x∧
    (Vh a s r k).low=(a.mine.roads.l.getD r default).rest.low + x.low∧(Vh a s r k).high=(a.mine.roads.l.getD r default).rest.high + x.high
  | 0,_=>⟨⟨0,0⟩,by simp [Yu,hr],by simp [Vh],by simp [Vh]⟩
  | k + 1,hk=>by
    obtain ⟨x,h1,h2,h3⟩:=Zfa (s:=s) ha hr k za
    have hd:=ha.door k _ (Jw default (show k < a.doors.l.length by omega))
    have hd0:=hd.1.road
    simp only [Yu,Vh]
    by_cases he:(a.doors.l.getD k default).road=(r:Int)
    · rw [if_pos he]
      have he':(a.doors.l.getD k default).road.toNat=r:=by omega
      rw [he']
      have hg:(Yu a s k).getD r default=x:=by rw [List.getD_eq_getElem?_getD,h1];rfl
      refine ⟨_,List.getElem?_set_self (by rw [Jfa];exact hr),?_,?_⟩ <;> rw [hg] <;> dsimp only <;> omega
    · rw [if_neg he]
      have he':¬ (a.doors.l.getD k default).road.toNat=r:=by omega
      exact ⟨x,by rw [List.getElem?_set_ne he'];exact h1,h2,h3⟩
def Uj (a : XAir) : Nat → List Nat
  | 0=>[]
  | k + 1=>if (a.mine.roads.l.getD k default).closed=true then Uj a k else Uj a k ++ [k]
def Jid (a : XAir) (v : Nat) : Nat → List Int
  | 0=>[]
  | k + 1=>
    if (a.mine.roads.l.getD k default).closed=true then Jid a v k
    else if (a.mine.roads.l.getD k default).fr=(v:Int)∨(a.mine.roads.l.getD k default).to=(v:Int) then Jid a v k ++ [((Uj a k).length:Int)]
    else Jid a v k
theorem Uia (a : XAir) : ∀ k, (Uj a k).length ≤ k
  | 0=>by simp [Uj]
  | k + 1=>by
    have:=Uia a k
    simp only [Uj]
    split
    · omega
    · simp;omega
theorem J8a (a : XAir) (v : Nat) : ∀ k, (Jid a v k).length ≤ k
  | 0=>by simp [Jid]
  | k + 1=>by
    have:=J8a a v k
    simp only [Jid]
    split
    · omega
    · split
      · simp;omega
      · omega
structure XNet where
  pipes:Arr XPipe
  at_:Arr (Arr Int)
abbrev XNet.val (n:XNet):Value:=.agg #[n.pipes.val,n.at_.val]
def XNet.cells (n:XNet):List Value:=[n.pipes.val,n.at_.val]
def Jef (x:Arr Int):List Value:=[x.val]
abbrev Yla (x:Arr XPipe):Sl:=x.sl 12 XPipe.cells (x.l.map XPipe.sl)
abbrev Via (x:Arr (Arr Int)):Sl:=x.sl 1 Jef (x.l.map isl)
structure NetIs (a:XAir) (s:XSetting) (n:XNet):Prop where
  nums:n.pipes.l.map XPipe.num=(Uj a a.mine.roads.l.length).map fun (i:Nat)=>(i:Int)
  pipe:∀p∈n.pipes.l,PipeIs a s p.num p
  atl:n.at_.l.length=a.mine.places.l.length
  at_:∀(v:Nat) (x:Arr Int),n.at_.l[v]?=some x→x.l=Jid a v a.mine.roads.l.length
structure MF (a:XAir) (s:XSetting) (k:Nat) (F:List (OwL XBlow)):Prop where
  len:F.length=a.mine.roads.l.length
  ok:∀(r:Nat) (p:OwL XBlow),F[r]?=some p→p.ok 5 XBlow.cells∧p.l=blowsTo a s r k
theorem MF.zero (a:XAir) (s:XSetting):MF a s 0 (List.replicate a.mine.roads.l.length OwL.nil):=by
  refine ⟨by simp,fun r p hp=>?_⟩
  rw [List.getElem?_replicate] at hp
  split at hp
  · cases hp;exact ⟨OwL.nil_ok,rfl⟩
  · cases hp
theorem MF.stay {a:XAir} {s:XSetting} {k:Nat} {F:List (OwL XBlow)} (h:MF a s k F) (hs:s.fans.l.getD k 0=0):MF a s (k + 1) F:=by
  refine ⟨h.len,fun r p hp=>?_⟩
  rw [blowsTo,if_neg (fun h=>h.1 hs)]
  exact h.ok r p hp
theorem MF.next {a : XAir} {s : XSetting} {k : Nat} {F : List (OwL XBlow)} (h : MF a s k F) (hs : ¬ s.fans.l.getD k 0 = 0) {i : Nat} (hi : (i : Int) = (a.fans.l.getD k default).road) {p : OwL XBlow} (hp : F[i]? = some p) {o : Ow}
    (ho:(⟨o,p.l ++ [⟨a.fans.l.getD k default,s.fans.l.getD k 0⟩]⟩:OwL XBlow).ok 5 XBlow.cells):MF a s (k + 1) (F.set i ⟨o,p.l ++ [⟨a.fans.l.getD k default,s.fans.l.getD k 0⟩]⟩):=by
  refine ⟨by simp [h.len],fun r q hq=>?_⟩
  rw [List.getElem?_set] at hq
  split at hq
  · rename_i hri
    subst hri
    split at hq
    · cases hq
      refine ⟨ho,?_⟩
      dsimp only
      rw [blowsTo,if_pos ⟨hs,hi.symm⟩,(h.ok i p hp).2]
    · cases hq
  · rename_i hri
    rw [blowsTo,if_neg (fun h=>hri za)]
    exact h.ok r q hq
structure MA (a:XAir) (k:Nat) (G:List (OwL Int)):Prop where
  len:G.length=a.mine.places.l.length
  ok:∀(v:Nat) (p:OwL Int),G[v]?=some p→p.ok 1 Jp∧p.l=Jid a v k
theorem MA.zero (a:XAir):MA a 0 (List.replicate a.mine.places.l.length OwL.nil):=by
  refine ⟨by simp,fun r p hp=>?_⟩
  rw [List.getElem?_replicate] at hp
  split at hp
  · cases hp;exact ⟨OwL.nil_ok,rfl⟩
  · cases hp
theorem MA.stay {a:XAir} {k:Nat} {G:List (OwL Int)} (h:MA a k G) (hc:(a.mine.roads.l.getD k default).closed=true):MA a (k + 1) G:=by
  refine ⟨h.len,fun v p hp=>?_⟩
  rw [Jid,if_pos hc]
  exact h.ok v p hp
theorem MA.next {a : XAir} {k : Nat} {G : List (OwL Int)} (h : MA a k G) (hc : ¬ (a.mine.roads.l.getD k default).closed = true) {i j : Nat} (hi : (i : Int) = (a.mine.roads.l.getD k default).fr) (hj : (j : Int) = (a.mine.roads.l.getD k default).to) (hne : i ≠ j)
    {p q:OwL Int} (hp:G[i]?=some p) (hq:G[j]?=some q) {o o':Ow} {n:Int} (hn:n=((Uj a k).length:Int)) (ho:(⟨o,p.l ++ [n]⟩:OwL Int).ok 1 Jp) (ho':(⟨o',q.l ++ [n]⟩:OwL Int).ok 1 Jp):
    MA a (k + 1) ((G.set i ⟨o,p.l ++ [n]⟩).set j ⟨o',q.l ++ [n]⟩):=by
  refine ⟨by simp [h.len],fun v x hx=>?_⟩
  rw [Jid,if_neg hc]
  rw [List.getElem?_set] at hx
  split at hx
  · rename_i hv
    subst hv
    split at hx
    · cases hx
      refine ⟨ho',?_⟩
      dsimp only
      rw [if_pos (.inr hj.symm),(h.ok j q hq).2,hn]
    · cases hx
  · rename_i hv
    rw [List.getElem?_set] at hx
    split at hx
    · rename_i hv2
      subst hv2
      split at hx
      · cases hx
        refine ⟨ho,?_⟩
        dsimp only
        rw [if_pos (.inl hi.symm),(h.ok i p hp).2,hn]
      · cases hx
    · rename_i hv2
      rw [if_neg za]
      exact h.ok v x hx
structure MP (a:XAir) (s:XSetting) (S:List Sl) (k:Nat) (P:OwL XPipe):Prop where
  ok:P.ok 12 XPipe.cells
  nums:P.l.map XPipe.num=(Uj a k).map fun (i:Nat)=>(i:Int)
  pipe:∀p∈P.l,PipeIs a s p.num p∧InR p.sl S
theorem MP.length {a:XAir} {s:XSetting} {S:List Sl} {k:Nat} {P:OwL XPipe} (h:MP a s S k P):P.l.length=(Uj a k).length:=by
  have:=congrArg List.length h.nums
  simpa using this
theorem MP.zero (a:XAir) (s:XSetting) (S:List Sl):MP a s S 0 OwL.nil:=⟨OwL.nil_ok,rfl,fun _ h=>by cases h⟩
theorem MP.stay {a:XAir} {s:XSetting} {S:List Sl} {k:Nat} {P:OwL XPipe} (h:MP a s S k P) (hc:(a.mine.roads.l.getD k default).closed=true):MP a s S (k + 1) P:=
  ⟨h.ok,by rw [Uj,if_pos hc];exact h.nums,h.pipe⟩
theorem MP.next {a:XAir} {s:XSetting} {S:List Sl} {k:Nat} {P:OwL XPipe} (h:MP a s S k P) (hc:¬ (a.mine.roads.l.getD k default).closed=true) {p:XPipe} (hp:PipeIs a s k p) (hs:InR p.sl S) {o:Ow} (ho:(⟨o,P.l ++ [p]⟩:OwL XPipe).ok 12 XPipe.cells):
    MP a s S (k + 1) ⟨o,P.l ++ [p]⟩:=by
  refine ⟨ho,?_,fun q hq=>?_⟩
  · rw [Uj, if_neg hc]
    simp [h.nums,hp.num]
  · rcases List.mem_append.1 hq with hq | hq
    · exact h.pipe q hq
    · rw [List.mem_singleton.1 hq]
      refine ⟨?_,hs⟩
      rw [hp.num]
      exact hp
theorem Jwc {α:Type} {T:TypeId} {f:α→List Value} (n:Nat):(List.replicate n (OwL.nil:OwL α)).flatMap (OwL.L T f)=[]:=by
  induction n with
  | zero=>rfl
  | succ n ih=>rw [List.replicate_succ,List.flatMap_cons,ih];rfl
theorem Jlc {α:Type} (n:Nat):Yzb [.slice none 0 0] n=(List.replicate n (OwL.nil:OwL α)).flatMap Jkb:=Vcb (f:=Jkb) (x:=OwL.nil) rfl n
theorem Ydd (n:Nat):Yzb [.int .i64 0,.int .i64 0] n=(List.replicate n (⟨0,0⟩:XSpan)).flatMap XSpan.cells:=Vcb (f:=XSpan.cells) (x:=⟨0,0⟩) rfl n
end Go.Proofs.YtchfclmokpbldaaGreat
end
section
namespace Go.Proofs.YtchfclmokpbldaaGreat
open Go.Aw Go
set_option maxRecDepth 20000
attribute [local irreducible] CJ LJ DJ Tri YV Gives Ui J0 Ke Uh RV J2 OwL.L
theorem J3c (a:XAir) (s:XSetting) (L:List Blk) (R:List Sl) (hm:AirR a R) (hs:SetR s R) (ha:AirOk a) (hf:FitOk a s):
    Tri Tryz.prog 113 [a.val,s.val].toArray L R (fun v L' R'=>∃n:XNet,v=n.val∧NetIs a s n∧L=L'∧Yla n.pipes :: Via n.at_ :: R=R'):=by
  have hmr:=hm.roads
  have hmp:=hm.places
  have hfa:=hm.fans
  have hdo:=hm.doors
  have hsf:=hs.fans
  have hsd:=hs.doors
  have hnd:=ha.ndoors
  have hnf:=ha.nfans
  have hlf:=hf.lf
  have hld:=hf.ld
  have hnr:=ha.mine.roads
  have hnp:=ha.mine.places
  refine Jg 181 Tryz.call113 Tryz.func113 rfl rfl rfl ?_
  refine Xag ?_
  intro b2
  refine qax ?_
  intro b3
  refine qaq ?_
  intro b4
  refine qam ?_
  refine Xck ?_
  refine qc7 ?_
  rintro v L' R' ⟨b20,rfl,rfl,hR20⟩
  replace hR20:=hR20.symm;subst hR20
  refine qc4 ?_
  refine qam ?_
  refine Xck ?_
  refine qc7 ?_
  rintro v L' R' ⟨b25,rfl,rfl,hR25⟩
  replace hR25:=hR25.symm;subst hR25
  refine Xb9 ?_
  refine Xaw ?_
  refine Jo [(2,Value.pointer _),(3,Value.pointer _),(4,Value.pointer _),(5,Value.slice _ _ _),(6,Value.slice _ _ _),(27,Value.slice _ _ _),(28,Value.int _ _),(29,Value.int _ _)] zg fun tq0=>?_
  refine Vm [7,8,9,29,30,31,32,33,34,35,36,37,38,39,40,41,42,43,44,45,46,47,48,49,50,51,52,53,54,55,56,57,58,59,60,61,62,63] ((⟨fun g=>[(29,.int .i64 ((g.1:Nat):Int))],fun g=>⟨b25,Yzb [.slice none 0 0] a.mine.roads.l.length,223⟩ :: ⟨b20,(Yu a s g.1).flatMap XSpan.cells,90⟩ :: ⟨b4,[.slice none 0 0,.slice none 0 0],221⟩ :: ⟨b3,s.cells,80⟩ :: ⟨b2,a.cells,32⟩ :: L,fun _=>R,fun g=>a.doors.l.length - g.1⟩:Head {k:Nat // k≤a.doors.l.length})) (⟨0,by omega⟩) zg (by dsimp only;rw [Yu,← Ydd];exact List.Sublist.refl _) zqb ?_
  rintro ⟨k,hk⟩ junk
  try dsimp only
  refine Xak ?_
  refine q_c (fun hc0=>?_) (fun hc0=>?_)
  ·
   have hd:=Jw (l:=a.doors.l) (k:=k) default za
   have hsk:=Jw (l:=s.doors.l) (k:=k) 0 za
   have hdk:=ha.door _ _ hd
   have hdr:=hdk.1.road
   have hrl:=Jfa a s k
   obtain ⟨y,hy,hy1,hy2⟩:=Zfa (s:=s) ha (r:=(a.doors.l.getD k default).road.toNat) za k za
   have hyb:=Zq (s:=s) ha (r:=(((a.doors.l.getD k default).road.toNat:Nat):Int)) za k za
   have hrb:=K2b hdk.1 (s.doors.l.getD k 0)
   have hrr:=(ha.mine.road _ _ (Jw (l:=a.mine.roads.l) (k:=(a.doors.l.getD k default).road.toNat) default za)).rest
   have hyg:(Yu a s k).getD (a.doors.l.getD k default).road.toNat default=y:=getD_some hy
   refine Xa2 ?_
   refine qa3 ?_
   refine qdk ?_
   refine qaq ?_
   intro b8
   refine qad ?_
   refine Xc2 ?_
   refine Kn tb [0,1,2,3,4,5,6,7,8] _ K1 ze (List.Sublist.refl _) ?_
   refine Kv zkb rfl rfl rfl ?_
   refine Xb1 ?_
   refine qb5 ?_
   refine qbl ?_
   refine q_d rfl (K2e (a.doors.l.getD k default) (s.doors.l.getD k 0) _ _ (hdo.door hd)) ?_
   refine qbr ?_
   intro b9
   refine qbg ?_
   refine qb9 ?_
   refine Vvf ?_
   refine Xcu ?_
   refine U6e ?_
   refine qcv ?_
   refine qcr ?_
   refine Xar ?_
   refine qcj ?_
   refine U6e ?_
   refine qcv ?_
   refine qba ?_
   refine Zh (v:=Value.int _ _) rfl rfl rfl rfl zA zN (by exact Kga (x':=⟨y.low + (Ysa (a.doors.l.getD k default) (s.doors.l.getD k 0)).low,y.high⟩) (fun _=>rfl) zc zh zb) zb zi ?_
   refine qbu ?_
   obtain ⟨y2,hy2e⟩:∃y2:XSpan,y2=⟨y.low + (Ysa (a.doors.l.getD k default) (s.doors.l.getD k 0)).low,y.high⟩:=⟨_,rfl⟩
   have hy':((Yu a s k).set (a.doors.l.getD k default).road.toNat ⟨y.low + (Ysa (a.doors.l.getD k default) (s.doors.l.getD k 0)).low,y.high⟩)[(a.doors.l.getD k default).road.toNat]?=some y2:=by rw [hy2e];exact List.getElem?_set_self za
   have hy2h:y2.high=y.high:=by rw [hy2e]
   refine Vvf ?_
   refine Xcu ?_
   refine U6e ?_
   refine qcv ?_
   refine qcr ?_
   refine Xar ?_
   refine qcj ?_
   refine U6e ?_
   refine qcv ?_
   refine qba ?_
   refine Zh (v:=Value.int _ _) rfl rfl rfl rfl zA zN (by exact Kga (x':=⟨y2.low,y2.high + (Ysa (a.doors.l.getD k default) (s.doors.l.getD k 0)).high⟩) (fun _=>rfl) zc zh zb) zb zi ?_
   refine Xc7 ?_
   subst hy2e
   exact Kf ⟨k + 1,by omega⟩ zm zg (by dsimp only;rw [List.set_set,Yu];(try dsimp only);rw [hyg];exact zi) zqb zx
  obtain rfl:k=a.doors.l.length:=by omega
  refine qcf ?_
  refine Xaw ?_
  refine Jo [(2,Value.pointer _),(3,Value.pointer _),(4,Value.pointer _),(5,Value.slice _ _ _),(6,Value.slice _ _ _),(65,Value.slice _ _ _),(66,Value.int _ _),(67,Value.int _ _)] zg fun tq1=>?_
  refine Vm [10,11,67,68,69,70,71,72,73,74,75,76,77,78,79,80,81,82,83,84,85,86,87,88,89,90,91,92,93,94,95,96] ((⟨fun g=>[(67,.int .i64 ((g.1.1:Nat):Int))],fun g=>⟨b25,g.1.2.flatMap Jkb,223⟩ :: ⟨b20,(Yu a s a.doors.l.length).flatMap XSpan.cells,90⟩ :: ⟨b4,[.slice none 0 0,.slice none 0 0],221⟩ :: ⟨b3,s.cells,80⟩ :: ⟨b2,a.cells,32⟩ :: (g.1.2.flatMap (OwL.L 292 XBlow.cells) ++ L),fun _=>R,fun g=>a.fans.l.length - g.1.1⟩:Head {g:Nat×List (OwL XBlow) // g.1≤a.fans.l.length∧MF a s g.1 g.2})) (⟨(0,List.replicate a.mine.roads.l.length OwL.nil),by omega,MF.zero a s⟩) zg (by dsimp only;rw [Jwc,← Jlc];exact List.Sublist.refl _) zqb ?_
  rintro ⟨⟨k,F⟩,hk,hF⟩ junk
  try dsimp only
  dsimp only at hk hF
  refine Xak ?_
  refine q_c (fun hc1=>?_) (fun hc1=>?_)
  ·
   have hd:=Jw (l:=a.fans.l) (k:=k) default za
   have hsk:=Jw (l:=s.fans.l) (k:=k) 0 za
   have hdk:=ha.fan _ _ hd
   have hdr:=hdk.1.road
   have hFl:=hF.len
   have hfl:(a.fans.l.getD k default).road.toNat < F.length:=by omega
   obtain ⟨p,hp⟩:=Kr hfl
   have hpk:=hF.ok _ _ hp
   have hpl:=Kya (a:=a) (s:=s) (r:=(((a.fans.l.getD k default).road.toNat:Nat):Int)) k
   rw [← hpk.2] at hpl
   refine Xa2 ?_
   refine qa3 ?_
   refine Xcv ?_
   intro b11
   refine qad ?_
   refine Xa0 ?_
   refine Xam ?_
   refine qa3 ?_
   refine qa7 ?_
   refine Xaq ?_
   refine q_c (fun hc2=>?_) (fun hc2=>?_)
   ·
    refine Kj tb [78,79,80] [0,1,2,3,4,5,6,7,8,9,10,11,12,13,14,15] [16,17,18] ([Blk.mk b11 _ _,Blk.mk b25 _ _,Blk.mk b3 _ _]) _ K1 ze zi (by (repeat (first | apply List.Sublist.cons (a:=Blk.mk b25 _ _) | apply List.Sublist.cons_cons));exact List.Sublist.refl _) ?_
    refine V8 zKc rfl rfl rfl rfl ?_
    refine Xc6 ?_
    refine Xcu ?_
    refine Kx zrc rfl rfl rfl rfl ?_
    refine qcr ?_
    refine qde ?_
    refine Xc8 ?_
    refine qc5 ?_
    refine qci ?_
    refine Kx (Kb (qs:=[(0,(Value.agg _).cells.toList),(1,(Value.int _ _).cells.toList)]) (out:=[_,_,_,_,_]) tb rfl rfl rfl rfl) rfl rfl rfl rfl ?_
    refine Y6c zFb rfl rfl rfl ?_
    rintro v L' R' ⟨b93,rfl,rfl,hR93⟩
    replace hR93:=hR93.symm;subst hR93
    refine Xcz ?_
    refine Yjb (J8 (f:=XBlow.cells) (a:=⟨a.fans.l.getD k default,s.fans.l.getD k 0⟩) tb rfl rfl rfl rfl (hpk.1) zj zsb rfl zy) rfl rfl rfl ?_
    rintro v L' R' ⟨o94,rfl,hok94,rfl,rfl⟩
    refine qa1 ?_
    refine Kv zrc rfl rfl rfl ?_
    refine Zh (v:=Value.slice _ _ _) rfl rfl rfl rfl zA zN (by exact Kga (x':=⟨o94,p.l ++ [⟨a.fans.l.getD k default,s.fans.l.getD k 0⟩]⟩) (fun _=>rfl) zc zh zb) zb zi ?_
    refine Xc7 ?_
    first | exact q_k ⟨(k + 1,_),by dsimp only;omega,hF.next hc2 za hp hok94⟩ | exact q_k ⟨(k + 1,F),by dsimp only;omega,hF.stay zJ⟩
   refine Xax ?_
   first | exact q_k ⟨(k + 1,_),by dsimp only;omega,hF.next hc2 za hp hok94⟩ | exact q_k ⟨(k + 1,F),by dsimp only;omega,hF.stay zJ⟩
  obtain rfl:k=a.fans.l.length:=by omega
  refine qbk ?_
  refine Xck ?_
  refine qc7 ?_
  rintro v L' R' ⟨b101,rfl,rfl,hR101⟩
  replace hR101:=hR101.symm;subst hR101
  refine Jx (Kb (qs:=[(1,(Value.slice _ _ _).cells.toList)]) (out:=[_,_]) tb rfl rfl rfl rfl) rfl ?_
  refine qaq ?_
  intro b12
  refine Xa9 ?_
  refine qab ?_
  refine Xaw ?_
  refine Jo [(4,Value.pointer _),(5,Value.slice _ _ _),(6,Value.slice _ _ _),(12,Value.pointer _),(105,Value.slice _ _ _),(106,Value.int _ _),(107,Value.int _ _)] zg fun tq2=>?_
  have mem:∀p∈F,∃r:Nat,F[r]?=some p:=fun p hp=>List.mem_iff_getElem?.1 hp
  refine Znd (A:=[_,_,_,_,_,_,_]) (wd:=5) (fun b=>b.fan.sl) (fun _=>rfl) zc (fun p hp=>?okF) (fun p hp x hx=>?subF) fun S hS=>?_
  case okF=>obtain ⟨r,hr⟩:=mem p hp;exact (hF.ok r p hr).1
  case subF=>
    obtain ⟨r,hr⟩:=mem p hp
    rw [(hF.ok r p hr).2] at hx
    obtain ⟨i,hi⟩:=U6a _ (Nat.le_refl _) x hx
    exact hfa.fan hi
  refine qb1 ?_
  have hmr2:InR (rsl a.mine.roads) (S ++ R):=hmr.mono fun r h=>Ja (by simp [h])
  refine Vm [13,14,15,107,108,109,110,111,112,113,114,115,116,117,118,119,120,121,122,123,124,125,126,127,128,129,130,131,132,133,134,135,136,137,138,139,140,141,142,143,144,145,146,147,148,149,150,151,152,153,154,155,156,157,158,159,160,161,162,163,164,165,166,167,168,169,170,171,172,173,174,175,176,177,178,179] ((⟨fun g=>[(107,.int .i64 ((g.1.1:Nat):Int))],fun g=>⟨b12,[g.1.2.1.val,.slice (some ⟨b101,0,none⟩) a.mine.places.l.length a.mine.places.l.length],221⟩ :: ⟨b101,g.1.2.2.flatMap Jkb,40⟩ :: ⟨b25,F.flatMap Jkb,223⟩ :: ⟨b20,(Yu a s a.doors.l.length).flatMap XSpan.cells,90⟩ :: ⟨b4,[.slice none 0 0,.slice none 0 0],221⟩ :: ⟨b3,s.cells,80⟩ :: ⟨b2,a.cells,32⟩ :: (g.1.2.1.L 225 XPipe.cells ++ (g.1.2.2.flatMap (OwL.L 3 Jp) ++ L)),fun _=>S ++ R,fun g=>a.mine.roads.l.length - g.1.1⟩:Head {g:Nat×OwL XPipe×List (OwL Int) // g.1≤a.mine.roads.l.length∧MP a s S g.1 g.2.1∧MA a g.1 g.2.2})) (⟨(0,OwL.nil,List.replicate a.mine.places.l.length OwL.nil),by dsimp only;omega,MP.zero a s S,MA.zero a⟩) zg (by dsimp only;rw [Kh,Jwc,← Jlc];exact List.Sublist.refl _) zqb ?_
  rintro ⟨⟨k,P,G⟩,hk,hP,hG⟩ junk
  try dsimp only
  dsimp only at hk hP hG
  refine Xak ?_
  refine q_c (fun hc3=>?_) (fun hc3=>?_)
  ·
   have hr:=Jw (l:=a.mine.roads.l) (k:=k) default za
   have hro:=ha.mine.road _ _ hr
   have hr1:=hro.fr
   have hr2:=hro.to
   have hr3:=hro.ne
   have hrr:=hro.rest
   have hGl:=hG.len
   have hFl:=hF.len
   have hPl:=hP.length
   have hol:=Uia a k
   have hkF:k < F.length:=by omega
   obtain ⟨fk,hfk⟩:=Kr hkF
   have hfk2:=hF.ok _ _ hfk
   have hg1:(a.mine.roads.l.getD k default).fr.toNat < G.length:=by omega
   have hg2:(a.mine.roads.l.getD k default).to.toNat < G.length:=by omega
   obtain ⟨p,hp⟩:=Kr hg1
   obtain ⟨q,hq⟩:=Kr hg2
   have hpk:=hG.ok _ _ hp
   have hqk:=hG.ok _ _ hq
   have hpl:=J8a a (a.mine.roads.l.getD k default).fr.toNat k
   have hql:=J8a a (a.mine.roads.l.getD k default).to.toNat k
   rw [← hpk.2] at hpl
   rw [← hqk.2] at hql
   have hne:(a.mine.roads.l.getD k default).fr.toNat≠(a.mine.roads.l.getD k default).to.toNat:=by omega
   obtain ⟨y,hy,hy1,hy2⟩:=Zfa (s:=s) ha (r:=k) za a.doors.l.length za
   have hyb:=Zq (s:=s) ha (r:=((k:Nat):Int)) za a.doors.l.length za
   have hrl:=Jfa a s a.doors.l.length
   refine Xa2 ?_
   refine qa3 ?_
   refine qc8 ?_
   refine qaq ?_
   intro b14
   refine qad ?_
   refine Xa9 ?_
   refine Xaa ?_
   refine qaf ?_
   refine q_c (fun hc4=>?_) (fun hc4=>?_)
   ·
    refine K8 (Kq (Kc (Jb (Jh ?_))))
    refine Xae ?_
    first
      | exact q_k ⟨(k + 1,P,G),by dsimp only;omega,hP.stay hc4,hG.stay hc4⟩
      | have hre:Vh a s (k:Int) a.doors.l.length=⟨(a.mine.roads.l.getD k default).rest.low + y.low,(a.mine.roads.l.getD k default).rest.high + y.high⟩:=by
          cases hc:Vh a s (k:Int) a.doors.l.length with
          | mk lo hi=>rw [hc] at hy1 hy2;dsimp only at hy1 hy2;rw [hy1,hy2]
        have hcc:¬ (a.mine.roads.l.getD k default).closed=true:=by simpa using hc4
        exact q_k ⟨(k + 1,_,_),by dsimp only;omega,hP.next hcc ⟨by rw [Int.toNat_natCast,hre],rfl,hfk2.2⟩ (hS fk (List.mem_of_getElem? hfk)) hok177,hG.next hcc za za hne hp hq za hok129 hok143⟩
   refine qbv ?_
   refine Xac ?_
   refine Xb3 ?_
   refine Kj tb [117,118,119,120] [0,1,2,3,4,5,6,7,8,9,10,11] [12,13,14] ([Blk.mk b14 _ _,Blk.mk b12 _ _,Blk.mk b101 _ _]) _ K1 ze zi zMa ?_
   refine Xc6 ?_
   refine Xc6 ?_
   refine Xar ?_
   refine Xar ?_
   refine Kx zoc rfl rfl rfl rfl ?_
   refine qcr ?_
   refine qbf ?_
   refine qc9 ?_
   rintro v L' R' ⟨b128,rfl,rfl,hR128⟩
   replace hR128:=hR128.symm;subst hR128
   refine Xcz ?_
   refine Yjb (J8 (f:=Jp) (a:=(P.l.length:Int)) tb rfl rfl rfl rfl (hpk.1) zj zsb rfl zy) rfl rfl rfl ?_
   rintro v L' R' ⟨o129,rfl,hok129,rfl,rfl⟩
   refine qa1 ?_
   refine Kv zoc rfl rfl rfl ?_
   refine Zh (v:=Value.slice _ _ _) rfl rfl rfl rfl zA zN (by exact Kga (x':=⟨o129,p.l ++ [(P.l.length:Int)]⟩) (fun _=>rfl) zc zh zb) zb zi ?_
   refine qb9 ?_
   have hq':(G.set (a.mine.roads.l.getD k default).fr.toNat ⟨o129,p.l ++ [(P.l.length:Int)]⟩)[(a.mine.roads.l.getD k default).to.toNat]?=some q:=by rw [List.getElem?_set_ne hne];exact hq
   refine Kj tb [131,132,133,134] [0,1,2,3,4,5,6,7,8,9,10,11] [12,13,14] ([Blk.mk b14 _ _,Blk.mk b12 _ _,Blk.mk b101 _ _]) _ K1 ze zi zMa ?_
   refine Xc6 ?_
   refine Xc6 ?_
   refine Xar ?_
   refine Xar ?_
   refine Kx zpc rfl rfl rfl rfl ?_
   refine qcr ?_
   refine qbf ?_
   refine qc9 ?_
   rintro v L' R' ⟨b142,rfl,rfl,hR142⟩
   replace hR142:=hR142.symm;subst hR142
   refine Xcz ?_
   refine Yjb (J8 (f:=Jp) (a:=(P.l.length:Int)) tb rfl rfl rfl rfl (hqk.1) zj zsb rfl zy) rfl rfl rfl ?_
   rintro v L' R' ⟨o143,rfl,hok143,rfl,rfl⟩
   refine qa1 ?_
   refine Kv zpc rfl rfl rfl ?_
   refine Zh (v:=Value.slice _ _ _) rfl rfl rfl rfl zA zN (by exact Kga (x':=⟨o143,q.l ++ [(P.l.length:Int)]⟩) (fun _=>rfl) zc zh zb) zb zi ?_
   refine qb9 ?_
   refine Kwf ?_
   refine qan ?_
   refine Xar ?_
   refine Xc9 ?_
   refine Y2e ?_
   refine qcv ?_
   refine qcr ?_
   refine qcj ?_
   refine qan ?_
   refine qan ?_
   refine qba ?_
   refine qb6 ?_
   refine qb9 ?_
   refine Kwf ?_
   refine qan ?_
   refine Xar ?_
   refine Xc9 ?_
   refine Y2e ?_
   refine qcv ?_
   refine qcr ?_
   refine qcj ?_
   refine qan ?_
   refine qan ?_
   refine qba ?_
   refine qb6 ?_
   refine qbu ?_
   refine Kj tb [] [0,1,2,3,4,5,6,7,8,9] [10,11,12] ([Blk.mk b14 _ _,Blk.mk b12 _ _,Blk.mk b25 _ _]) _ K1 ze zi (List.nil_sublist _) ?_
   refine Xar ?_
   refine Kx (Jl (row:=[_,_,_,_,_,_,_,_,_,_]) tb rfl rfl rfl zf zb zb) rfl rfl rfl rfl ?_
   refine qbf ?_
   refine Xc9 ?_
   refine Y2e ?_
   refine qcr ?_
   refine Kx (Kb (qs:=[(0,(Value.agg _).cells.toList),(1,(Value.int _ _).cells.toList),(2,(Value.slice _ _ _).cells.toList)]) (out:=[_,_,_,_,_,_,_,_,_,_,_,_]) tb rfl rfl rfl rfl) rfl rfl rfl rfl ?_
   refine Y6c (Jv (qs:=[(0,(Value.agg _).cells.toList)]) (out:=[_,_,_,_,_,_,_,_,_,_,_,_]) tb rfl rfl rfl rfl rfl rfl rfl) rfl rfl rfl ?_
   rintro v L' R' ⟨b176,rfl,rfl,hR176⟩
   replace hR176:=hR176.symm;subst hR176
   refine Xcz ?_
   refine Yjb (J8 (f:=XPipe.cells) (a:=⟨{ a.mine.roads.l.getD k default with rest:=⟨(a.mine.roads.l.getD k default).rest.low + y.low,(a.mine.roads.l.getD k default).rest.high + y.high⟩ },(k:Int),fk.arr⟩) tb rfl rfl rfl rfl (hP.ok) zj zsb rfl zy) rfl rfl rfl ?_
   rintro v L' R' ⟨o177,rfl,hok177,rfl,rfl⟩
   refine qa1 ?_
   refine Xc0 ?_
   refine Xc7 ?_
   first
     | exact q_k ⟨(k + 1,P,G),by dsimp only;omega,hP.stay hc4,hG.stay hc4⟩
     | have hre:Vh a s (k:Int) a.doors.l.length=⟨(a.mine.roads.l.getD k default).rest.low + y.low,(a.mine.roads.l.getD k default).rest.high + y.high⟩:=by
         cases hc:Vh a s (k:Int) a.doors.l.length with
         | mk lo hi=>rw [hc] at hy1 hy2;dsimp only at hy1 hy2;rw [hy1,hy2]
       have hcc:¬ (a.mine.roads.l.getD k default).closed=true:=by simpa using hc4
       exact q_k ⟨(k + 1,_,_),by dsimp only;omega,hP.next hcc ⟨by rw [Int.toNat_natCast,hre],rfl,hfk2.2⟩ (hS fk (List.mem_of_getElem? hfk)) hok177,hG.next hcc za za hne hp hq za hok129 hok143⟩
  obtain rfl:k=a.mine.roads.l.length:=by omega
  refine qc3 ?_
  have hGl:=hG.len
  refine Uka (A:=[_,_,_,_,_,_,_]) (wd:=12) (P.l.map XPipe.sl) (fun _=>rfl) zc hP.ok (fun x hx=>?subP) ?_
  case subP=>obtain ⟨p,hp,rfl⟩:=List.mem_map.1 hx;exact (hP.pipe p hp).2.mono fun r h=>Ja (by simp [h])
  refine qb1 ?_
  refine Z4b (A:=[_,_,_,_,_,_,_]) (wd:=1) (fun _=>rfl) zc (fun p hp=>?okG) fun S2 hS2=>?_
  case okG=>obtain ⟨r,hr⟩:=List.mem_iff_getElem?.1 hp;exact (hG.ok r p hr).1
  refine qb1 ?_
  refine Vkb (A:=[_]) (wd:=1) (len:=(G.map OwL.arr).length) (cap:=a.mine.places.l.length) (rows:=(G.map OwL.arr).map Jef) (subs:=(G.map OwL.arr).map isl) zo zD za (fun r hr=>?w1) zc ?cs1 (fun x hx=>?subG) ?_
  case w1=>obtain ⟨y,_,rfl⟩:=List.mem_map.1 hr;rfl
  case cs1=>
    rw [Jeb,List.flatMap_map,List.take_of_length_le (by rw [Uc (wd:=1) (fun _=>rfl)];simp)]
    rfl
  case subG=>
    exact zDd
  refine qb1 ?_
  refine qay ?_
  refine Xdc ?_
  refine Ks (L':=L) (R':=Yla P.arr :: Via ⟨some ⟨b101,0,none⟩,a.mine.places.l.length,G.map OwL.arr⟩ :: R) zBc ?hp ?hL ?hR
  case hp=>
   refine ⟨⟨P.arr,⟨some ⟨b101,0,none⟩,a.mine.places.l.length,G.map OwL.arr⟩⟩,?_,⟨hP.nums,fun p hp=>(hP.pipe p hp).1,by simp [hGl],fun v x hx=>?_⟩,rfl,rfl⟩
   · simp only [XNet.val, Arr.val, List.length_map, hGl]
     rfl
   · dsimp only at hx
     exact zKd
  case hL=>exact zi
  case hR=>exact fun r hr=>Ja (by simp only [List.mem_cons,List.mem_append] at hr ⊢;rcases hr with h | h | h <;> simp [h])
end Go.Proofs.YtchfclmokpbldaaGreat
end
section
namespace Go.Proofs.YtchfclmokpbldaaGreat
open Go.Aw Go
set_option maxRecDepth 20000
attribute [local irreducible] CJ LJ DJ Tri YV Gives Ui J0 Ke Uh RV J2 OwL.L
theorem Yea {a : XAir} {i : Nat} : ∀ {k : Nat}, i ∈ Uj a k ↔ i < k ∧ (a.mine.roads.l.getD i default).closed = false
  | 0=>by simp [Uj]
  | k + 1=>by
    have ih:=Yea (a:=a) (i:=i) (k:=k)
    simp only [Uj]
    by_cases hc:(a.mine.roads.l.getD k default).closed=true
    · rw [if_pos hc, ih]
      constructor
      · rintro ⟨h1,h2⟩;exact ⟨by omega,h2⟩
      · rintro ⟨h1, h2⟩
        refine ⟨?_,h2⟩
        rcases Nat.lt_or_eq_of_le (Nat.le_of_lt_succ h1) with h | h
        · exact h
        · subst h;rw [hc] at h2;cases h2
    · rw [if_neg hc, List.mem_append, ih, List.mem_singleton]
      constructor
      · rintro (⟨h1, h2⟩ | rfl)
        · exact ⟨by omega,h2⟩
        · exact ⟨by omega,by simpa using hc⟩
      · rintro ⟨h1, h2⟩
        rcases Nat.lt_or_eq_of_le (Nat.le_of_lt_succ h1) with h | h
        · exact .inl ⟨h,h2⟩
        · exact .inr h
theorem NetIs.find {a:XAir} {s:XSetting} {n:XNet} (h:NetIs a s n) {r:Int} (hr:0≤r∧r < a.mine.roads.l.length) (hc:(a.mine.roads.l.getD r.toNat default).closed=false):∃(j:Nat) (p:XPipe),n.pipes.l[j]?=some p∧p.num=r:=by
  have h1:r.toNat∈Uj a a.mine.roads.l.length:=Yea.2 ⟨by omega,hc⟩
  have h2:r∈n.pipes.l.map XPipe.num:=by
    rw [h.nums]
    exact List.mem_map.2 ⟨_,h1,by omega⟩
  obtain ⟨p,hp,he⟩:=List.mem_map.1 h2
  obtain ⟨j,hj⟩:=List.mem_iff_getElem?.1 hp
  exact ⟨j,p,hj,he⟩
theorem NetIs.open {a:XAir} {s:XSetting} {n:XNet} (h:NetIs a s n) {p:XPipe} (hp:p∈n.pipes.l):(0≤p.num∧p.num < a.mine.roads.l.length)∧(a.mine.roads.l.getD p.num.toNat default).closed=false:=by
  have h2:p.num∈n.pipes.l.map XPipe.num:=List.mem_map.2 ⟨p,hp,rfl⟩
  rw [h.nums] at h2
  obtain ⟨i,hi,he⟩:=List.mem_map.1 h2
  obtain ⟨h3,h4⟩:=Yea.1 hi
  rw [← he]
  exact ⟨by omega,by simpa using h4⟩
theorem NetIs.length {a:XAir} {s:XSetting} {n:XNet} (h:NetIs a s n):n.pipes.l.length≤a.mine.roads.l.length:=by
  have:=congrArg List.length h.nums
  simp only [List.length_map] at this
  have:=Uia a a.mine.roads.l.length
  omega
theorem InR.pipe {x:Arr XPipe} {R:List Sl} (h:InR (Yla x) R) {i:Nat} {p:XPipe} (hi:x.l[i]?=some p):InR p.sl R:=
  h.sub (.deep (List.mem_map.2 ⟨p,List.mem_of_getElem? hi,rfl⟩) .here)
theorem Vwc {l:List Int} (h:l.findSome? U3=none):∀(i:Nat) (p:Int),l[i]?=some p→-70368744177664≤p∧p≤70368744177664:=fun i p hp=>by
  have:=List.findSome?_eq_none_iff.1 h p (List.mem_of_getElem? hp)
  unfold U3 at this
  split at this
  · cases this
  · omega
end Go.Proofs.YtchfclmokpbldaaGreat
end
section
namespace Go.Proofs.YtchfclmokpbldaaGreat
open Go.Aw Go
set_option maxRecDepth 20000
attribute [local irreducible] CJ LJ DJ Tri YV Gives Ui J0 Ke Uh RV J2 OwL.L
theorem CodesR.mono {x:Arr Int} {R R':List Sl} (h:CodesR x R) (k:∀r∈R,InR r R'):CodesR x R':=⟨h.sl.mono k,h.byte⟩
structure MadeCurve (l:List XPoint):Prop where
  len:1≤l.length∧l.length≤4
  ok:CurveOk l
  top:(l.getD 0 default).pres≤3000
structure MadeDoor (road:Int) (d:XDoor):Prop where
  road:d.road=road
  other:d.other= -1
  len:2≤d.rests.l.length∧d.rests.l.length≤4
  rest:∀(i:Nat) (v:Int),d.rests.l[i]?=some v→0≤v∧v≤900
  falls:Jbb d.rests.l d.rests.l.length=true
end Go.Proofs.YtchfclmokpbldaaGreat
end
section
namespace Go.Proofs.YtchfclmokpbldaaGreat
open Go.Aw Go
set_option maxRecDepth 20000
attribute [local irreducible] CJ LJ DJ Tri YV Gives Ui J0 Ke Uh RV J2 OwL.L
end Go.Proofs.YtchfclmokpbldaaGreat
end
section
namespace Go.Proofs.YtchfclmokpbldaaGreat
open Go.Aw Go
end Go.Proofs.YtchfclmokpbldaaGreat
end
section
namespace Go.Proofs.YtchfclmokpbldaaGreat
open Go.Aw Go
set_option maxRecDepth 20000
attribute [local irreducible] CJ LJ DJ Tri YV Gives Ui J0 Ke Uh RV J2 OwL.L
end Go.Proofs.YtchfclmokpbldaaGreat
end
section
namespace Go.Proofs.YtchfclmokpbldaaGreat
open Go.Aw Go
theorem Zxa {α β:Type} {f:α→Option β} {l:List α} (h:∀x∈l,f x=none):l.findSome? f=none:=List.findSome?_eq_none_iff.2 h
theorem V1d {a:XAir} {s:XSetting} (h:FitOk a s):Vja a s=true:=by
  have h1:=h.lf
  have h2:=h.ld
  rw [Uqb h1 h2,Zxa (fun x hx=>?_),Zxa (fun i hi=>?_)]
  · rfl
  · have hi := List.mem_range.1 hi
    obtain ⟨y,hy⟩:=Kr hi
    obtain ⟨d,hd⟩:=Kr (l:=a.doors.l) (k:=i) za
    have:=h.door i y d hy hd
    rw [Vsa hy hd]
    exact if_neg za
  · obtain ⟨j, hj⟩ := List.mem_iff_getElem?.1 hx
    have:=h.fan j x hj
    unfold Jab
    exact if_neg za
structure MadeA (a:XAir) (t:XSetting) (x:XState):Prop where
  err:Ky a=0
  fit:Vja a t=true
  fits:V7f a t x=0
  nplaces:1≤a.mine.places.l.length∧a.mine.places.l.length≤6
  nroads:a.mine.roads.l.length≤9
  nfans:a.fans.l.length≤2
  ndoors:a.doors.l.length≤2
  small:∀(i:Nat) (r:XRoad),a.mine.roads.l[i]?=some r→(-260000000≤r.lift.low∧r.lift.high≤260000000)∧r.rest.high≤22
  curve:∀f∈a.fans.l,MadeCurve f.curve.l
  rests:∀d∈a.doors.l,MadeDoor d.road d
  press:∀p∈x.pres.l,-4000≤p∧p≤4000
  surf0:(a.mine.places.l.getD 0 default).surface=true
  shaft:∀v:Nat,v < a.mine.places.l.length→(a.mine.places.l.getD v default).surface=false→∃k u:Nat,k < a.mine.roads.l.length∧(a.mine.places.l.getD u default).surface=true∧(a.mine.roads.l.getD k default).closed=false∧(((a.mine.roads.l.getD k default).fr=(v:Int)∧(a.mine.roads.l.getD k default).to=(u:Int))∨((a.mine.roads.l.getD k default).fr=(u:Int)∧(a.mine.roads.l.getD k default).to=(v:Int)))
end Go.Proofs.YtchfclmokpbldaaGreat
end
section
namespace Go.Proofs.YtchfclmokpbldaaGreat
open Go.Aw Go
set_option maxRecDepth 20000
attribute [local irreducible] CJ LJ DJ Tri YV Gives Ui J0 Ke Uh RV J2 OwL.L
end Go.Proofs.YtchfclmokpbldaaGreat
end
section
namespace Go.Proofs.YtchfclmokpbldaaGreat
open Go.Aw Go
set_option maxRecDepth 20000
attribute [local irreducible] CJ LJ DJ Tri YV Gives Ui J0 Ke Uh RV J2 OwL.L
abbrev Yoa (y:Arr Int):Arr Int:=⟨y.a,y.cap,y.l.take 300⟩
theorem Zhd (y:Arr Int) (L:List Blk) (R:List Sl) (hy:CodesR y R):
    Tri Tryz.prog 14 [y.val].toArray L R (fun v L' R'=>∃c,v=.pointer (some ⟨c,0,none⟩)∧CodesR (Yoa y) R'∧cblk c (Yoa y) 0 :: L=L'∧bsl (Yoa y) :: R=R'):=by
  have hsl:=hy.sl
  refine V3a Tryz.call14 hsl fun hyn=>?_
  refine Jg 10 Tryz.call14 Tryz.func14 rfl rfl rfl ?_
  refine qae ?_
  refine qc1 ?_
  refine qa4 ?_
  refine Ukb 300 hsl ?_
  refine Xcy ?_
  refine Xap ?_
  refine Jx (J0c rfl rfl) rfl ?_
  refine Jx (Yca tb rfl rfl rfl rfl (n:=(y.l.take 300).length) (by rw [List.length_take];omega) (by rw [List.length_take];omega)) rfl ?_
  refine Jx (Kb (qs:=[(0,(Value.slice _ _ _).cells.toList)]) (out:=[_,_]) tb rfl rfl rfl rfl) rfl ?_
  refine qax ?_
  intro b9
  refine qc1 ?_
  refine qa0 ?_
  refine q_r (L':=cblk b9 (Yoa y) 0 :: L) (R':=bsl (Yoa y) :: R) (Ya rfl (Je zGb)) ?_
  exact ⟨b9,rfl,⟨Ja zo,fun i b hb=>by rw [List.getElem?_take] at hb;split at hb;exact hy.byte i b hb;cases hb⟩,rfl,rfl⟩
end Go.Proofs.YtchfclmokpbldaaGreat
end
section
namespace Go.Proofs.YtchfclmokpbldaaGreat
open Go.Aw Go
set_option maxRecDepth 20000
attribute [local irreducible] CJ LJ DJ Tri YV Gives Ui J0 Ke Uh RV J2 OwL.L
theorem V0e:SpanEq Tryz.prog 90:=
  Zfd (I:=3) ze ze ze ze ze
theorem Jma {a:XAir} {R R':List Sl} (h:AirR a R) (k:∀r∈R,InR r R'):AirR a R':=⟨h.places.mono k,h.roads.mono k,h.fans.mono k,h.doors.mono k⟩
theorem Vya {s:XSetting} {R R':List Sl} (h:SetR s R) (k:∀r∈R,InR r R'):SetR s R':=⟨h.fans.mono k,h.doors.mono k⟩
end Go.Proofs.YtchfclmokpbldaaGreat
end
