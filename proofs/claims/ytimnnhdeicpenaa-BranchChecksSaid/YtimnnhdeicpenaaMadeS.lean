/-
  A made air has no errors, and its state fits. By an AI agent; no person has read it.
-/
import Derived.Test.YtimnnhdeicpenaaFit
import Derived.Test.YtimnnhdeicpenaaBranchW
set_option linter.unusedSimpArgs false
set_option linter.unusedVariables false
namespace Go.Proofs.Ytimnnhdeicpenaa
open Go.Aw Go

/-! ### no errors -/

theorem findSome_none {α β : Type} {f : α → Option β} {l : List α} (h : ∀ x ∈ l, f x = none) : l.findSome? f = none := List.findSome?_eq_none_iff.2 h

theorem roadErr_none {n : Nat} {r : XRoad} (h : RoadOk n r) (h1 : 1 ≤ r.len ∧ r.len ≤ 100000) (h2 : 1 ≤ r.area ∧ r.area ≤ 1000) : roadErr n r = none := by
  have a := h.fr
  have b := h.to
  have c := h.ne
  have d := spanB_iff.2 h.rest
  have e := spanB_iff.2 h.lift
  unfold roadErr
  rw [if_neg (by omega), if_neg (by rw [d, e]; simp only [Bool.true_eq_false, or_false]; omega)]
theorem mineErr_zero {m : XMine} (h1 : m.places.l.length ≤ 64) (h2 : m.roads.l.length ≤ 128) (h3 : ∀ p ∈ m.places.l, -10000 ≤ p.height ∧ p.height ≤ 10000) (h4 : ∀ r ∈ m.roads.l, roadErr m.places.l.length r = none) : mineErr m = 0 := by
  rw [mineErr, if_neg (by omega), findSome_none (fun p hp => by have := h3 p hp; unfold placeErr; exact if_neg (by omega)), findSome_none h4]
  rfl
theorem fanErr_zero {f : XFan} (h : FanOk f) : fanErr f = 0 := by
  have a := h.road
  have b := h.len1
  have c := h.len8
  rw [fanErr, if_neg (by omega), if_neg (by omega), findSome_none]
  · rfl
  · intro i hi
    have hi := List.mem_range.1 hi
    obtain ⟨p, hp⟩ := get_some hi
    have hpt := h.ok.pt i p hp
    unfold pointErr
    rw [hp]
    dsimp only
    rw [if_neg (by omega)]
    by_cases h0 : i = 0
    · rw [if_pos h0]
    · rw [if_neg h0]
      obtain ⟨q, hq⟩ := get_some (l := f.curve.l) (k := i - 1) (by omega)
      have hst := h.ok.st (i - 1) q p hq (by rw [show i - 1 + 1 = i by omega]; exact hp)
      rw [hq]
      dsimp only
      rw [if_neg (by omega)]
theorem doorsErr_zero {l : List XDoor} (h1 : l.length ≤ 16) (h2 : ∀ d ∈ l, DoorOk d ∧ d.other = -1) : doorsErr l = 0 := by
  rw [doorsErr, if_neg (by omega), findSome_none]
  · rfl
  · intro i hi
    obtain ⟨d, hd⟩ := get_some (List.mem_range.1 hi)
    obtain ⟨a, b⟩ := h2 d (List.mem_of_getElem? hd)
    have c := a.road
    have e := a.len
    rw [doorErr_at hd, if_neg (by omega), if_neg (by omega), findSome_none (fun x hx => ?_)]
    · dsimp only
      rw [if_neg (by rw [a.falls]; decide), if_neg (fun h => h.1 b)]
    · obtain ⟨j, hj⟩ := List.mem_iff_getElem?.1 hx
      have := a.rest j x hj
      unfold restErr
      exact if_neg (by omega)
theorem airErr_zero {a : XAir} (h1 : mineErr a.mine = 0) (h2 : a.fans.l.length ≤ 8) (h3 : ∀ f ∈ a.fans.l, FanOk f ∧ f.road < a.mine.roads.l.length) (h4 : a.doors.l.length ≤ 16) (h5 : ∀ d ∈ a.doors.l, (DoorOk d ∧ d.other = -1) ∧ d.road < a.mine.roads.l.length) : airErr a = 0 := by
  rw [airErr_rest h1 (by omega) (findSome_none (fun f hf => by
    have := h3 f hf
    unfold fanIn
    rw [if_neg (by rw [fanErr_zero this.1]; decide), if_neg (by omega)])), doorsErr_zero h4 (fun d hd => (h5 d hd).1), if_neg (by decide), findSome_none (fun d hd => by
    have := h5 d hd
    unfold doorIn
    exact if_neg (by omega))]
  rfl
theorem fitB_true {a : XAir} {s : XSetting} (h : FitOk a s) : fitB a s = true := by
  have h1 := h.lf
  have h2 := h.ld
  rw [fitB_len h1 h2, findSome_none (fun x hx => ?_), findSome_none (fun i hi => ?_)]
  · rfl
  · have hi := List.mem_range.1 hi
    obtain ⟨y, hy⟩ := get_some hi
    obtain ⟨d, hd⟩ := get_some (l := a.doors.l) (k := i) (by omega)
    have := h.door i y d hy hd
    rw [doorStBad_at hy hd]
    exact if_neg (by omega)
  · obtain ⟨j, hj⟩ := List.mem_iff_getElem?.1 hx
    have := h.fan j x hj
    unfold fanStBad
    exact if_neg (by omega)
theorem rightB_true {a : XAir} {s : XSetting} (h : airErr a = 0) (h' : fitB a s = true) : rightB a s = true := by simp [rightB, h, h']

/-! ### places, pressures, roads with flows -/

structure PlacesD (sh : Nat) (pl : List XPlace) : Prop where
  shb : 1 ≤ sh ∧ sh ≤ 2
  len : sh ≤ pl.length ∧ pl.length ≤ sh + 4
  val : ∀ (i : Nat) (p : XPlace), pl[i]? = some p → (-10000 ≤ p.height ∧ p.height ≤ 10000) ∧ p.surface = decide (i < sh)
structure PresD (sh np : Nat) (i : Nat) (pr : List Int) : Prop where
  len : pr.length = np
  val : ∀ (j : Nat) (p : Int), pr[j]? = some p → (-4000 ≤ p ∧ p ≤ 4000) ∧ (j < sh ∨ i ≤ j → p = 0)
theorem PresD.next {sh np i : Nat} {pr : List Int} (h : PresD sh np i pr) (hi : sh ≤ i) {p : Int} (hp : -4000 ≤ p ∧ p ≤ 4000) : PresD sh np (i + 1) (pr.set i p) := by
  refine ⟨by simp [h.len], fun j q hq => ?_⟩
  rw [List.getElem?_set] at hq
  split at hq
  · rename_i hij
    split at hq
    · cases hq; exact ⟨hp, fun hj => by omega⟩
    · cases hq
  · have := h.val j q hq
    exact ⟨this.1, fun hj => this.2 (by omega)⟩
structure RoadG (np : Nat) (r : XRoad) : Prop where
  d : RoadD np r
  ne : r.fr ≠ r.to
  len : 1 ≤ r.len ∧ r.len ≤ 400
  area : 4 ≤ r.area ∧ r.area ≤ 30
structure RoadsD (np : Nat) (rl : List XRoad) (fl : List Int) : Prop where
  len : fl.length = rl.length
  road : ∀ (i : Nat) (r : XRoad), rl[i]? = some r → RoadG np r
  flow : ∀ (i : Nat) (q : Int), fl[i]? = some q → -600 ≤ q ∧ q ≤ 600
  closed : ∀ (i : Nat) (r : XRoad) (q : Int), rl[i]? = some r → fl[i]? = some q → r.closed = true → q = 0
theorem RoadsD.nil (np : Nat) : RoadsD np [] [] := ⟨rfl, (fun _ _ h => by cases h), (fun _ _ h => by cases h), (fun _ _ _ h => by cases h)⟩
theorem RoadsD.next {np : Nat} {rl : List XRoad} {fl : List Int} (h : RoadsD np rl fl) {r : XRoad} {q : Int} (hr : RoadG np r) (hq : -600 ≤ q ∧ q ≤ 600) (hc : r.closed = true → q = 0) : RoadsD np (rl ++ [r]) (fl ++ [q]) := by
  have hl := h.len
  have sn : ∀ {α : Type} {l : List α} {x y : α} {i : Nat}, (l ++ [x])[i]? = some y → l[i]? = some y ∨ (i = l.length ∧ y = x) := by
    intro α l x y i hi
    rw [List.getElem?_append] at hi
    split at hi
    · exact .inl hi
    · rw [List.getElem?_singleton] at hi
      split at hi
      · cases hi; exact .inr ⟨by omega, rfl⟩
      · cases hi
  refine ⟨by simp [hl], fun i s hs => ?_, fun i p hp => ?_, fun i s p hs hp hcl => ?_⟩
  · rcases sn hs with hs | ⟨_, rfl⟩
    · exact h.road i s hs
    · exact hr
  · rcases sn hp with hp | ⟨_, rfl⟩
    · exact h.flow i p hp
    · exact hq
  · rcases sn hs with hs | ⟨e, rfl⟩
    · rcases sn hp with hp | ⟨e', _⟩
      · exact h.closed i s p hs hp hcl
      · have := (List.getElem?_eq_some_iff.1 hs).1
        omega
    · rcases sn hp with hp | ⟨_, rfl⟩
      · have := (List.getElem?_eq_some_iff.1 hp).1
        omega
      · exact hc hcl

/-! ### what leaves the places -/

def netStep (N : List Int) (r : XRoad) (q : Int) : List Int :=
  let l1 := N.set r.fr.toNat (N.getD r.fr.toNat 0 + q)
  l1.set r.to.toNat (l1.getD r.to.toNat 0 - q)
def netL (rl : List XRoad) (fl : List Int) (np : Nat) : Nat → List Int
  | 0 => List.replicate np 0
  | k + 1 => netStep (netL rl fl np k) (rl.getD k default) (fl.getD k 0)
theorem netTo_eq (a : XAir) (x : XState) : ∀ k, netTo a x k = netL a.mine.roads.l x.flows.l x.pres.l.length k
  | 0 => rfl
  | k + 1 => by rw [netTo, netTo_eq a x k]; rfl
theorem netStep_length (N : List Int) (r : XRoad) (q : Int) : (netStep N r q).length = N.length := by simp [netStep]
theorem netL_length (rl : List XRoad) (fl : List Int) (np : Nat) : ∀ k, (netL rl fl np k).length = np
  | 0 => by simp [netL]
  | k + 1 => by rw [netL, netStep_length, netL_length rl fl np k]
theorem netL_append {rl m : List XRoad} {fl m' : List Int} {np : Nat} (hl : fl.length = rl.length) : ∀ k, k ≤ rl.length → netL (rl ++ m) (fl ++ m') np k = netL rl fl np k
  | 0, _ => rfl
  | k + 1, hk => by rw [netL, netL, netL_append hl k (by omega), getD_append_left (by omega), getD_append_left (by omega)]
theorem netL_snoc {rl : List XRoad} {fl : List Int} {np : Nat} (hl : fl.length = rl.length) (r : XRoad) (q : Int) : netL (rl ++ [r]) (fl ++ [q]) np (rl ++ [r]).length = netStep (netL rl fl np rl.length) r q := by
  rw [List.length_append, List.length_singleton, netL, netL_append hl _ (Nat.le_refl _), getD_append_last rfl, getD_append_last hl.symm]
theorem netL_congr {rl rl' : List XRoad} {fl : List Int} {np : Nat} : ∀ k, (∀ i, i < k → (rl'.getD i default).fr = (rl.getD i default).fr ∧ (rl'.getD i default).to = (rl.getD i default).to) → netL rl' fl np k = netL rl fl np k
  | 0, _ => rfl
  | k + 1, h => by
    rw [netL, netL, netL_congr k (fun i hi => h i (by omega))]
    have := h k (by omega)
    unfold netStep
    rw [this.1, this.2]
theorem getD_set {l : List Int} {i j : Nat} {v : Int} (hi : i < l.length) : (l.set i v).getD j 0 = if i = j then v else l.getD j 0 := by
  rw [List.getD_eq_getElem?_getD, List.getD_eq_getElem?_getD, List.getElem?_set]
  by_cases h : i = j
  · subst h; simp [hi]
  · simp [h]
theorem netStep_get {N : List Int} {r : XRoad} {q : Int} {np : Nat} (hN : N.length = np) (hr : RoadG np r) (v : Nat) : (netStep N r q).getD v 0 = N.getD v 0 + (if r.fr = (v : Int) then q else 0) - (if r.to = (v : Int) then q else 0) := by
  have h1 := hr.d.fr
  have h2 := hr.d.to
  have h3 := hr.ne
  have hne : ¬ r.fr.toNat = r.to.toNat := by omega
  unfold netStep
  dsimp only
  rw [getD_set (by rw [List.length_set]; omega), getD_set (by omega), if_neg hne, getD_set (by omega)]
  by_cases c1 : r.to.toNat = v
  · have e : r.to = (v : Int) := by omega
    rw [if_pos c1, if_pos e, if_neg (by omega), c1]; omega
  · rw [if_neg c1, if_neg (show ¬ r.to = (v : Int) by omega)]
    by_cases c2 : r.fr.toNat = v
    · rw [if_pos c2, if_pos (show r.fr = (v : Int) by omega), c2]; omega
    · rw [if_neg c2, if_neg (show ¬ r.fr = (v : Int) by omega)]; omega

/-- roads drawn so far, and what leaves the places by them -/
structure Drawn (np : Nat) (m : Int) (rl : List XRoad) (fl : List Int) (nl : List Int) : Prop where
  m : 0 ≤ m ∧ (rl.length : Int) + m ≤ 5
  roads : RoadsD np rl fl
  net : nl = netL rl fl np rl.length
  small : ∀ v, -60 * (rl.length : Int) ≤ nl.getD v 0 ∧ nl.getD v 0 ≤ 60 * (rl.length : Int)
theorem Drawn.len {np : Nat} {m : Int} {rl : List XRoad} {fl nl : List Int} (h : Drawn np m rl fl nl) : nl.length = np := by rw [h.net]; exact netL_length _ _ _ _
theorem Drawn.zero {np : Nat} {m : Int} (hm : 0 ≤ m ∧ m ≤ 5) : Drawn np m [] [] (List.replicate np 0) := by
  refine ⟨by simpa using hm, RoadsD.nil np, rfl, fun v => ?_⟩
  have : (List.replicate np (0 : Int)).getD v 0 = 0 := by
    rw [List.getD_eq_getElem?_getD, List.getElem?_replicate]
    split <;> rfl
  rw [this]; simp
theorem Drawn.next {np : Nat} {m : Int} {rl : List XRoad} {fl nl : List Int} (h : Drawn np m rl fl nl) (hm : 0 < m) {r : XRoad} {q : Int} (hr : RoadG np r) (hq : -60 ≤ q ∧ q ≤ 60) (hc : r.closed = true → q = 0) : Drawn np (m - 1) (rl ++ [r]) (fl ++ [q]) (netStep nl r q) := by
  have hmm := h.m
  refine ⟨by simp only [List.length_append, List.length_singleton]; omega, h.roads.next hr (by omega) hc, by rw [netL_snoc h.roads.len, h.net], fun v => ?_⟩
  have hv := h.small v
  rw [netStep_get h.len hr v]
  have := hr.ne
  simp only [List.length_append, List.length_singleton]
  split <;> split <;> omega

/-- what leaves a place below ground, leaves it by a shaft -/
structure Shafted (sh np i : Nat) (net0 : List Int) (rl : List XRoad) (fl : List Int) : Prop where
  roads : RoadsD np rl fl
  len : rl.length + sh ≤ 5 + i
  done : ∀ v, sh ≤ v → v < i → (netL rl fl np rl.length).getD v 0 = 0
  todo : ∀ v, i ≤ v → (netL rl fl np rl.length).getD v 0 = net0.getD v 0
theorem Drawn.shafted {np : Nat} {m : Int} {rl : List XRoad} {fl nl : List Int} (h : Drawn np m rl fl nl) (sh : Nat) : Shafted sh np sh nl rl fl :=
  ⟨h.roads, by have := h.m; omega, fun v h1 h2 => absurd h2 (by omega), fun v _ => by rw [← h.net]⟩
theorem Shafted.next {sh np i : Nat} {net0 : List Int} {rl : List XRoad} {fl : List Int} (h : Shafted sh np i net0 rl fl) (hi : sh ≤ i) {r : XRoad} {q : Int} (hr : RoadG np r) (hq : -600 ≤ q ∧ q ≤ 600) (hc : r.closed = false)
    (hend : (r.fr = (i : Int) ∧ r.to < (sh : Int) ∧ q = -(net0.getD i 0)) ∨ (r.to = (i : Int) ∧ r.fr < (sh : Int) ∧ q = net0.getD i 0)) : Shafted sh np (i + 1) net0 (rl ++ [r]) (fl ++ [q]) := by
  have hlen := h.len
  refine ⟨h.roads.next hr hq (fun hcl => by rw [hc] at hcl; cases hcl), by simp only [List.length_append, List.length_singleton]; omega, fun v h1 h2 => ?_, fun v h1 => ?_⟩
  · rw [netL_snoc h.roads.len, netStep_get (netL_length _ _ _ _) hr v]
    rcases Nat.lt_or_eq_of_le (Nat.le_of_lt_succ h2) with h' | h'
    · rw [h.done v h1 h', if_neg (by omega), if_neg (by omega)]; rfl
    · subst h'
      rw [h.todo v (Nat.le_refl _)]
      have := hr.ne
      split <;> split <;> omega
  · rw [netL_snoc h.roads.len, netStep_get (netL_length _ _ _ _) hr v, h.todo v (by omega), if_neg (by omega), if_neg (by omega)]; omega

/-! ### all together -/

theorem getD_mem_doubt {l m : List Int} (h : Doubt l m) {k : Nat} (hk : k < l.length) : m.getD k 0 = -1 ∨ m.getD k 0 = l.getD k 0 := by
  have := h.len
  have hg := get_D (l := m) (k := k) 0 (by omega)
  rcases h.val k _ hg with h1 | h1
  · exact .inl h1
  · rw [get_D (l := l) 0 hk] at h1
    exact .inr (Option.some.inj h1).symm

structure MadeA (a : XAir) (t : XSetting) (x : XState) : Prop where
  err : airErr a = 0
  fit : fitB a t = true
  fits : fitsS a t x = 0
  nplaces : 1 ≤ a.mine.places.l.length ∧ a.mine.places.l.length ≤ 6
  nroads : a.mine.roads.l.length ≤ 9
  nfans : a.fans.l.length ≤ 2
  ndoors : a.doors.l.length ≤ 2
  small : ∀ (i : Nat) (r : XRoad), a.mine.roads.l[i]? = some r → (-1000000000 ≤ r.lift.low ∧ r.lift.high ≤ 1000000000) ∧ r.rest.high ≤ 22
  curve : ∀ f ∈ a.fans.l, MadeCurve f.curve.l
  rests : ∀ d ∈ a.doors.l, MadeDoor d.road d

theorem madeA_of {sh : Nat} {a : XAir} {s t : XSetting} {x : XState} {rl0 : List XRoad} {net0 : List Int} (hpl : PlacesD sh a.mine.places.l) (hpr : PresD sh a.mine.places.l.length a.mine.places.l.length x.pres.l) (hro : Shafted sh a.mine.places.l.length a.mine.places.l.length net0 rl0 x.flows.l)
    (hF : FansD rl0.length 0 a.fans.l s.fans.l) (hD : DoorsD rl0.length 0 a.doors.l s.doors.l) (hfit : FitI a s x rl0 rl0.length a.mine.roads.l) (htf : Doubt s.fans.l t.fans.l) (htd : Doubt s.doors.l t.doors.l) : MadeA a t x := by
  have hsh := hpl.shb
  have hpn := hpl.len
  have hln := hfit.len
  have hrl := hro.len
  have hqn := hro.roads.len
  have hFm := hF.m
  have hDm := hD.m
  have hxp := hpr.len
  -- a road of the air
  have road : ∀ (i : Nat) (r' : XRoad), a.mine.roads.l[i]? = some r' → ∃ r, rl0[i]? = some r ∧ RoadG a.mine.places.l.length r ∧ FitAt a s x i r r' := by
    intro i r' hr'
    obtain ⟨hi, _⟩ := List.getElem?_eq_some_iff.1 hr'
    obtain ⟨r, hr⟩ := get_some (l := rl0) (k := i) (by omega)
    obtain ⟨r2, h2, h3⟩ := hfit.done i r (by omega) hr
    rw [hr'] at h2; cases h2
    exact ⟨r, hr, hro.roads.road i r hr, h3⟩
  have presb : ∀ i : Nat, -4000 ≤ x.pres.l.getD i 0 ∧ x.pres.l.getD i 0 ≤ 4000 := fun i => by
    rcases Nat.lt_or_ge i x.pres.l.length with h | h
    · exact (hpr.val i _ (get_D 0 h)).1
    · rw [List.getD_eq_getElem?_getD, List.getElem?_eq_none h]; simp
  have flowb : ∀ i : Nat, -600 ≤ x.flows.l.getD i 0 ∧ x.flows.l.getD i 0 ≤ 600 := fun i => by
    rcases Nat.lt_or_ge i x.flows.l.length with h | h
    · exact hro.roads.flow i _ (get_D 0 h)
    · rw [List.getD_eq_getElem?_getD, List.getElem?_eq_none h]; simp
  have ok : ∀ (i : Nat) (r' : XRoad), a.mine.roads.l[i]? = some r' → RoadOk a.mine.places.l.length r' ∧ (1 ≤ r'.len ∧ r'.len ≤ 100000) ∧ (1 ≤ r'.area ∧ r'.area ≤ 1000) ∧ (-1000000000 ≤ r'.lift.low ∧ r'.lift.high ≤ 1000000000) ∧ r'.rest.high ≤ 22 := by
    intro i r' hr'
    obtain ⟨r, hr, hg, e, u, v, he, hu, hv, heq⟩ := road i r' hr'
    have h1 := hg.d.rest
    have h2 := hg.len
    have h3 := hg.area
    have b1 := dSum_bounds hD i a.doors.l.length (Nat.le_refl _)
    have b2 := fSum_bounds hF i (x.flows.l.getD i 0) a.fans.l.length (Nat.le_refl _)
    have b3 := lift_bounds (R := r.rest.low + e + dSum a.doors.l s.doors.l i a.doors.l.length) (q := x.flows.l.getD i 0) (by omega) (flowb i)
    have b4 := presb r.fr.toNat
    have b5 := presb r.to.toNat
    rw [heq]
    refine ⟨⟨hg.d.fr, hg.d.to, hg.ne, ⟨h1.1, h1.2.1, by dsimp only; omega⟩, ?_⟩, ⟨h2.1, by dsimp only; omega⟩, ⟨by dsimp only; omega, by dsimp only; omega⟩, ?_, h1.2.2⟩
    · unfold liftOf presAt
      dsimp only
      omega
    · unfold liftOf presAt
      dsimp only
      omega
  have hme : mineErr a.mine = 0 := mineErr_zero (by omega) (by omega) (fun p hp => by
    obtain ⟨i, hi⟩ := List.mem_iff_getElem?.1 hp
    exact (hpl.val i p hi).1) (fun r hr => by
    obtain ⟨i, hi⟩ := List.mem_iff_getElem?.1 hr
    obtain ⟨h1, h2, h3, _, _⟩ := ok i r hi
    exact roadErr_none h1 h2 h3)
  have hae : airErr a = 0 := airErr_zero hme (by omega) (fun f hf => ⟨(hF.fan f hf).ok, by have := (hF.fan f hf).road; omega⟩) (by omega) (fun d hd => ⟨⟨(hD.door d hd).ok, (hD.door d hd).made.other⟩, by have := (hD.door d hd).road; omega⟩)
  have hFl := hF.len
  have hDl := hD.len
  have ht1 := htf.len
  have ht2 := htd.len
  have less : SetLess a s t := by
    refine ⟨fun k hk => ?_, fun k hk => ?_⟩
    · have h1 := hF.st _ (List.mem_of_getElem? (get_D (l := s.fans.l) (k := k) 0 (by omega)))
      rcases getD_mem_doubt htf (k := k) (by omega) with h | h
      · exact .inr ⟨h, by omega, by omega⟩
      · exact .inl h
    · have h1 := hD.st k _ _ (get_D (l := a.doors.l) (k := k) default hk) (get_D (l := s.doors.l) (k := k) 0 (by omega))
      rcases getD_mem_doubt htd (k := k) (by omega) with h | h
      · exact .inr ⟨h, by omega, by omega⟩
      · exact .inl h
  have hfb : fitB a t = true := fitB_true ⟨by omega, by omega, fun i y hy => by
    obtain ⟨hi, _⟩ := List.getElem?_eq_some_iff.1 hy
    have h1 := hF.st _ (List.mem_of_getElem? (get_D (l := s.fans.l) (k := i) 0 (by omega)))
    rcases htf.val i y hy with h | h
    · omega
    · rw [get_D (l := s.fans.l) 0 (show i < s.fans.l.length by omega)] at h
      rw [← Option.some.inj h]; omega, fun i y d hy hd => by
    obtain ⟨hi, _⟩ := List.getElem?_eq_some_iff.1 hy
    have h1 := hD.st i d _ hd (get_D (l := s.doors.l) (k := i) 0 (by omega))
    have h2 := (hD.door d (List.mem_of_getElem? hd)).made.len
    rcases htd.val i y hy with h | h
    · omega
    · rw [get_D (l := s.doors.l) 0 (show i < s.doors.l.length by omega)] at h
      rw [← Option.some.inj h]; omega⟩
  have hnet : netTo a x x.flows.l.length = netL rl0 x.flows.l a.mine.places.l.length rl0.length := by
    rw [netTo_eq, hxp, hqn]
    refine netL_congr _ (fun i hi => ?_)
    obtain ⟨r, hr, _, e, u, v, _, _, _, heq⟩ := road i _ (get_D (l := a.mine.roads.l) (k := i) default (by omega))
    rw [getD_some hr, heq]
    exact ⟨rfl, rfl⟩
  refine ⟨hae, hfb, ?_, by omega, by omega, by omega, by omega, fun i r hr => (ok i r hr).2.2.2, fun f hf => (hF.fan f hf).curve, fun d hd => (hD.door d hd).made⟩
  refine fitsS_zero hae hfb (by omega) (findSome_none (fun p hp => ?_)) (findSome_none (fun q hq => ?_)) (fun i hi => ?_) (fun v hv => ?_)
  · obtain ⟨j, hj⟩ := List.mem_iff_getElem?.1 hp
    have := (hpr.val j p hj).1
    exact if_neg (by omega)
  · obtain ⟨j, hj⟩ := List.mem_iff_getElem?.1 hq
    have := hro.roads.flow j q hj
    exact if_neg (by omega)
  · have hg := get_D (l := a.mine.roads.l) (k := i) default (by omega)
    obtain ⟨r, hr, hgr, hft⟩ := road i _ hg
    have hin := fitted_inner hF hD (hgr.d.rest.2.1) hft
    have hls := innerS_less less (i : Int) (x.flows.l.getD i 0)
    have hcl := hro.roads.closed i r _ hr (get_D (l := x.flows.l) (k := i) 0 (by omega))
    have e1 : (a.mine.roads.l.getD i default).fr = r.fr ∧ (a.mine.roads.l.getD i default).to = r.to ∧ (a.mine.roads.l.getD i default).closed = r.closed := by
      obtain ⟨e, u, v, _, _, _, heq⟩ := hft
      rw [heq]; exact ⟨rfl, rfl, rfl⟩
    unfold roadUnfit
    dsimp only
    rw [e1.1, e1.2.1, e1.2.2]
    refine if_neg ?_
    have h1 := hls.1
    have h2 := hls.2
    dsimp only [presAt] at hin
    rintro (⟨h3, h4⟩ | ⟨_, h4⟩)
    · exact h4 (hcl h3)
    · omega
  · rw [hxp] at hv
    obtain ⟨p, hp⟩ := get_some (l := a.mine.places.l) (k := v) hv
    have h1 := (hpl.val v p hp).2
    have h2 := hpr.val v _ (get_D (l := x.pres.l) (k := v) 0 (by omega))
    unfold placeUnfit
    rw [hnet, getD_some hp, h1]
    refine if_neg ?_
    rintro (⟨h3, h4⟩ | ⟨h3, h4⟩)
    · exact h4 (h2.2 (.inl (by simpa using h3)))
    · exact h4 (hro.done v (by simpa using h3) (by omega))
end Go.Proofs.Ytimnnhdeicpenaa
