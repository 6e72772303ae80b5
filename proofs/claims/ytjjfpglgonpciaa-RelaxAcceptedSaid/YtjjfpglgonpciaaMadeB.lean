/-
  The bounds of a made air are no greater than a tenth of what is possible. By an AI agent; no person has read it.
-/
import Derived.Test.YtjjfpglgonpciaaRelP
set_option linter.unusedSimpArgs false
set_option linter.unusedVariables false
namespace Go.Proofs.Ytjjfpglgonpciaa
open Go.Aw Go

theorem maxTo_le {l : List Int} {B : Int} (h : ∀ (i : Nat) (x : Int), l[i]? = some x → x ≤ B) (hl : 1 ≤ l.length) : ∀ k, k ≤ l.length → maxTo l k ≤ B
  | 0, _ => by have := h 0 _ (get_D 0 (by omega)); simpa [maxTo] using this
  | k + 1, hk => by
    have ih := maxTo_le h hl k (by omega)
    have := h k _ (get_D 0 (by omega))
    simp only [maxTo]
    omega
theorem restS_madeU {d : XDoor} {r : Int} (h : MadeDoor r d) (s : Int) : (restS d s).high ≤ 900 := by
  have hl := h.len
  have hr : ∀ (i : Nat) (x : Int), d.rests.l[i]? = some x → x ≤ 900 := fun i x hx => (h.rest i x hx).2
  unfold restS
  split
  · simp
  · split
    · exact maxTo_le hr (by omega) _ (Nat.le_refl _)
    · exact hr s.toNat _ (get_D 0 (by omega))
theorem restTo_made {a : XAir} {s : XSetting} (h : ∀ d ∈ a.doors.l, MadeDoor d.road d) {k : Nat} (hk : (a.mine.roads.l.getD k default).rest.high ≤ 22) : ∀ n, n ≤ a.doors.l.length → (restTo a s (k : Int) n).high ≤ 22 + 900 * (n : Int)
  | 0, _ => by rw [restTo, Int.toNat_natCast]; omega
  | n + 1, hn => by
    have ih := restTo_made (s := s) h hk n (by omega)
    have hd := restS_madeU (h _ (List.mem_of_getElem? (get_D (l := a.doors.l) (k := n) default (by omega)))) (s.doors.l.getD n 0)
    rw [restTo]
    split
    · dsimp only; omega
    · omega
section
variable {a : XAir} {s : XSetting} {x : XState} (h : MadeA a s x)
include h
theorem MadeA.inner_neg {k : Nat} (hk : k < a.mine.roads.l.length) : (innerS a s (k : Int) (-16200)).high ≤ 0 ∧ -35000000000000 ≤ (innerS a s (k : Int) (-129600)).low := by
  have ha := airOk_of h.err
  have hs := h.small _ _ (get_D default hk)
  have hnf := h.nfans
  have hnd := h.ndoors
  have hb := restTo_bounds (s := s) ha (r := (k : Int)) (by omega) a.doors.l.length (Nat.le_refl _)
  have hc := restTo_made (s := s) h.rests hs.2 a.doors.l.length (Nat.le_refl _)
  have f1 := innerTo_far (s := s) h.curve (k : Int) (-16200) a.fans.l.length (Nat.le_refl _)
  have f2 := innerTo_far (s := s) h.curve (k : Int) (-129600) a.fans.l.length (Nat.le_refl _)
  rw [innerTo_neg (by decide), Int.toNat_natCast] at f1 f2
  dsimp only at f1 f2
  unfold innerS
  generalize (restTo a s (k : Int) a.doors.l.length).low = lo at *
  generalize (restTo a s (k : Int) a.doors.l.length).high = hi at *
  omega
theorem MadeA.inner_pos {k : Nat} (hk : k < a.mine.roads.l.length) : 0 ≤ (innerS a s (k : Int) 16200).low ∧ (innerS a s (k : Int) 129600).high ≤ 35000000000000 := by
  have ha := airOk_of h.err
  have hs := h.small _ _ (get_D default hk)
  have hnf := h.nfans
  have hnd := h.ndoors
  have hb := restTo_bounds (s := s) ha (r := (k : Int)) (by omega) a.doors.l.length (Nat.le_refl _)
  have hc := restTo_made (s := s) h.rests hs.2 a.doors.l.length (Nat.le_refl _)
  have f1 := innerTo_far (s := s) h.curve (k : Int) 16200 a.fans.l.length (Nat.le_refl _)
  have f2 := innerTo_far (s := s) h.curve (k : Int) 129600 a.fans.l.length (Nat.le_refl _)
  rw [innerTo_pos (by decide), Int.toNat_natCast] at f1 f2
  dsimp only at f1 f2
  unfold innerS
  generalize (restTo a s (k : Int) a.doors.l.length).low = lo at *
  generalize (restTo a s (k : Int) a.doors.l.length).high = hi at *
  omega
/-- at a difference that pushes no air in, little comes in -/
theorem MadeA.low_ge {k : Nat} (hk : k < a.mine.roads.l.length) {p : Int} (hp : 0 ≤ p) : -16200 ≤ flowLow (innerS a s (k : Int)) p := by
  have h1 := flowLow_is (s := s) (airOk_of h.err) (r := (k : Int)) (by omega) p
  have h2 := (h.inner_neg hk).1
  refine Int.not_lt.1 fun hlt => ?_
  have := h1.gt (-16200) hlt (by omega)
  omega
theorem MadeA.high_le {k : Nat} (hk : k < a.mine.roads.l.length) {p : Int} (hp : p ≤ 0) : flowHigh (innerS a s (k : Int)) p ≤ 16200 := by
  have h1 := flowHigh_is (s := s) (airOk_of h.err) (r := (k : Int)) (by omega) p
  have h2 := (h.inner_pos hk).1
  refine Int.not_lt.1 fun hlt => ?_
  have := h1.lt 16200 (by omega) hlt
  omega
theorem MadeA.low_much {k : Nat} (hk : k < a.mine.roads.l.length) {p : Int} (hp : 35000000000000 ≤ p) : 129600 ≤ flowLow (innerS a s (k : Int)) p := by
  have h1 := flowLow_is (s := s) (airOk_of h.err) (r := (k : Int)) (by omega) p
  have h2 := (h.inner_pos hk).2
  refine Int.not_lt.1 fun hlt => ?_
  have := h1.gt 129600 hlt (by omega)
  omega
theorem MadeA.high_much {k : Nat} (hk : k < a.mine.roads.l.length) {p : Int} (hp : p ≤ -35000000000000) : flowHigh (innerS a s (k : Int)) p ≤ -129600 := by
  have h1 := flowHigh_is (s := s) (airOk_of h.err) (r := (k : Int)) (by omega) p
  have h2 := (h.inner_neg hk).2
  refine Int.not_lt.1 fun hlt => ?_
  have := h1.lt (-129600) (by omega) hlt
  omega
end
/-- pressures inside the bounds of a made air -/
def InB2 (l : List Int) : Prop := ∀ j : Nat, -35000000000000 ≤ l.getD j 0 ∧ l.getD j 0 ≤ 35000000000000
theorem InB2.set {l : List Int} (h : InB2 l) {k : Nat} (hk : k < l.length) {v : Int} (hv : -35000000000000 ≤ v ∧ v ≤ 35000000000000) : InB2 (l.set k v) := fun j => by
  rw [getD_setK hk]
  split
  · exact hv
  · exact h j
section
variable {a : XAir} {s : XSetting} {x : XState} (h : MadeA a s x)
include h
/-- at the highest pressure no place below ground lacks air -/
theorem MadeA.cap_low {l : List Int} (hl : l.length = a.mine.places.l.length) (hb : InB2 l) (hz : ∀ u : Nat, u < a.mine.places.l.length → (a.mine.places.l.getD u default).surface = true → l.getD u 0 = 0) {v : Nat} (hv : v < a.mine.places.l.length) (hs : (a.mine.places.l.getD v default).surface = false) :
    0 ≤ lowN a s (l.set v 35000000000000) (v : Int) := by
  obtain ⟨k, u, k1, k2, k3, k4⟩ := h.shaft v hv hs
  have ha := airOk_of h.err
  have huv : u ≠ v := fun e => by rw [e, hs] at k2; cases k2
  have hnr := h.nroads
  have getv : (l.set v 35000000000000).getD v 0 = 35000000000000 := by rw [getD_setK (by omega), if_pos rfl]
  have geto : ∀ j, j ≠ v → (l.set v 35000000000000).getD j 0 = l.getD j 0 := fun j hj => by rw [getD_setK (by omega), if_neg hj]
  have key : ∀ n, n ≤ a.mine.roads.l.length → -16200 * (n : Int) + (if k < n then 145800 else 0) ≤ sumN flowLow flowHigh a s (l.set v 35000000000000) (v : Int) n := by
    intro n
    induction n with
    | zero => intro _; simp [sumN]
    | succ n ih =>
      intro hn
      have ih := ih (by omega)
      have hro := ha.mine.road n _ (get_D default (show n < _ by omega))
      have r1 := hro.fr
      have r2 := hro.to
      have r3 := hro.ne
      have small : -16200 ≤ termN flowLow flowHigh a s (l.set v 35000000000000) (v : Int) n := by
        rw [termN]
        split
        · omega
        · split
          · rename_i hf
            have ed : diffN a (l.set v 35000000000000) n = 35000000000000 - l.getD (a.mine.roads.l.getD n default).to.toNat 0 := by
              rw [diffN, hf, Int.toNat_natCast, getv, geto _ (by omega)]
            have := hb (a.mine.roads.l.getD n default).to.toNat
            exact h.low_ge (by omega) (by omega)
          · split
            · rename_i ht
              have ed : diffN a (l.set v 35000000000000) n = l.getD (a.mine.roads.l.getD n default).fr.toNat 0 - 35000000000000 := by
                rw [diffN, ht, Int.toNat_natCast, getv, geto _ (by omega)]
              have := hb (a.mine.roads.l.getD n default).fr.toNat
              have := h.high_le (k := n) (by omega) (p := diffN a (l.set v 35000000000000) n) (by omega)
              omega
            · omega
      rw [sumN]
      rcases Nat.lt_trichotomy k n with h1 | h1 | h1
      · rw [if_pos h1] at ih
        rw [if_pos (by omega)]
        omega
      · subst h1
        rw [if_neg (by omega)] at ih
        rw [if_pos (by omega)]
        have big : 129600 ≤ termN flowLow flowHigh a s (l.set v 35000000000000) (v : Int) k := by
          have hu0 := hz u (by rcases k4 with e | e <;> omega) k2
          rw [termN, if_neg (by rw [k3]; decide)]
          rcases k4 with ⟨e1, e2⟩ | ⟨e1, e2⟩
          · rw [if_pos e1]
            have ed : diffN a (l.set v 35000000000000) k = 35000000000000 - 0 := by
              rw [diffN, e1, e2, Int.toNat_natCast, Int.toNat_natCast, getv, geto _ huv, hu0]
            exact h.low_much k1 (by omega)
          · rw [if_neg (by omega), if_pos e2]
            have ed : diffN a (l.set v 35000000000000) k = 0 - 35000000000000 := by
              rw [diffN, e1, e2, Int.toNat_natCast, Int.toNat_natCast, getv, geto _ huv, hu0]
            have := h.high_much k1 (p := diffN a (l.set v 35000000000000) k) (by omega)
            omega
        omega
      · rw [if_neg (by omega)] at ih
        rw [if_neg (by omega)]
        omega
  have := key _ (Nat.le_refl _)
  rw [if_pos k1] at this
  rw [lowN]
  omega
theorem MadeA.cap_high {l : List Int} (hl : l.length = a.mine.places.l.length) (hb : InB2 l) (hz : ∀ u : Nat, u < a.mine.places.l.length → (a.mine.places.l.getD u default).surface = true → l.getD u 0 = 0) {v : Nat} (hv : v < a.mine.places.l.length) (hs : (a.mine.places.l.getD v default).surface = false) :
    highN a s (l.set v (-35000000000000)) (v : Int) ≤ 0 := by
  obtain ⟨k, u, k1, k2, k3, k4⟩ := h.shaft v hv hs
  have ha := airOk_of h.err
  have huv : u ≠ v := fun e => by rw [e, hs] at k2; cases k2
  have hnr := h.nroads
  have getv : (l.set v (-35000000000000)).getD v 0 = -35000000000000 := by rw [getD_setK (by omega), if_pos rfl]
  have geto : ∀ j, j ≠ v → (l.set v (-35000000000000)).getD j 0 = l.getD j 0 := fun j hj => by rw [getD_setK (by omega), if_neg hj]
  have key : ∀ n, n ≤ a.mine.roads.l.length → sumN flowHigh flowLow a s (l.set v (-35000000000000)) (v : Int) n ≤ 16200 * (n : Int) - (if k < n then 145800 else 0) := by
    intro n
    induction n with
    | zero => intro _; simp [sumN]
    | succ n ih =>
      intro hn
      have ih := ih (by omega)
      have hro := ha.mine.road n _ (get_D default (show n < _ by omega))
      have r1 := hro.fr
      have r2 := hro.to
      have r3 := hro.ne
      have small : termN flowHigh flowLow a s (l.set v (-35000000000000)) (v : Int) n ≤ 16200 := by
        rw [termN]
        split
        · omega
        · split
          · rename_i hf
            have ed : diffN a (l.set v (-35000000000000)) n = -35000000000000 - l.getD (a.mine.roads.l.getD n default).to.toNat 0 := by
              rw [diffN, hf, Int.toNat_natCast, getv, geto _ (by omega)]
            have := hb (a.mine.roads.l.getD n default).to.toNat
            exact h.high_le (by omega) (by omega)
          · split
            · rename_i ht
              have ed : diffN a (l.set v (-35000000000000)) n = l.getD (a.mine.roads.l.getD n default).fr.toNat 0 - -35000000000000 := by
                rw [diffN, ht, Int.toNat_natCast, getv, geto _ (by omega)]
              have := hb (a.mine.roads.l.getD n default).fr.toNat
              have := h.low_ge (k := n) (by omega) (p := diffN a (l.set v (-35000000000000)) n) (by omega)
              omega
            · omega
      rw [sumN]
      rcases Nat.lt_trichotomy k n with h1 | h1 | h1
      · rw [if_pos h1] at ih
        rw [if_pos (by omega)]
        omega
      · subst h1
        rw [if_neg (by omega)] at ih
        rw [if_pos (by omega)]
        have big : termN flowHigh flowLow a s (l.set v (-35000000000000)) (v : Int) k ≤ -129600 := by
          have hu0 := hz u (by rcases k4 with e | e <;> omega) k2
          rw [termN, if_neg (by rw [k3]; decide)]
          rcases k4 with ⟨e1, e2⟩ | ⟨e1, e2⟩
          · rw [if_pos e1]
            have ed : diffN a (l.set v (-35000000000000)) k = -35000000000000 - 0 := by
              rw [diffN, e1, e2, Int.toNat_natCast, Int.toNat_natCast, getv, geto _ huv, hu0]
            exact h.high_much k1 (by omega)
          · rw [if_neg (by omega), if_pos e2]
            have ed : diffN a (l.set v (-35000000000000)) k = 0 - -35000000000000 := by
              rw [diffN, e1, e2, Int.toNat_natCast, Int.toNat_natCast, getv, geto _ huv, hu0]
            have := h.low_much k1 (p := diffN a (l.set v (-35000000000000)) k) (by omega)
            omega
        omega
      · rw [if_neg (by omega)] at ih
        rw [if_neg (by omega)]
        omega
  have := key _ (Nat.le_refl _)
  rw [if_pos k1] at this
  rw [highN]
  omega
theorem MadeA.sweep_in {A : List Bool} {up : Bool} {l : List Int} (hl : StartOk a s l A) (hb : InB2 l) : ∀ {n : Nat} {m : List Int}, n ≤ a.mine.places.l.length → sweepTo a s A up l n = some m → InB2 m
  | 0, m, _, e => by cases e; exact hb
  | n + 1, m, hn, e => by
    rw [sweepTo, Option.bind_eq_some_iff] at e
    obtain ⟨m0, e1, e2⟩ := e
    have hll := hl.hl
    have ih := MadeA.sweep_in hl hb (by omega) e1
    have hS := sweepTo_swept hl.hp e1
    have hM := sweep_moved hl.hp (by omega) e1
    have hlen := hS.len
    split at e2
    · cases e2; exact ih
    · rename_i hf
      obtain ⟨v, hv, rfl⟩ := Option.map_eq_some_iff.1 e2
      have hsf : (a.mine.places.l.getD n default).surface = false := by
        cases e3 : (a.mine.places.l.getD n default).surface with
        | false => rfl
        | true => exact absurd (by rw [fixB, e3, Bool.or_true]) hf
      have hz : ∀ u : Nat, u < a.mine.places.l.length → (a.mine.places.l.getD u default).surface = true → m0.getD u 0 = 0 := fun u hu hs => by
        have hfu : fixB a A u = true := by rw [fixB, hs, Bool.or_true]
        rw [hM.fix u hfu]
        exact hl.fix u hu hfu
      have b0 := ih n
      refine ih.set (by omega) ?_
      cases up with
      | true =>
        obtain ⟨v1, v2, v3⟩ := next_up hS.pres hv
        refine ⟨by omega, Int.not_lt.1 fun hlt => ?_⟩
        have := v3 _ b0.2 hlt
        have := h.cap_low (by omega) ih hz (by omega) hsf
        omega
      | false =>
        obtain ⟨v1, v2, v3⟩ := next_down hS.pres hv
        refine ⟨Int.not_lt.1 fun hlt => ?_, by omega⟩
        have := v3 _ b0.1 hlt
        have := h.cap_high (by omega) ih hz (by omega) hsf
        omega
theorem MadeA.rounds_in {A : List Bool} {up : Bool} : ∀ {n : Nat} {l m : List Int}, StartOk a s l A → InB2 l → roundsS a s A up n l = some m → InB2 m
  | 0, l, m, _, _, e => by cases e
  | n + 1, l, m, hl, hb, e => by
    rw [roundsS] at e
    split at e
    · cases e
    · rename_i m1 h1
      have hll := hl.hl
      have hM := sweep_moved hl.hp (by omega) h1
      have hS := sweepTo_swept hl.hp h1
      have hb1 := h.sweep_in hl hb (Nat.le_refl _) h1
      split at e
      · cases e; exact hb1
      · exact MadeA.rounds_in ⟨hl.h0, hl.hf, hS.len.trans hll, hS.pres, fun i hi hf => (hM.fix i hf).trans (hl.fix i hi hf)⟩ hb1 e
/-- so far from what is possible are the bounds that are found -/
theorem MadeA.solve_in {A : List Bool} (h0 : (solveS a s A).1 = 0) : InB2 (solveS a s A).2.1 ∧ InB2 (solveS a s A).2.2 := by
  have s0 := start_zero (A := A) h.err h.fit
  have z0 : InB2 (List.replicate a.mine.places.l.length 0) := fun j => by
    rw [List.getD_eq_getElem?_getD, List.getElem?_replicate]
    split <;> simp
  rw [solveS] at h0 ⊢
  dsimp only at h0 ⊢
  split at h0
  · rename_i h1; exact absurd h0 h1
  rename_i h1
  rw [if_neg h1]
  split at h0
  · rename_i h2; exact absurd h0 h2
  rename_i h2
  rw [if_neg h2]
  split at h0
  · rename_i h3; exact absurd h0 h3
  rename_i h3
  rw [if_neg h3]
  have r1 := (relaxS_ok (show (relaxS a s A false (List.replicate a.mine.places.l.length 0)).1 = 0 by omega)).2
  have s1 := s0.moved r1
  have b1 := h.rounds_in s0 z0 r1
  have r2 := (relaxS_ok (show (relaxS a s A true (relaxS a s A false (List.replicate a.mine.places.l.length 0)).2).1 = 0 by omega)).2
  have s2 := s1.moved r2
  have b2 := h.rounds_in s1 b1 r2
  have r3 := (relaxS_ok (show (relaxS a s A false (relaxS a s A true (relaxS a s A false (List.replicate a.mine.places.l.length 0)).2).2).1 = 0 by omega)).2
  exact ⟨h.rounds_in s2 b2 r3, b2⟩
end
end Go.Proofs.Ytjjfpglgonpciaa
