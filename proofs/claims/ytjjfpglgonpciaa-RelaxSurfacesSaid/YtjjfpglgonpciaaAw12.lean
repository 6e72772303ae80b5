/-
  The sanity check of chapter 12: a mine with one road is solved. By an AI agent; no person has read it.
-/
import Derived.Test.YtjjfpglgonpciaaLaw11a
import Derived.Test.YtjjfpglgonpciaaRelP
set_option linter.unusedSimpArgs false
set_option linter.unusedVariables false
namespace Go.Proofs.Ytjjfpglgonpciaa
open Go.Aw Go

section
variable (b b' : Nat)
theorem awake12_h (x : Int) : flowHigh (innerS (awake10 b b') noSet10 0) x ≤ 0 ↔ x ≤ 100 := by
  have h1 := awake10_high b b' x
  have e0 := awake10_0 b b'
  generalize flowHigh (innerS (awake10 b b') noSet10 0) x = z at *
  constructor
  · intro h
    have := h1.ge 0 h (by omega)
    rw [e0] at this; exact this
  · intro h
    rcases Int.lt_or_le 0 z with h' | h'
    · have := h1.lt 0 (by omega) h'
      rw [e0] at this; dsimp only at this; omega
    · exact h'
theorem awake12_up {x : Int} (h : -70368744177664 ≤ x ∧ x ≤ 100) : nextAt (awake10 b b') noSet10 true [0, x] 1 = some 100 := by
  have e : ∀ y, testG (awake10 b b') noSet10 true [0, x] ((1 : Nat) : Int) y = decide (100 ≤ y) := fun y => by
    rw [testG, if_pos rfl]
    have h : ([0, x] : List Int).set (((1 : Nat) : Int)).toNat y = [0, y] := rfl
    show decide (0 ≤ lowN (awake10 b b') noSet10 (([0, x] : List Int).set (((1 : Nat) : Int)).toNat y) ((1 : Nat) : Int)) = _
    rw [h]
    have h2 := awake10_lowN b b' y
    exact decide_eq_decide.2 ⟨fun h3 => (awake10_g b b' y).1 (h2 ▸ h3), fun h3 => h2.symm ▸ (awake10_g b b' y).2 h3⟩
  refine nextS_some ⟨fun _ => ⟨100 - x, by omega, ?_, ?_, ?_, fun j j0 j1 => ?_⟩, fun h => by cases h⟩
  · show 100 - x ≤ 70368744177664 - x; omega
  · show 100 = x + 1 * (100 - x); omega
  · rw [e]; rfl
  · rw [e]
    show decide (100 ≤ x + 1 * j) = false
    exact decide_eq_false (by omega)
theorem awake12_down {x : Int} (h : -70368744177664 ≤ x ∧ x ≤ 100) : nextAt (awake10 b b') noSet10 false [0, x] 1 = some x := by
  have e : testG (awake10 b b') noSet10 false [0, x] ((1 : Nat) : Int) x = true := by
    rw [testG, if_neg (by decide)]
    have h1 : ([0, x] : List Int).set (((1 : Nat) : Int)).toNat x = [0, x] := rfl
    show decide (highN (awake10 b b') noSet10 (([0, x] : List Int).set (((1 : Nat) : Int)).toNat x) ((1 : Nat) : Int) ≤ 0) = _
    rw [h1]
    have h2 := awake10_highN b b' x
    exact decide_eq_true (h2.symm ▸ (awake12_h b b' x).2 h.2)
  refine nextS_some ⟨fun _ => ⟨0, by omega, ?_, ?_, e, fun j j0 j1 => by omega⟩, fun h => by cases h⟩
  · show 0 ≤ x + 70368744177664; omega
  · show x = x + -1 * 0; omega
theorem awake12_sweep {up : Bool} {x y : Int} (h : nextAt (awake10 b b') noSet10 up [0, x] 1 = some y) : sweepTo (awake10 b b') noSet10 [true, true] up [0, x] (awake10 b b').mine.places.l.length = some [0, y] := by
  have h0 : fixB (awake10 b b') [true, true] 0 = true := rfl
  have h1 : fixB (awake10 b b') [true, true] 1 = false := rfl
  show sweepTo (awake10 b b') noSet10 [true, true] up [0, x] (0 + 1 + 1) = _
  rw [sweepTo, sweepTo, sweepTo, Option.bind_some, if_pos h0, Option.bind_some, if_neg (by rw [h1]; decide), h]
  rfl
theorem awake12_start {x : Int} (h : 0 ≤ x ∧ x ≤ 100) : StartOk (awake10 b b') noSet10 [0, x] [true, true] := by
  refine ⟨by rfl, by rfl, rfl, fun p hp => ?_, fun i hi hf => ?_⟩
  · simp only [List.mem_cons, List.not_mem_nil, or_false] at hp
    omega
  · rcases Nat.lt_or_ge i 1 with h1 | h1
    · obtain rfl : i = 0 := by omega
      rfl
    · obtain rfl : i = 1 := by have : i < 2 := hi; omega
      cases hf
theorem awake12_fall {x : Int} (h : 0 ≤ x ∧ x ≤ 100) : relaxS (awake10 b b') noSet10 [true, true] false [0, x] = (0, [0, x]) := by
  have r : roundsS (awake10 b b') noSet10 [true, true] false 200 [0, x] = some [0, x] := rounds_done (n := 199) (awake12_sweep b b' (awake12_down b b' (by omega)))
  rw [relaxS, if_neg (by rw [startErr_iff.2 (awake12_start b b' h)]; decide), r]
theorem awake12_rise : relaxS (awake10 b b') noSet10 [true, true] true [0, 0] = (0, [0, 100]) := by
  have r1 : roundsS (awake10 b b') noSet10 [true, true] true (199 + 1) [0, 0] = roundsS (awake10 b b') noSet10 [true, true] true 199 [0, 100] := rounds_next (awake12_sweep b b' (awake12_up b b' (by decide))) (by decide)
  have r2 : roundsS (awake10 b b') noSet10 [true, true] true (198 + 1) [0, 100] = some [0, 100] := rounds_done (awake12_sweep b b' (awake12_up b b' (by decide)))
  have r : roundsS (awake10 b b') noSet10 [true, true] true 200 [0, 0] = some [0, 100] := r1.trans r2
  rw [relaxS, if_neg (by rw [startErr_iff.2 (awake12_start b b' (x := 0) (by decide))]; decide), r]
theorem awake12_solve : solveS (awake10 b b') noSet10 [true, true] = (0, [0, 100], [0, 100]) := by
  have h0 : List.replicate (awake10 b b').mine.places.l.length (0 : Int) = [0, 0] := rfl
  rw [solveS, h0, awake12_fall b b' (by decide)]
  dsimp only
  rw [if_neg (by decide), awake12_rise, if_neg (by decide), awake12_fall b b' (by decide), if_neg (by decide)]
end
end Go.Proofs.Ytjjfpglgonpciaa
