/-
  The flow at a difference of pressure, in plain numbers: it does not fall when the difference grows. By an AI agent; no person has read it.
-/
import Derived.Test.YtimnnhdeicpenaaLaw9a
set_option linter.unusedSimpArgs false
set_option linter.unusedVariables false
namespace Go.Proofs.Ytimnnhdeicpenaa
open Go.Aw Go

theorem innerS_le {a : XAir} {s : XSetting} (ha : AirOk a) {r q : Int} (hr : 0 ≤ r ∧ r < a.mine.roads.l.length) (hq : -1048577 ≤ q ∧ q ≤ 1048577) : (innerS a s r q).low ≤ (innerS a s r q).high :=
  (innerTo_bounds ha hr hq _ (Nat.le_refl _)).2.1

structure LowIs (f : Int → XSpan) (p z : Int) : Prop where
  bnd : -1048577 ≤ z ∧ z ≤ 1048576
  le : ∀ x, -1048577 < x → x ≤ z → (f x).high ≤ p
  gt : ∀ x, z < x → x ≤ 1048576 → p < (f x).high
structure HighIs (f : Int → XSpan) (p z : Int) : Prop where
  bnd : -1048576 ≤ z ∧ z ≤ 1048577
  lt : ∀ x, -1048576 ≤ x → x < z → (f x).low < p
  ge : ∀ x, z ≤ x → x < 1048577 → p ≤ (f x).low

theorem flowLow_is {a : XAir} {s : XSetting} (ha : AirOk a) {r : Int} (hr : 0 ≤ r ∧ r < a.mine.roads.l.length) (p : Int) : LowIs (innerS a s r) p (flowLow (innerS a s r) p) := by
  obtain ⟨a1, a2, a3, a4⟩ := lowS_all (pr := p) (rises_high (s := s) ha hr) _ (-1048577) 1048576 rfl (by omega) (by omega) (by omega)
  exact ⟨⟨a1, a2⟩, a3, a4⟩
theorem flowHigh_is {a : XAir} {s : XSetting} (ha : AirOk a) {r : Int} (hr : 0 ≤ r ∧ r < a.mine.roads.l.length) (p : Int) : HighIs (innerS a s r) p (flowHigh (innerS a s r) p) := by
  obtain ⟨a1, a2, a3, a4⟩ := highS_all (pr := p) (rises_low (s := s) ha hr) _ (-1048576) 1048577 rfl (by omega) (by omega) (by omega)
  exact ⟨⟨a1, a2⟩, a3, a4⟩

theorem flow_le {a : XAir} {s : XSetting} (ha : AirOk a) {r : Int} (hr : 0 ≤ r ∧ r < a.mine.roads.l.length) (p : Int) : flowLow (innerS a s r) p ≤ flowHigh (innerS a s r) p := by
  have h1 := flowLow_is (s := s) ha hr p
  have h2 := flowHigh_is (s := s) ha hr p
  generalize flowLow (innerS a s r) p = l at *
  generalize flowHigh (innerS a s r) p = h at *
  rcases Int.lt_or_le h l with hlt | hle
  · have b1 := h1.bnd
    have b2 := h2.bnd
    have k1 := h2.ge h (Int.le_refl _) (by omega)
    have k2 := h1.le (h + 1) (by omega) (by omega)
    have k3 := (innerS_mono (s := s) ha hr (show h < h + 1 by omega)).1
    have k4 := innerS_le (s := s) ha hr (q := h + 1) (by omega)
    omega
  · exact hle
theorem flowLow_mono {a : XAir} {s : XSetting} (ha : AirOk a) {r : Int} (hr : 0 ≤ r ∧ r < a.mine.roads.l.length) {p p' : Int} (hp : p ≤ p') : flowLow (innerS a s r) p ≤ flowLow (innerS a s r) p' := by
  have h1 := flowLow_is (s := s) ha hr p
  have h2 := flowLow_is (s := s) ha hr p'
  generalize flowLow (innerS a s r) p = l at *
  generalize flowLow (innerS a s r) p' = h at *
  rcases Int.lt_or_le h l with hlt | hle
  · have b1 := h1.bnd
    have b2 := h2.bnd
    have k1 := h2.gt l hlt (by omega)
    have k2 := h1.le l (by omega) (Int.le_refl _)
    omega
  · exact hle
theorem flowHigh_mono {a : XAir} {s : XSetting} (ha : AirOk a) {r : Int} (hr : 0 ≤ r ∧ r < a.mine.roads.l.length) {p p' : Int} (hp : p ≤ p') : flowHigh (innerS a s r) p ≤ flowHigh (innerS a s r) p' := by
  have h1 := flowHigh_is (s := s) ha hr p
  have h2 := flowHigh_is (s := s) ha hr p'
  generalize flowHigh (innerS a s r) p = l at *
  generalize flowHigh (innerS a s r) p' = h at *
  rcases Int.lt_or_le h l with hlt | hle
  · have b1 := h1.bnd
    have b2 := h2.bnd
    have k1 := h1.lt h (by omega) hlt
    have k2 := h2.ge h (Int.le_refl _) (by omega)
    omega
  · exact hle

theorem openB_eq {a : XAir} {s : XSetting} (h : rightB a s = true) {r : Int} (hr : 0 ≤ r ∧ r < a.mine.roads.l.length) : openB a s r = !(a.mine.roads.l.getD r.toNat default).closed := by
  unfold openB
  rw [h, decide_eq_true hr.1, decide_eq_true hr.2]
  rfl
theorem AnySet.fit {a : XAir} {tf td : OwL Int} (h : AnySet a a.fans.l.length a.doors.l.length tf.l td.l) : fitB a ⟨tf.arr, td.arr⟩ = true := fitB_true ⟨h.lf, h.ld, h.fan, h.door⟩
theorem dropS_open {a : XAir} {s : XSetting} {r q : Int} (h : openB a s r = true) (hq : -1048577 ≤ q ∧ q ≤ 1048577) : dropS a s r q = innerS a s r q := by rw [dropS, if_neg (by rw [h]; simp only [Bool.true_eq_false, false_or]; omega)]
theorem dropS_shut {a : XAir} {s : XSetting} {r q : Int} (h : openB a s r = false) : dropS a s r q = ⟨0, 0⟩ := by rw [dropS, if_pos (.inl h)]
theorem flowS_open {a : XAir} {s : XSetting} {r p : Int} (h : openB a s r = true) : flowS a s r p = ⟨flowLow (innerS a s r) p, flowHigh (innerS a s r) p⟩ := by rw [flowS, if_neg (by rw [h]; decide)]
theorem flowS_shut {a : XAir} {s : XSetting} {r p : Int} (h : openB a s r = false) : flowS a s r p = ⟨0, 0⟩ := by rw [flowS, if_pos h]
end Go.Proofs.Ytimnnhdeicpenaa
