/-
  The difference of pressure rises strictly with the flow. By an AI agent; no person has read it.
-/
import Derived.Test.YtimnnhdeicpenaaPipeOf
set_option linter.unusedSimpArgs false
set_option linter.unusedVariables false
namespace Go.Proofs.Ytimnnhdeicpenaa
open Go.Aw Go

def LeS (s t : XSpan) : Prop := s.low ≤ t.low ∧ s.high ≤ t.high

theorem between_low {a b : XPoint} {q : Int} (hw : a.flow < b.flow) : (betweenS a b q).low = a.pres + (-((a.pres - b.pres) * (q - a.flow))) / (b.flow - a.flow) := by
  rw [neg_floor (by omega)]; unfold betweenS; dsimp only; omega

theorem between_mono {a b : XPoint} {q q' : Int} (hp : b.pres ≤ a.pres) (hw : a.flow < b.flow) (h : q ≤ q') : LeS (betweenS a b q') (betweenS a b q) := by
  have hm : (a.pres - b.pres) * (q - a.flow) ≤ (a.pres - b.pres) * (q' - a.flow) := Int.mul_le_mul_of_nonneg_left (by omega) (by omega)
  constructor
  · rw [between_low hw, between_low hw]
    have := Int.ediv_le_ediv (a := -((a.pres - b.pres) * (q' - a.flow))) (b := -((a.pres - b.pres) * (q - a.flow))) (c := b.flow - a.flow) (by omega) (by omega)
    omega
  · have := Int.ediv_le_ediv (a := (a.pres - b.pres) * (q - a.flow)) (b := (a.pres - b.pres) * (q' - a.flow)) (c := b.flow - a.flow) (by omega) hm
    unfold betweenS; dsimp only; omega

theorem curveGo_mono : ∀ (l : List XPoint) (p : XPoint) (q q' : Int), CurveOk (p :: l) → p.flow ≤ q → q ≤ q' → LeS (curveGo p l q') (curveGo p l q)
  | [], p, q, q', _, _, _ => ⟨Int.le_refl _, Int.le_refl _⟩
  | r :: rest, p, q, q', h, hq, hqq => by
    have h0 := h.pt 0 p rfl
    have h1 := h.pt 1 r rfl
    have h2 := h.st 0 p r rfl rfl
    have ok' : CurveOk (r :: rest) := ⟨fun i => h.pt (i + 1), fun i => h.st (i + 1)⟩
    unfold curveGo
    by_cases c1 : q ≤ r.flow
    · by_cases c2 : q' ≤ r.flow
      · rw [if_pos c1, if_pos c2]; exact between_mono h2.2 h2.1 hqq
      · rw [if_pos c1, if_neg c2]
        have b1 := between_bounds (a := p) (b := r) (q := q) (by omega) (by omega)
        have b2 := curveGo_bounds rest r q' ok' (by omega)
        exact ⟨by omega, by omega⟩
    · rw [if_neg c1, if_neg (by omega)]
      exact curveGo_mono rest r q q' ok' (by omega) hqq

theorem curveS_mono {l : List XPoint} (h : CurveOk l) {q q' : Int} (hqq : q ≤ q') : LeS (curveS l q') (curveS l q) := by
  cases l with
  | nil => exact ⟨Int.le_refl _, Int.le_refl _⟩
  | cons p rest =>
    unfold curveS
    dsimp only
    by_cases c1 : q ≤ p.flow
    · by_cases c2 : q' ≤ p.flow
      · rw [if_pos c1, if_pos c2]; exact ⟨Int.le_refl _, Int.le_refl _⟩
      · rw [if_pos c1, if_neg c2]
        have b2 := curveGo_bounds rest p q' h (by omega)
        exact ⟨by dsimp only; omega, by dsimp only; omega⟩
    · rw [if_neg c1, if_neg (by omega)]
      exact curveGo_mono rest p q q' h (by omega) hqq

theorem alongS_mono {l : List XPoint} (h : CurveOk l) (back : Bool) {q q' : Int} (hqq : q ≤ q') : LeS (alongS l back q') (alongS l back q) := by
  unfold alongS
  cases back with
  | false => exact curveS_mono h hqq
  | true =>
    have := curveS_mono h (q := -q') (q' := -q) (by omega)
    exact ⟨by simp only [if_true, negS]; have := this.2; omega, by simp only [if_true, negS]; have := this.1; omega⟩

theorem stateS_mono {f : XFan} (h : CurveOk f.curve.l) (s : Int) {q q' : Int} (hqq : q ≤ q') : LeS (stateS f s q') (stateS f s q) := by
  have m1 := alongS_mono h f.back hqq
  have m2 := alongS_mono h (!f.back) hqq
  have m3 := alongS_mono h false hqq
  have m4 := alongS_mono h true hqq
  unfold LeS at *
  unfold stateS
  split
  · exact m1
  · split
    · exact m2
    · split
      · dsimp only; omega
      · exact ⟨Int.le_refl _, Int.le_refl _⟩

def LtS (s t : XSpan) : Prop := s.low < t.low ∧ s.high < t.high

theorem sq_lt {r x y : Int} (hr : 0 < r) (hx : 0 ≤ x) (h : x < y) : r * x * x < r * y * y := by
  have h1 : r * x ≤ r * y := Int.mul_le_mul_of_nonneg_left (by omega) (by omega)
  have h0 : 0 ≤ r * x := Int.mul_nonneg (by omega) hx
  have h2 : r * x * x ≤ r * x * y := Int.mul_le_mul_of_nonneg_left (by omega) h0
  have h3 : r * x < r * y := Int.mul_lt_mul_of_pos_left h hr
  have h4 : r * x * y < r * y * y := Int.mul_lt_mul_of_pos_right h3 (by omega)
  omega

theorem baseS_mono {rest lift : XSpan} (hr : 1 ≤ rest.low ∧ rest.low ≤ rest.high) {q q' : Int} (h : q < q') : LtS (baseS rest lift q) (baseS rest lift q') := by
  unfold baseS LtS
  have neg : ∀ (r x : Int), r * x * x = r * (-x) * (-x) := fun r x => by rw [Int.mul_neg (r * -x), Int.mul_neg r, Int.neg_mul, Int.neg_neg]
  by_cases c1 : q < 0
  · by_cases c2 : q' < 0
    · rw [if_pos c1, if_pos c2]
      have a1 := sq_lt (r := rest.high) (x := -q') (y := -q) (by omega) (by omega) (by omega)
      have a2 := sq_lt (r := rest.low) (x := -q') (y := -q) (by omega) (by omega) (by omega)
      rw [← neg, ← neg] at a1 a2
      dsimp only; omega
    · rw [if_pos c1, if_neg c2]
      have a1 := sq_lt (r := rest.high) (x := 0) (y := -q) (by omega) (by omega) (by omega)
      have a2 := sq_lt (r := rest.low) (x := 0) (y := -q) (by omega) (by omega) (by omega)
      rw [← neg] at a1 a2
      have b1 : 0 ≤ rest.low * q' * q' := Int.mul_nonneg (Int.mul_nonneg (by omega) (by omega)) (by omega)
      have b2 : 0 ≤ rest.high * q' * q' := Int.mul_nonneg (Int.mul_nonneg (by omega) (by omega)) (by omega)
      simp only [Int.mul_zero] at a1 a2
      dsimp only; omega
  · rw [if_neg c1, if_neg (by omega)]
    have a1 := sq_lt (r := rest.high) (x := q) (y := q') (by omega) (by omega) h
    have a2 := sq_lt (r := rest.low) (x := q) (y := q') (by omega) (by omega) h
    dsimp only; omega

theorem innerTo_mono {a : XAir} {s : XSetting} (ha : AirOk a) {r : Int} (hr : 0 ≤ r ∧ r < a.mine.roads.l.length) {q q' : Int} (h : q < q') : ∀ k, k ≤ a.fans.l.length → LtS (innerTo a s r q k) (innerTo a s r q' k)
  | 0, _ => by
    have hb := restTo_bounds (s := s) ha hr a.doors.l.length (Nat.le_refl _)
    exact baseS_mono ⟨hb.1, hb.2.1⟩ h
  | k + 1, hk => by
    have ih := innerTo_mono (s := s) ha hr h k (by omega)
    have m := stateS_mono (ha.fan k _ (get_D default (by omega))).1.ok (s.fans.l.getD k 0) (show q ≤ q' by omega)
    unfold LtS LeS at *
    rw [innerTo.eq_2, innerTo.eq_2]
    split
    · dsimp only; omega
    · exact ih

theorem innerS_mono {a : XAir} {s : XSetting} (ha : AirOk a) {r : Int} (hr : 0 ≤ r ∧ r < a.mine.roads.l.length) {q q' : Int} (h : q < q') : LtS (innerS a s r q) (innerS a s r q') := innerTo_mono ha hr h _ (Nat.le_refl _)
end Go.Proofs.Ytimnnhdeicpenaa
