/-
  What the searches find, if the function rises. By an AI agent; no person has read it.
-/
import Derived.Test.YtimnnhdeicpenaaMono
set_option linter.unusedSimpArgs false
set_option linter.unusedVariables false
namespace Go.Proofs.Ytimnnhdeicpenaa
open Go.Aw Go

theorem Rises.le {f : Int → Int} (h : Rises f) {x y : Int} (h1 : -1048577 ≤ x) (h2 : x ≤ y) (h3 : y ≤ 1048577) : f x ≤ f y := by
  rcases Int.lt_or_eq_of_le h2 with h' | h'
  · exact Int.le_of_lt (h x y h1 h' h3)
  · rw [h']; exact Int.le_refl _

theorem lowS_all {f : Int → Int} {pr : Int} (hf : Rises f) : ∀ (n : Nat) (lo hi : Int), (hi - lo).toNat = n → -1048577 ≤ lo → lo ≤ hi → hi ≤ 1048577 →
    lo ≤ lowS f pr lo hi ∧ lowS f pr lo hi ≤ hi ∧ (∀ x, lo < x → x ≤ lowS f pr lo hi → f x ≤ pr) ∧ (∀ x, lowS f pr lo hi < x → x ≤ hi → pr < f x)
  | n, lo, hi, hn, h1, hle, h2 => by
    by_cases h : lo < hi
    · have he := half_eq (x := hi - lo + 1) (by omega)
      by_cases hc : f (lo + (hi - lo + 1).tdiv 2) ≤ pr
      · rw [lowS_le h hc]
        obtain ⟨a1, a2, a3, a4⟩ := lowS_all (pr := pr) hf _ (lo + (hi - lo + 1).tdiv 2) hi rfl (by omega) (by omega) h2
        refine ⟨by omega, a2, fun x hx1 hx2 => ?_, a4⟩
        rcases Int.lt_or_le (lo + (hi - lo + 1).tdiv 2) x with hx | hx
        · exact a3 x hx hx2
        · exact Int.le_trans (hf.le (by omega) hx (by omega)) hc
      · rw [lowS_gt h hc]
        obtain ⟨a1, a2, a3, a4⟩ := lowS_all (pr := pr) hf _ lo (lo + (hi - lo + 1).tdiv 2 - 1) rfl h1 (by omega) (by omega)
        refine ⟨a1, by omega, a3, fun x hx1 hx2 => ?_⟩
        rcases Int.lt_or_le (lo + (hi - lo + 1).tdiv 2 - 1) x with hx | hx
        · have := hf.le (x := lo + (hi - lo + 1).tdiv 2) (y := x) (by omega) (by omega) (by omega)
          omega
        · exact a4 x hx1 hx
    · rw [lowS_end h]
      exact ⟨by omega, by omega, fun x _ _ => by omega, fun x _ _ => by omega⟩
termination_by n => n
decreasing_by all_goals (have := half_eq (x := hi - lo + 1) (by omega); omega)

theorem highS_all {f : Int → Int} {pr : Int} (hf : Rises f) : ∀ (n : Nat) (lo hi : Int), (hi - lo).toNat = n → -1048577 ≤ lo → lo ≤ hi → hi ≤ 1048577 →
    lo ≤ highS f pr lo hi ∧ highS f pr lo hi ≤ hi ∧ (∀ x, lo ≤ x → x < highS f pr lo hi → f x < pr) ∧ (∀ x, highS f pr lo hi ≤ x → x < hi → pr ≤ f x)
  | n, lo, hi, hn, h1, hle, h2 => by
    by_cases h : lo < hi
    · have he := half_eq (x := hi - lo) (by omega)
      by_cases hc : pr ≤ f (lo + (hi - lo).tdiv 2)
      · rw [highS_ge h hc]
        obtain ⟨a1, a2, a3, a4⟩ := highS_all (pr := pr) hf _ lo (lo + (hi - lo).tdiv 2) rfl h1 (by omega) (by omega)
        refine ⟨a1, by omega, a3, fun x hx1 hx2 => ?_⟩
        rcases Int.lt_or_le x (lo + (hi - lo).tdiv 2) with hx | hx
        · exact a4 x hx1 hx
        · exact Int.le_trans hc (hf.le (by omega) hx (by omega))
      · rw [highS_lt h hc]
        obtain ⟨a1, a2, a3, a4⟩ := highS_all (pr := pr) hf _ (lo + (hi - lo).tdiv 2 + 1) hi rfl (by omega) (by omega) h2
        refine ⟨by omega, a2, fun x hx1 hx2 => ?_, a4⟩
        rcases Int.lt_or_le x (lo + (hi - lo).tdiv 2 + 1) with hx | hx
        · have := hf.le (x := x) (y := lo + (hi - lo).tdiv 2) (by omega) (by omega) (by omega)
          omega
        · exact a3 x hx hx2
    · rw [highS_end h]
      exact ⟨by omega, by omega, fun x _ _ => by omega, fun x _ _ => by omega⟩
termination_by n => n
decreasing_by all_goals (have := half_eq (x := hi - lo) (by omega); omega)

theorem rises_low {a : XAir} {s : XSetting} (ha : AirOk a) {r : Int} (hr : 0 ≤ r ∧ r < a.mine.roads.l.length) : Rises fun q => (innerS a s r q).low := fun _ _ _ h _ => (innerS_mono ha hr h).1
theorem rises_high {a : XAir} {s : XSetting} (ha : AirOk a) {r : Int} (hr : 0 ≤ r ∧ r < a.mine.roads.l.length) : Rises fun q => (innerS a s r q).high := fun _ _ _ h _ => (innerS_mono ha hr h).2
end Go.Proofs.Ytimnnhdeicpenaa
