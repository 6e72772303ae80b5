/-
  The flow of a made air lies inside the limits of the search, for small differences of pressure. By an AI agent; no person has read it.
-/
import Derived.Test.YtimnnhdeicpenaaFlowS
set_option linter.unusedSimpArgs false
set_option linter.unusedVariables false
namespace Go.Proofs.Ytimnnhdeicpenaa
open Go.Aw Go

theorem innerTo_far {a : XAir} {s : XSetting} (h : ∀ f ∈ a.fans.l, MadeCurve f.curve.l) (r q : Int) : ∀ k, k ≤ a.fans.l.length → (innerTo a s r q k).high ≤ (innerTo a s r q 0).high + 3000 * (k : Int) ∧ (innerTo a s r q 0).low - 3000 * (k : Int) ≤ (innerTo a s r q k).low
  | 0, _ => by omega
  | k + 1, hk => by
    have ih := innerTo_far (s := s) h r q k (by omega)
    have hb := stateS_made (h _ (List.mem_of_getElem? (get_D (l := a.fans.l) (k := k) default (by omega)))) (s.fans.l.getD k 0) q
    rw [innerTo.eq_2]
    split
    · dsimp only; omega
    · omega

theorem made_far {a : XAir} {t s : XSetting} {x : XState} (h : MadeA a t x) {r : Int} (hr : 0 ≤ r ∧ r < a.mine.roads.l.length) : (innerS a s r (-1048577)).high < -100000000000 ∧ 100000000000 < (innerS a s r 1048577).low := by
  have ha := airOk_of h.err
  have hro := get_D (l := a.mine.roads.l) (k := r.toNat) default (by omega)
  have hs := h.small _ _ hro
  have hnf := h.nfans
  have hrb := restTo_bounds (s := s) ha hr a.doors.l.length (Nat.le_refl _)
  have f1 := innerTo_far (s := s) h.curve r (-1048577) a.fans.l.length (Nat.le_refl _)
  have f2 := innerTo_far (s := s) h.curve r 1048577 a.fans.l.length (Nat.le_refl _)
  have k1 := mul_sq_mono (q := -1048577) hrb.1
  have k2 := mul_sq_mono (q := 1048577) hrb.1
  rw [innerTo_neg (by decide)] at f1
  rw [innerTo_pos (by decide)] at f2
  dsimp only at f1 f2
  unfold innerS
  omega

theorem flow_inside {a : XAir} {t s : XSetting} {x : XState} (h : MadeA a t x) {r : Int} (hr : 0 ≤ r ∧ r < a.mine.roads.l.length) {p : Int} (hp : -100000 ≤ p ∧ p ≤ 100000) :
    ((innerS a s r (flowLow (innerS a s r) p)).high ≤ p ∧ p < (innerS a s r (flowLow (innerS a s r) p + 1)).high ∧ -1048577 ≤ flowLow (innerS a s r) p ∧ flowLow (innerS a s r) p ≤ 1048576) ∧
    (p ≤ (innerS a s r (flowHigh (innerS a s r) p)).low ∧ (innerS a s r (flowHigh (innerS a s r) p - 1)).low < p ∧ -1048576 ≤ flowHigh (innerS a s r) p ∧ flowHigh (innerS a s r) p ≤ 1048577) := by
  have ha := airOk_of h.err
  have hfar := made_far (s := s) h hr
  have h1 := flowLow_is (s := s) ha hr p
  have h2 := flowHigh_is (s := s) ha hr p
  have e1 := innerS_le (s := s) ha hr (q := 1048577) (by omega)
  have e2 := innerS_le (s := s) ha hr (q := -1048577) (by omega)
  generalize flowLow (innerS a s r) p = l at *
  generalize flowHigh (innerS a s r) p = u at *
  have b1 := h1.bnd
  have b2 := h2.bnd
  refine ⟨⟨?_, ?_, b1.1, b1.2⟩, ?_, ?_, b2.1, b2.2⟩
  · rcases Int.lt_or_le (-1048577) l with hl | hl
    · exact h1.le l hl (Int.le_refl _)
    · have : l = -1048577 := by omega
      rw [this]; omega
  · rcases Int.lt_or_le l 1048576 with hl | hl
    · exact h1.gt (l + 1) (by omega) (by omega)
    · have : l = 1048576 := by omega
      rw [this, show (1048576 : Int) + 1 = 1048577 from rfl]; omega
  · rcases Int.lt_or_le u 1048577 with hl | hl
    · exact h2.ge u (Int.le_refl _) hl
    · have : u = 1048577 := by omega
      rw [this]; omega
  · rcases Int.lt_or_le (-1048576) u with hl | hl
    · exact h2.lt (u - 1) (by omega) (by omega)
    · have : u = -1048576 := by omega
      rw [this, show (-1048576 : Int) - 1 = -1048577 from rfl]; omega
end Go.Proofs.Ytimnnhdeicpenaa
