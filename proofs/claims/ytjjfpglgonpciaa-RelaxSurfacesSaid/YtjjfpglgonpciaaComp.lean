/-
  Bounds that are accepted hold the state that fits: the law of comparison. By an AI agent; no person has read it.
-/
import Derived.Test.YtjjfpglgonpciaaCflowR
set_option linter.unusedSimpArgs false
set_option linter.unusedVariables false
namespace Go.Proofs.Ytjjfpglgonpciaa
open Go.Aw Go

/-- P11.1, taken apart -/
structure Accept (a : XAir) (s : XSetting) (b : XBounds) (A : List Bool) : Prop where
  ck : CheckOk a s b
  fix : ∀ i : Nat, i < a.mine.places.l.length → (!(A.getD i false) || (a.mine.places.l.getD i default).surface) = true → b.low.l.getD i 0 = 0 ∧ b.high.l.getD i 0 = 0
  net : ∀ i : Nat, i < a.mine.places.l.length → ¬ (!(A.getD i false) || (a.mine.places.l.getD i default).surface) = true → 0 ≤ lowN a s b.high.l (i : Int) ∧ highN a s b.low.l (i : Int) ≤ 0
theorem surf_getD (m : XMine) (i : Nat) (hi : i < m.places.l.length) : (surf m).getD i false = (m.places.l.getD i default).surface := by
  rw [surf, List.getD_eq_getElem?_getD, List.getElem?_map, get_D (l := m.places.l) (k := i) default hi]
  rfl
theorem surf_length (m : XMine) : (surf m).length = m.places.l.length := by simp [surf]
/-- what steps join is airy together -/
theorem AiryIs.step {m : XMine} {A : List Bool} (hA : AiryIs m A) (hm : MineOk m) {u v : Nat} (hu : A.getD u false = true) (h : Step m u v) : A.getD v false = true := by
  have hl := h.lt hm
  obtain ⟨j, h1, h2, h3⟩ := (hA.iff u (by rw [surf_length]; exact hl.1)).1 hu
  exact (hA.iff v (by rw [surf_length]; exact hl.2)).2 ⟨j, h1, h2, h3.tail h⟩

end Go.Proofs.Ytjjfpglgonpciaa
