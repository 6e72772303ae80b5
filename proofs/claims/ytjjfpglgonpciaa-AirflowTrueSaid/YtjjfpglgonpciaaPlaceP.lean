/-
  What is known of the flows of a place below ground can be balanced. By an AI agent; no person has read it.
-/
import Derived.Test.YtjjfpglgonpciaaAnal
import Derived.Test.YtjjfpglgonpciaaRelP
set_option linter.unusedSimpArgs false
set_option linter.unusedVariables false
namespace Go.Proofs.Ytjjfpglgonpciaa
open Go.Aw Go

/-- what a made air gives -/
theorem ana_ok {a : XAir} {s : XSetting} {A : List Bool} (h0 : airErr a = 0) (hf : fitB a s = true) (hA : AiryIs a.mine A) :
    (anaS a s A).1 = 0 ∧ ((Accept a s (foundB a s A) A ∧ (∀ i : Nat, (foundB a s A).low.l.getD i 0 ≤ (foundB a s A).high.l.getD i 0) ∧ (anaS a s A).2 = (List.range a.mine.roads.l.length).map (roadFlow a s (foundB a s A) A)) ∨ (anaS a s A).2 = (List.range a.mine.roads.l.length).map (blindF a)) := by
  have hfn : ¬ fitB a s = false := by rw [hf]; decide
  rw [anaS, if_neg (by rw [h0]; decide), if_neg hfn]
  rcases solve_facts (A := A) h0 hf with h | h
  · have hac : Accept a s (foundB a s A) A := h.2.accept rfl rfl
    rw [if_pos h.1, boundFlows, if_pos (accept_iff.2 hac)]
    exact ⟨rfl, .inl ⟨hac, h.2.le, rfl⟩⟩
  · rw [if_neg (by rw [h]; decide)]
    exact ⟨rfl, .inr rfl⟩
theorem ana_len {a : XAir} {s : XSetting} {A : List Bool} (h0 : airErr a = 0) (hf : fitB a s = true) (hA : AiryIs a.mine A) : (anaS a s A).2.length = a.mine.roads.l.length := by
  rcases (ana_ok h0 hf hA).2 with ⟨_, _, e⟩ | e <;> rw [e] <;> simp
end Go.Proofs.Ytjjfpglgonpciaa
