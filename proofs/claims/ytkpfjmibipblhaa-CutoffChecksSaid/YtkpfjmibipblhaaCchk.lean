/-
  The statement CutoffChecks: it returns true for all inputs, and the inputs read as they did. No conditions.
-/
import Derived.Test.YtkpfjmibipblhaaCchka
import Derived.Test.YtkpfjmibipblhaaRows
set_option linter.unusedSimpArgs false
set_option linter.unusedVariables false
namespace Go.Proofs.Ytkpfjmibipblhaa
open Go.Aw Go
open Go.ChangeShapes Go.WideShapes Go.ChangeAt Go.RowKit
namespace cutoffChecks
set_option maxHeartbeats 1000000 in
theorem over : Rows.cutoffChecksRow.holds Try.pinned (OpenSpec.ofChange Rows.cutoffChecksSpec) := by
  refine OpenClaim.holds_of_wide 3 Try.f3 rfl rfl rfl rfl rfl rfl rfl ⟨rfl, rfl, rfl, rfl, rfl⟩ rfl rfl rfl rfl rfl ?_ Try.func3 ?_ ?_ ?_ (fun os started H enc _ => lifted os started H enc)
  · as_aux_lemma => kernel_rfl
  · as_aux_lemma =>
      unfold joinedFacts
      repeat (refine Bool.and_eq_true_iff.2 ⟨?_, (by as_aux_lemma => kernel_rfl)⟩)
      kernel_rfl
  · as_aux_lemma => exact of_decide_eq_true (by kernel_rfl)
  · as_aux_lemma => (unfold Func.isWrapper; first | (rw [if_pos (by decide +kernel)]; kernel_rfl) | (rw [if_neg (by decide +kernel)]; exact ⟨rfl, rfl⟩))

end cutoffChecks

theorem cutoffChecks_holds : Rows.CutoffChecksSaid := cutoffChecks.over
#print axioms cutoffChecks_holds
end Go.Proofs.Ytkpfjmibipblhaa
