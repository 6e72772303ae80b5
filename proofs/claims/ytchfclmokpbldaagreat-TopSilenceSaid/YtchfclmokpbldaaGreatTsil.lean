/-
  The statement TopSilence: it returns true for all inputs, and the inputs read as they did. No conditions.
-/
import Derived.Test.YtchfclmokpbldaaGreatTsila
import Derived.Test.YtchfclmokpbldaaGreatRows
set_option linter.unusedVariables false
set_option linter.unusedSimpArgs false
namespace Go.Proofs.YtchfclmokpbldaaGreat
open Go.Aw Go
open Go.ChangeShapes Go.WideShapes Go.ChangeAt Go.RowKit
namespace topSilence
set_option maxHeartbeats 8000000 in
theorem over:Rows.topSilenceRow.holds Tryz.pinned (OpenSpec.ofChange Rows.topSilenceSpec):=by
  refine OpenClaim.holds_of_wide 4 Tryz.f4 rfl rfl rfl rfl rfl rfl rfl ⟨rfl,rfl,rfl,rfl,rfl⟩ rfl rfl rfl rfl rfl ?_ Tryz.func4 ?_ ?_ ?_ (fun os started H enc _=>Jeg os started H enc)
  · as_aux_lemma=>kernel_rfl
  · as_aux_lemma=>
      unfold joinedFacts
      simp only [Bool.and_eq_true]
      repeat' refine And.intro ?_ ?_
      all_goals (as_aux_lemma=>kernel_rfl)
  · as_aux_lemma=>exact of_decide_eq_true (by kernel_rfl)
  · as_aux_lemma=>(unfold Func.isWrapper;first | (rw [if_pos (by decide +kernel)];kernel_rfl) | (rw [if_neg (by decide +kernel)];exact ⟨rfl,rfl⟩))
end topSilence
theorem topSilence_holds:Rows.TopSilenceSaid:=topSilence.over
#print axioms topSilence_holds
end Go.Proofs.YtchfclmokpbldaaGreat
