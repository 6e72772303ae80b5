/-
  The statement TopPower: it returns true for all inputs, and the inputs read as they did. No conditions.
-/
import Derived.Test.YtchfclmokpbldaaGreatTpowa
import Derived.Test.YtchfclmokpbldaaGreatRows
set_option linter.unusedVariables false
set_option linter.unusedSimpArgs false
namespace Go.Proofs.YtchfclmokpbldaaGreat
open Go.Aw Go
open Go.ChangeShapes Go.WideShapes Go.ChangeAt Go.RowKit
namespace topPower
set_option maxHeartbeats 8000000 in
theorem over:Rows.topPowerRow.holds Tryz.pinned (OpenSpec.ofChange Rows.topPowerSpec):=by
  refine OpenClaim.holds_of_wide 3 Tryz.f3 rfl rfl rfl rfl rfl rfl rfl ⟨rfl,rfl,rfl,rfl,rfl⟩ rfl rfl rfl rfl rfl ?_ Tryz.func3 ?_ ?_ ?_ (fun os started H enc _=>Ztf os started H enc)
  · as_aux_lemma=>kernel_rfl
  · as_aux_lemma=>
      unfold joinedFacts
      simp only [Bool.and_eq_true]
      repeat' refine And.intro ?_ ?_
      all_goals (as_aux_lemma=>kernel_rfl)
  · as_aux_lemma=>exact of_decide_eq_true (by kernel_rfl)
  · as_aux_lemma=>(unfold Func.isWrapper;first | (rw [if_pos (by decide +kernel)];kernel_rfl) | (rw [if_neg (by decide +kernel)];exact ⟨rfl,rfl⟩))
end topPower
theorem topPower_holds:Rows.TopPowerSaid:=topPower.over
#print axioms topPower_holds
end Go.Proofs.YtchfclmokpbldaaGreat
