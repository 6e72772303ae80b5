/-
  The statement TopGas: it returns true for all inputs, and the inputs read as they did. No conditions.
-/
import Derived.Test.YtchfclmokpbldaaGreatTgasa
import Derived.Test.YtchfclmokpbldaaGreatRows
set_option linter.unusedVariables false
set_option linter.unusedSimpArgs false
namespace Go.Proofs.YtchfclmokpbldaaGreat
open Go.Aw Go
open Go.ChangeShapes Go.WideShapes Go.ChangeAt Go.RowKit
namespace topGas
set_option maxHeartbeats 8000000 in
theorem over:Rows.topGasRow.holds Tryz.pinned (OpenSpec.ofChange Rows.topGasSpec):=by
  refine OpenClaim.holds_of_wide 13 Tryz.f13 rfl rfl rfl rfl rfl rfl rfl ⟨rfl,rfl,rfl,rfl,rfl⟩ rfl rfl rfl rfl rfl ?_ Tryz.func13 ?_ ?_ ?_ (fun os started H enc _=>Jsg os started H enc)
  · as_aux_lemma=>kernel_rfl
  · as_aux_lemma=>
      unfold joinedFacts
      simp only [Bool.and_eq_true]
      repeat' refine And.intro ?_ ?_
      all_goals (as_aux_lemma=>kernel_rfl)
  · as_aux_lemma=>exact of_decide_eq_true (by kernel_rfl)
  · as_aux_lemma=>(unfold Func.isWrapper;first | (rw [if_pos (by decide +kernel)];kernel_rfl) | (rw [if_neg (by decide +kernel)];exact ⟨rfl,rfl⟩))
end topGas
theorem topGas_holds:Rows.TopGasSaid:=topGas.over
#print axioms topGas_holds
end Go.Proofs.YtchfclmokpbldaaGreat
