/-
  The statement TopAir: it returns true for all inputs, and the inputs read as they did. No conditions.
-/
import Derived.Test.YtchfclmokpbldaaGreatTaira
import Derived.Test.YtchfclmokpbldaaGreatRows
set_option linter.unusedVariables false
set_option linter.unusedSimpArgs false
namespace Go.Proofs.YtchfclmokpbldaaGreat
open Go.Aw Go
open Go.ChangeShapes Go.WideShapes Go.ChangeAt Go.RowKit
namespace topAir
set_option maxHeartbeats 8000000 in
theorem over:Rows.topAirRow.holds Tryz.pinned (OpenSpec.ofChange Rows.topAirSpec):=by
  refine OpenClaim.holds_of_wide 5 Tryz.f5 rfl rfl rfl rfl rfl rfl rfl ⟨rfl,rfl,rfl,rfl,rfl⟩ rfl rfl rfl rfl rfl ?_ Tryz.func5 ?_ ?_ ?_ (fun os started H enc _=>Jig os started H enc)
  · as_aux_lemma=>kernel_rfl
  · as_aux_lemma=>
      unfold joinedFacts
      simp only [Bool.and_eq_true]
      repeat' refine And.intro ?_ ?_
      all_goals (as_aux_lemma=>kernel_rfl)
  · as_aux_lemma=>exact of_decide_eq_true (by kernel_rfl)
  · as_aux_lemma=>(unfold Func.isWrapper;first | (rw [if_pos (by decide +kernel)];kernel_rfl) | (rw [if_neg (by decide +kernel)];exact ⟨rfl,rfl⟩))
end topAir
theorem topAir_holds:Rows.TopAirSaid:=topAir.over
#print axioms topAir_holds
end Go.Proofs.YtchfclmokpbldaaGreat
