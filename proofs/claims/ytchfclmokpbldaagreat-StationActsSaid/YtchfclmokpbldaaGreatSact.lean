--By an AI agent.
import Derived.Test.YtchfclmokpbldaaGreatSacta
import Derived.Test.YtchfclmokpbldaaGreatRows
set_option linter.unusedVariables false
set_option linter.unusedSimpArgs false
namespace Go.Proofs.YtchfclmokpbldaaGreat
open Go.Aw Go Go.Proofs.Tryz
open Go.ChangeShapes Go.WideShapes Go.ChangeAt Go.RowKit
namespace stationActs
set_option maxHeartbeats 8000000 in
theorem over:Rows.stationActsRow.holds Tryz.pinned (OpenSpec.ofChange Rows.stationActsSpec):=by
  refine OpenClaim.holds_of_wide 10 f10 rfl rfl rfl rfl rfl rfl rfl ⟨rfl,rfl,rfl,rfl,rfl⟩ rfl rfl rfl rfl rfl ?_ func10 ?_ ?_ ?_ (λos aHA H enc _=>b1Y os aHA H enc)
  ·as_aux_lemma=>kernel_rfl
  ·as_aux_lemma=>
      unfold joinedFacts
      simp only[Bool.and_eq_true]
      repeat' refine And.intro ?_ ?_
      all_goals (as_aux_lemma=>kernel_rfl)
  ·as_aux_lemma=>exact of_decide_eq_true (by kernel_rfl)
  ·as_aux_lemma=>(unfold Func.isWrapper;first|(rw[if_pos (by decide+kernel)];kernel_rfl)|(rw[if_neg (by decide+kernel)];exact⟨rfl,rfl⟩))
end stationActs
theorem stationActs_holds:Rows.StationActsSaid:=stationActs.over
#print axioms stationActs_holds
end Go.Proofs.YtchfclmokpbldaaGreat
