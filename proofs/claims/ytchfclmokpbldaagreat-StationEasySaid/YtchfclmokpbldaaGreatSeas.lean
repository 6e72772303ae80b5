-- By an AI agent; no person has read it.
import Derived.Test.YtchfclmokpbldaaGreatSeasa
import Derived.Test.YtchfclmokpbldaaGreatRows
set_option linter.unusedVariables false
set_option linter.unusedSimpArgs false
namespace Go.Proofs.YtchfclmokpbldaaGreat
open Go.Aw Go Go.Proofs.Tryz
open Go.ChangeShapes Go.WideShapes Go.ChangeAt Go.RowKit
namespace stationEasy
set_option maxHeartbeats 8000000 in
theorem over:Rows.stationEasyRow.holds Tryz.pinned (OpenSpec.ofChange Rows.stationEasySpec):=by
  refine OpenClaim.holds_of_wide 11 f11 rfl rfl rfl rfl rfl rfl rfl ⟨rfl,rfl,rfl,rfl,rfl⟩ rfl rfl rfl rfl rfl ?_ func11 ?_ ?_ ?_ (λos aB8 H enc _=>aX1 os aB8 H enc)
  ·as_aux_lemma=>kernel_rfl
  ·as_aux_lemma=>
      unfold joinedFacts
      simp only[Bool.and_eq_true]
      repeat' refine And.intro ?_ ?_
      all_goals (as_aux_lemma=>kernel_rfl)
  ·as_aux_lemma=>exact of_decide_eq_true (by kernel_rfl)
  ·as_aux_lemma=>(unfold Func.isWrapper;first|(rw[if_pos (by decide+kernel)];kernel_rfl)|(rw[if_neg (by decide+kernel)];exact⟨rfl,rfl⟩))
end stationEasy
theorem stationEasy_holds:Rows.StationEasySaid:=stationEasy.over
#print axioms stationEasy_holds
end Go.Proofs.YtchfclmokpbldaaGreat
