/-
  The card of the statement TopSurveyed: it returns true for all inputs, and the inputs read as they did. Condition: the listed tables of Go's own library hold what its text lays in them, and the card ties that to the text. By an AI agent; no person has read it.
-/
import Derived.Test.YtdiajbdaadlfhaaGreatDoorTsurva
import Derived.Test.YtdiajbdaadlfhaaGreatDoorCards
import Derived.Test.YtdiajbdaadlfhaaGreatDoorTie
import Derived.SevenTiedAt
set_option linter.unusedVariables false
set_option linter.unusedSimpArgs false
namespace Go.Proofs.YtdiajbdaadlfhaaGreatDoor
open Go.Aw Go Go.Proofs.Tryz
open Go.ChangeShapes Go.WideShapes Go.ChangeAt Go.RowKit
namespace topSurveyed
set_option maxHeartbeats 8000000 in
theorem over:Rows.topSurveyedRow.holds Tryz.pinned (OpenSpec.ofChange Rows.topSurveyedSpec):=by
  refine OpenClaim.holds_of_wide 3 f3 rfl rfl rfl rfl rfl rfl rfl ⟨rfl,rfl,rfl,rfl,rfl⟩ rfl rfl rfl rfl rfl ?_ func3 ?_ ?_ ?_ (λos Vu H enc _=>aSM os Vu H enc)
  ·as_aux_lemma=>kernel_rfl
  ·as_aux_lemma=>
      unfold joinedFacts
      simp only[Bool.and_eq_true]
      repeat' refine And.intro ?_ ?_
      all_goals (as_aux_lemma=>kernel_rfl)
  ·as_aux_lemma=>exact of_decide_eq_true (by kernel_rfl)
  ·as_aux_lemma=>(unfold Func.isWrapper;first|(rw[if_pos (by decide+kernel)];kernel_rfl)|(rw[if_neg (by decide+kernel)];exact⟨rfl,rfl⟩))
end topSurveyed
theorem topSurveyed_holds:Rows.TopSurveyedCardSaid:=
  Claim7.holds_tied_plain_at .later [] [.data,.data,.data,.data,.pinned] true (true, "ab59613b29958d48cd51951fded0ef732f5501597e250d59fed560e9f4e261dc") false
    topSurveyed.over (λ_ h=>by cases h) (by kernel_rfl) (λ_ h=>by cases h) topSurveyed_row_tie rfl ⟨rfl,rfl⟩ (by kernel_rfl) rfl
    (λf fn aH FN=>by
      obtain rfl:f=3:=Option.some.inj ((show prog.funcNamed "minecontrol/minecontroltop.TopSurveyed" =some 3 by kernel_rfl).symm.trans aH)|>.symm
      obtain rfl:fn=f3:=(Option.some.inj (func3.symm.trans FN)).symm
      exact⟨by kernel_rfl,λj t gJ=>by
        rw[params3]at gJ
        have a1:t∈[22]:=by simpa using Array.mem_of_getElem? gJ
        have pS:([22].all λu=>!prog.wantsStandIn u)=true:=by kernel_rfl
        exact(show prog.wantsStandIn t=false by simpa using List.all_eq_true.1 pS t a1)⟩)
    (by kernel_rfl)
#print axioms topSurveyed_holds
end Go.Proofs.YtdiajbdaadlfhaaGreatDoor
