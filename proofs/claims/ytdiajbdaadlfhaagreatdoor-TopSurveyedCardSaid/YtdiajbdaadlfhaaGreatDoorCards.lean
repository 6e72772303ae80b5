/-
  DERIVED. GIVEN WITH THE SEED: THE CARDS: each row of YtdiajbdaadlfhaaGreatDoorRows.lean that lists a variable, with what it lists TIED to the program's text (the seventh form; the later family's looks); each row that meets fmt, with fmt's text TOLD by the authors' own Lean function (tested against real Go, not proved from fmt's source: count such statements apart). THE CARD IS WHAT COUNTS. Prove the row's statement (the work); the ties are given (YtdiajbdaadlfhaaGreatDoorTie.lean); close each card by the builder's one call (the guide's Derived/Test/ToyasCard.lean, 'card_holds'). Laid BY PROGRAM, IN A SANDBOX (cutbox-door.mjs). By AI agents, Wed Nov 11 2026. No macro, syntax, notation, axiom, sorry.
-/
import Derived.Test.YtdiajbdaadlfhaaGreatDoorRows
import GoSem.ClaimSeven
namespace Go.Proofs.YtdiajbdaadlfhaaGreatDoor
namespace Rows

/-- THE TIED CARD OF 'minecontroltop.TopSurveyed'. -/
def topSurveyedCard : Claim7 := { stood := { row := topSurveyedRow, standIns := [], harness := (true, "ab59613b29958d48cd51951fded0ef732f5501597e250d59fed560e9f4e261dc"), looks := false }, kinds := [], alts := [], laidByText := true, laidKinds := [.data, .data, .data, .data, .pinned], laidTests := true, laidLooks := .later }
def TopSurveyedCardSaid : Prop := Claim7.holds Tryz.pinned (.plain (OpenSpec.ofChange topSurveyedSpec)) topSurveyedCard

/-- THE SECOND FORM's CARD OF 'minecontroltop.TopSurveyed'. -/
def topSurveyedUptoCard : Claim7 := { stood := { row := topSurveyedUptoRow, standIns := [], harness := (true, "ab59613b29958d48cd51951fded0ef732f5501597e250d59fed560e9f4e261dc"), looks := false }, kinds := [], alts := [], laidByText := true, laidKinds := [.data, .data, .data, .data, .pinned], laidTests := true, laidLooks := .later }
def TopSurveyedUptoCardSaid : Prop := Claim7.holds Tryz.pinned (.plain (OpenSpec.upto topSurveyedSpec)) topSurveyedUptoCard
end Rows
end Go.Proofs.YtdiajbdaadlfhaaGreatDoor
