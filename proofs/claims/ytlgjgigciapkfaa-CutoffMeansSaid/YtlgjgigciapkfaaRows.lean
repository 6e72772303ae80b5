/-
  No cell of these rows narrows 'for every input' (looked for: loops, veiled, ifaces, maps, wideKeys, modest, calm, conditions, laid).
  DERIVED. THE GIVEN ROWS OF THIS SEAT. 11 by the template 'for every input the law returns true; each argument reads behind the call as it read before'; 0 by the template 'total and deterministic' (their statements: YtlgjgigciapkfaaTotals.lean).
  GIVEN WITH THE SEED: the statements are not yours to turn. If you find one false, say at which input.
  Laid BY PROGRAM, IN A SANDBOX (cutbox-rows.mjs): the forced cells as the released guide's own fill.sh prints them over the translation 4650696cee5e63fb… (all of the seat's roots in one cut). By AI agents, Wed Nov 11 2026. No macro, syntax, notation, axiom, sorry.
-/
import Derived.Test.YtlgjgigciapkfaaChecked
import GoSem.Claim
import GoSem.ClaimJoined
import GoSem.ClaimMapViews
import Derived.JoinedTies
import Derived.KernelRfl
namespace Go.Proofs.Ytlgjgigciapkfaa
/- THE CELL 'sum', in the pinned program and in every row, IS THE sha256 OF THE DUMP (.gsa) THAT YtlgjgigciapkfaaProg.lean LOADS. Nothing in Lean hashes anything: it is a label: what it is worth is what the hold of that sum in a sandbox is worth. -/
noncomputable def Try.pinned : Pinned := { name := "ytlgjgigciapkfaa", sum := "4650696cee5e63fbc0dece97c8a4d02a6fa314908968b2ba425ea05dbd4c0f7c", checked := Try.checked }
namespace Rows
def none {H : Type} : Left H := { results := [], args := [] }

/-- 'minecontrollaw20.CutoffChecks': WHATEVER THE INPUT: true; the input reads as it did. -/
def cutoffChecksSpec : ChangeSpec := { name := "cutoffChecks", fn := fun _ => fun
  | [d1, d2, d3, d4] => { results := [.lit (.bool true)], args := [d1, d2, d3, d4] }
  | _ => none }
def cutoffChecksRow : OpenClaim := { program := "ytlgjgigciapkfaa", sum := "4650696cee5e63fbc0dece97c8a4d02a6fa314908968b2ba425ea05dbd4c0f7c", func := "minecontrol/minecontrollaw20.CutoffChecks", spec := "cutoffChecks", recurses := true, apart := false }
def CutoffChecksSaid : Prop := cutoffChecksRow.holds Try.pinned (OpenSpec.ofChange cutoffChecksSpec)

/-- ITS FALSE NEIGHBOUR: 'it returns false'. Refute it at one input. -/
def cutoffChecksWrong : ChangeSpec := { name := "cutoffChecks", fn := fun _ => fun
  | [d1, d2, d3, d4] => { results := [.lit (.bool false)], args := [d1, d2, d3, d4] }
  | _ => none }
def CutoffChecksWrongFalsely : Prop := cutoffChecksRow.holds Try.pinned (OpenSpec.ofChange cutoffChecksWrong)

/-- 'minecontrollaw20.CutoffValues': WHATEVER THE INPUT: true; the input reads as it did. -/
def cutoffValuesSpec : ChangeSpec := { name := "cutoffValues", fn := fun _ => fun
  | [d1, d2, d3, d4, d5] => { results := [.lit (.bool true)], args := [d1, d2, d3, d4, d5] }
  | _ => none }
def cutoffValuesRow : OpenClaim := { program := "ytlgjgigciapkfaa", sum := "4650696cee5e63fbc0dece97c8a4d02a6fa314908968b2ba425ea05dbd4c0f7c", func := "minecontrol/minecontrollaw20.CutoffValues", spec := "cutoffValues", recurses := true, apart := false }
def CutoffValuesSaid : Prop := cutoffValuesRow.holds Try.pinned (OpenSpec.ofChange cutoffValuesSpec)

/-- ITS FALSE NEIGHBOUR: 'it returns false'. Refute it at one input. -/
def cutoffValuesWrong : ChangeSpec := { name := "cutoffValues", fn := fun _ => fun
  | [d1, d2, d3, d4, d5] => { results := [.lit (.bool false)], args := [d1, d2, d3, d4, d5] }
  | _ => none }
def CutoffValuesWrongFalsely : Prop := cutoffValuesRow.holds Try.pinned (OpenSpec.ofChange cutoffValuesWrong)

/-- 'minecontrollaw20.CutoffCuts': WHATEVER THE INPUT: true; the input reads as it did. -/
def cutoffCutsSpec : ChangeSpec := { name := "cutoffCuts", fn := fun _ => fun
  | [d1, d2, d3, d4] => { results := [.lit (.bool true)], args := [d1, d2, d3, d4] }
  | _ => none }
def cutoffCutsRow : OpenClaim := { program := "ytlgjgigciapkfaa", sum := "4650696cee5e63fbc0dece97c8a4d02a6fa314908968b2ba425ea05dbd4c0f7c", func := "minecontrol/minecontrollaw20.CutoffCuts", spec := "cutoffCuts", recurses := true, apart := false }
def CutoffCutsSaid : Prop := cutoffCutsRow.holds Try.pinned (OpenSpec.ofChange cutoffCutsSpec)

/-- ITS FALSE NEIGHBOUR: 'it returns false'. Refute it at one input. -/
def cutoffCutsWrong : ChangeSpec := { name := "cutoffCuts", fn := fun _ => fun
  | [d1, d2, d3, d4] => { results := [.lit (.bool false)], args := [d1, d2, d3, d4] }
  | _ => none }
def CutoffCutsWrongFalsely : Prop := cutoffCutsRow.holds Try.pinned (OpenSpec.ofChange cutoffCutsWrong)

/-- 'minecontrollaw20.CutoffSafe': WHATEVER THE INPUT: true; the input reads as it did. -/
def cutoffSafeSpec : ChangeSpec := { name := "cutoffSafe", fn := fun _ => fun
  | [d1, d2, d3] => { results := [.lit (.bool true)], args := [d1, d2, d3] }
  | _ => none }
def cutoffSafeRow : OpenClaim := { program := "ytlgjgigciapkfaa", sum := "4650696cee5e63fbc0dece97c8a4d02a6fa314908968b2ba425ea05dbd4c0f7c", func := "minecontrol/minecontrollaw20.CutoffSafe", spec := "cutoffSafe", recurses := true, apart := false }
def CutoffSafeSaid : Prop := cutoffSafeRow.holds Try.pinned (OpenSpec.ofChange cutoffSafeSpec)

/-- ITS FALSE NEIGHBOUR: 'it returns false'. Refute it at one input. -/
def cutoffSafeWrong : ChangeSpec := { name := "cutoffSafe", fn := fun _ => fun
  | [d1, d2, d3] => { results := [.lit (.bool false)], args := [d1, d2, d3] }
  | _ => none }
def CutoffSafeWrongFalsely : Prop := cutoffSafeRow.holds Try.pinned (OpenSpec.ofChange cutoffSafeWrong)

/-- 'minecontrollaw20.CutoffWider': WHATEVER THE INPUT: true; the input reads as it did. -/
def cutoffWiderSpec : ChangeSpec := { name := "cutoffWider", fn := fun _ => fun
  | [d1, d2, d3] => { results := [.lit (.bool true)], args := [d1, d2, d3] }
  | _ => none }
def cutoffWiderRow : OpenClaim := { program := "ytlgjgigciapkfaa", sum := "4650696cee5e63fbc0dece97c8a4d02a6fa314908968b2ba425ea05dbd4c0f7c", func := "minecontrol/minecontrollaw20.CutoffWider", spec := "cutoffWider", recurses := true, apart := false }
def CutoffWiderSaid : Prop := cutoffWiderRow.holds Try.pinned (OpenSpec.ofChange cutoffWiderSpec)

/-- ITS FALSE NEIGHBOUR: 'it returns false'. Refute it at one input. -/
def cutoffWiderWrong : ChangeSpec := { name := "cutoffWider", fn := fun _ => fun
  | [d1, d2, d3] => { results := [.lit (.bool false)], args := [d1, d2, d3] }
  | _ => none }
def CutoffWiderWrongFalsely : Prop := cutoffWiderRow.holds Try.pinned (OpenSpec.ofChange cutoffWiderWrong)

/-- 'minecontrollaw20.CutoffMeans': WHATEVER THE INPUT: true; the input reads as it did. -/
def cutoffMeansSpec : ChangeSpec := { name := "cutoffMeans", fn := fun _ => fun
  | [d] => { results := [.lit (.bool true)], args := [d] }
  | _ => none }
def cutoffMeansRow : OpenClaim := { program := "ytlgjgigciapkfaa", sum := "4650696cee5e63fbc0dece97c8a4d02a6fa314908968b2ba425ea05dbd4c0f7c", func := "minecontrol/minecontrollaw20.CutoffMeans", spec := "cutoffMeans", recurses := true, apart := false }
def CutoffMeansSaid : Prop := cutoffMeansRow.holds Try.pinned (OpenSpec.ofChange cutoffMeansSpec)

/-- ITS FALSE NEIGHBOUR: 'it returns false'. Refute it at one input. -/
def cutoffMeansWrong : ChangeSpec := { name := "cutoffMeans", fn := fun _ => fun
  | [d] => { results := [.lit (.bool false)], args := [d] }
  | _ => none }
def CutoffMeansWrongFalsely : Prop := cutoffMeansRow.holds Try.pinned (OpenSpec.ofChange cutoffMeansWrong)

/-- 'minecontrollaw20.CutoffReasons': WHATEVER THE INPUT: true; the input reads as it did. -/
def cutoffReasonsSpec : ChangeSpec := { name := "cutoffReasons", fn := fun _ => fun
  | [d1, d2] => { results := [.lit (.bool true)], args := [d1, d2] }
  | _ => none }
def cutoffReasonsRow : OpenClaim := { program := "ytlgjgigciapkfaa", sum := "4650696cee5e63fbc0dece97c8a4d02a6fa314908968b2ba425ea05dbd4c0f7c", func := "minecontrol/minecontrollaw20.CutoffReasons", spec := "cutoffReasons", recurses := true, apart := false }
def CutoffReasonsSaid : Prop := cutoffReasonsRow.holds Try.pinned (OpenSpec.ofChange cutoffReasonsSpec)

/-- ITS FALSE NEIGHBOUR: 'it returns false'. Refute it at one input. -/
def cutoffReasonsWrong : ChangeSpec := { name := "cutoffReasons", fn := fun _ => fun
  | [d1, d2] => { results := [.lit (.bool false)], args := [d1, d2] }
  | _ => none }
def CutoffReasonsWrongFalsely : Prop := cutoffReasonsRow.holds Try.pinned (OpenSpec.ofChange cutoffReasonsWrong)

/-- 'minecontrollaw13.AirflowOrder': WHATEVER THE INPUT: true; the input reads as it did. -/
def airflowOrderSpec : ChangeSpec := { name := "airflowOrder", fn := fun _ => fun
  | [d1, d2] => { results := [.lit (.bool true)], args := [d1, d2] }
  | _ => none }
def airflowOrderRow : OpenClaim := { program := "ytlgjgigciapkfaa", sum := "4650696cee5e63fbc0dece97c8a4d02a6fa314908968b2ba425ea05dbd4c0f7c", func := "minecontrol/minecontrollaw13.AirflowOrder", spec := "airflowOrder", unfollowed := true, recurses := true, named := ["math/bits.divideError", "math/bits.overflowError"], apart := false }
def AirflowOrderSaid : Prop := airflowOrderRow.holds Try.pinned (OpenSpec.ofChange airflowOrderSpec)

/-- ITS FALSE NEIGHBOUR: 'it returns false'. Refute it at one input. -/
def airflowOrderWrong : ChangeSpec := { name := "airflowOrder", fn := fun _ => fun
  | [d1, d2] => { results := [.lit (.bool false)], args := [d1, d2] }
  | _ => none }
def AirflowOrderWrongFalsely : Prop := airflowOrderRow.holds Try.pinned (OpenSpec.ofChange airflowOrderWrong)

/-- 'minecontrollaw15.ChangeForesees': WHATEVER THE INPUT: true; the input reads as it did. -/
def changeForeseesSpec : ChangeSpec := { name := "changeForesees", fn := fun _ => fun
  | [d] => { results := [.lit (.bool true)], args := [d] }
  | _ => none }
def changeForeseesRow : OpenClaim := { program := "ytlgjgigciapkfaa", sum := "4650696cee5e63fbc0dece97c8a4d02a6fa314908968b2ba425ea05dbd4c0f7c", func := "minecontrol/minecontrollaw15.ChangeForesees", spec := "changeForesees", unfollowed := true, recurses := true, named := ["math/bits.divideError", "math/bits.overflowError"], apart := false }
def ChangeForeseesSaid : Prop := changeForeseesRow.holds Try.pinned (OpenSpec.ofChange changeForeseesSpec)

/-- ITS FALSE NEIGHBOUR: 'it returns false'. Refute it at one input. -/
def changeForeseesWrong : ChangeSpec := { name := "changeForesees", fn := fun _ => fun
  | [d] => { results := [.lit (.bool false)], args := [d] }
  | _ => none }
def ChangeForeseesWrongFalsely : Prop := changeForeseesRow.holds Try.pinned (OpenSpec.ofChange changeForeseesWrong)

/-- 'minecontrollaw15.ChangeSteps': WHATEVER THE INPUT: true; the input reads as it did. -/
def changeStepsSpec : ChangeSpec := { name := "changeSteps", fn := fun _ => fun
  | [d] => { results := [.lit (.bool true)], args := [d] }
  | _ => none }
def changeStepsRow : OpenClaim := { program := "ytlgjgigciapkfaa", sum := "4650696cee5e63fbc0dece97c8a4d02a6fa314908968b2ba425ea05dbd4c0f7c", func := "minecontrol/minecontrollaw15.ChangeSteps", spec := "changeSteps", unfollowed := true, recurses := true, named := ["math/bits.divideError", "math/bits.overflowError"], apart := false }
def ChangeStepsSaid : Prop := changeStepsRow.holds Try.pinned (OpenSpec.ofChange changeStepsSpec)

/-- ITS FALSE NEIGHBOUR: 'it returns false'. Refute it at one input. -/
def changeStepsWrong : ChangeSpec := { name := "changeSteps", fn := fun _ => fun
  | [d] => { results := [.lit (.bool false)], args := [d] }
  | _ => none }
def ChangeStepsWrongFalsely : Prop := changeStepsRow.holds Try.pinned (OpenSpec.ofChange changeStepsWrong)

/-- 'minecontrollaw15.ChangeNothing': WHATEVER THE INPUT: true; the input reads as it did. -/
def changeNothingSpec : ChangeSpec := { name := "changeNothing", fn := fun _ => fun
  | [d] => { results := [.lit (.bool true)], args := [d] }
  | _ => none }
def changeNothingRow : OpenClaim := { program := "ytlgjgigciapkfaa", sum := "4650696cee5e63fbc0dece97c8a4d02a6fa314908968b2ba425ea05dbd4c0f7c", func := "minecontrol/minecontrollaw15.ChangeNothing", spec := "changeNothing", unfollowed := true, recurses := true, named := ["math/bits.divideError", "math/bits.overflowError"], apart := false }
def ChangeNothingSaid : Prop := changeNothingRow.holds Try.pinned (OpenSpec.ofChange changeNothingSpec)

/-- ITS FALSE NEIGHBOUR: 'it returns false'. Refute it at one input. -/
def changeNothingWrong : ChangeSpec := { name := "changeNothing", fn := fun _ => fun
  | [d] => { results := [.lit (.bool false)], args := [d] }
  | _ => none }
def ChangeNothingWrongFalsely : Prop := changeNothingRow.holds Try.pinned (OpenSpec.ofChange changeNothingWrong)

/- THE SECOND FORM. 'bulk': how many values and letters a reading holds, each counted each time it is reached (what is shared counts as often as it is met; a slice's spare places count too). A statement '..UptoSaid' is the law's where the arguments, and the package variables that the reading takes, are together of bulk at most 1048576: NARROWER than '..Said'. Prove '..Said' where nothing that the law and all that it calls make is longer than what came in: it says more and counts as full. Else prove '..UptoSaid'. A law counts once. -/
mutual
def uptoBulk {H : Type} : DataW H → Nat
  | .lit (.string bytes) => bytes.length + 1
  | .lit _ => 1
  | .nil => 1
  | .ptr d => uptoBulk d + 1
  | .slice elems spare => uptoBulkAll elems + uptoBulkAll spare + 1
  | .agg parts => uptoBulkAll parts + 1
  | .iface _ d => uptoBulk d + 1
  | .map entries => uptoBulkEntries entries + 1
  | .held _ => 1
def uptoBulkAll {H : Type} : List (DataW H) → Nat
  | [] => 0
  | d :: r => uptoBulk d + uptoBulkAll r
def uptoBulkEntries {H : Type} : List (Lit × DataW H) → Nat
  | [] => 0
  | x :: r => uptoBulkEntry x + uptoBulkEntries r
def uptoBulkEntry {H : Type} : Lit × DataW H → Nat
  | (.string bytes, d) => bytes.length + uptoBulk d + 1
  | (_, d) => uptoBulk d + 1
 end
def uptoSmall : (H : Type) → List (DataW H) → Bool := fun _ ds => decide (uptoBulkAll ds ≤ 1048576)
def OpenSpec.upto (s : _root_.Go.ChangeSpec) : _root_.Go.OpenSpec := { _root_.Go.OpenSpec.ofChange s with cond := some uptoSmall }

/-- 'minecontrollaw20.CutoffChecks', WHERE WHAT IT READS IS OF BULK AT MOST 1048576: true; the input reads as it did. -/
def cutoffChecksUptoRow : OpenClaim := { program := "ytlgjgigciapkfaa", sum := "4650696cee5e63fbc0dece97c8a4d02a6fa314908968b2ba425ea05dbd4c0f7c", func := "minecontrol/minecontrollaw20.CutoffChecks", spec := "cutoffChecks", recurses := true, apart := false, narrowed := true }
def CutoffChecksUptoSaid : Prop := cutoffChecksUptoRow.holds Try.pinned (OpenSpec.upto cutoffChecksSpec)

/-- 'minecontrollaw20.CutoffValues', WHERE WHAT IT READS IS OF BULK AT MOST 1048576: true; the input reads as it did. -/
def cutoffValuesUptoRow : OpenClaim := { program := "ytlgjgigciapkfaa", sum := "4650696cee5e63fbc0dece97c8a4d02a6fa314908968b2ba425ea05dbd4c0f7c", func := "minecontrol/minecontrollaw20.CutoffValues", spec := "cutoffValues", recurses := true, apart := false, narrowed := true }
def CutoffValuesUptoSaid : Prop := cutoffValuesUptoRow.holds Try.pinned (OpenSpec.upto cutoffValuesSpec)

/-- 'minecontrollaw20.CutoffCuts', WHERE WHAT IT READS IS OF BULK AT MOST 1048576: true; the input reads as it did. -/
def cutoffCutsUptoRow : OpenClaim := { program := "ytlgjgigciapkfaa", sum := "4650696cee5e63fbc0dece97c8a4d02a6fa314908968b2ba425ea05dbd4c0f7c", func := "minecontrol/minecontrollaw20.CutoffCuts", spec := "cutoffCuts", recurses := true, apart := false, narrowed := true }
def CutoffCutsUptoSaid : Prop := cutoffCutsUptoRow.holds Try.pinned (OpenSpec.upto cutoffCutsSpec)

/-- 'minecontrollaw20.CutoffSafe', WHERE WHAT IT READS IS OF BULK AT MOST 1048576: true; the input reads as it did. -/
def cutoffSafeUptoRow : OpenClaim := { program := "ytlgjgigciapkfaa", sum := "4650696cee5e63fbc0dece97c8a4d02a6fa314908968b2ba425ea05dbd4c0f7c", func := "minecontrol/minecontrollaw20.CutoffSafe", spec := "cutoffSafe", recurses := true, apart := false, narrowed := true }
def CutoffSafeUptoSaid : Prop := cutoffSafeUptoRow.holds Try.pinned (OpenSpec.upto cutoffSafeSpec)

/-- 'minecontrollaw20.CutoffWider', WHERE WHAT IT READS IS OF BULK AT MOST 1048576: true; the input reads as it did. -/
def cutoffWiderUptoRow : OpenClaim := { program := "ytlgjgigciapkfaa", sum := "4650696cee5e63fbc0dece97c8a4d02a6fa314908968b2ba425ea05dbd4c0f7c", func := "minecontrol/minecontrollaw20.CutoffWider", spec := "cutoffWider", recurses := true, apart := false, narrowed := true }
def CutoffWiderUptoSaid : Prop := cutoffWiderUptoRow.holds Try.pinned (OpenSpec.upto cutoffWiderSpec)

/-- 'minecontrollaw20.CutoffMeans', WHERE WHAT IT READS IS OF BULK AT MOST 1048576: true; the input reads as it did. -/
def cutoffMeansUptoRow : OpenClaim := { program := "ytlgjgigciapkfaa", sum := "4650696cee5e63fbc0dece97c8a4d02a6fa314908968b2ba425ea05dbd4c0f7c", func := "minecontrol/minecontrollaw20.CutoffMeans", spec := "cutoffMeans", recurses := true, apart := false, narrowed := true }
def CutoffMeansUptoSaid : Prop := cutoffMeansUptoRow.holds Try.pinned (OpenSpec.upto cutoffMeansSpec)

/-- 'minecontrollaw20.CutoffReasons', WHERE WHAT IT READS IS OF BULK AT MOST 1048576: true; the input reads as it did. -/
def cutoffReasonsUptoRow : OpenClaim := { program := "ytlgjgigciapkfaa", sum := "4650696cee5e63fbc0dece97c8a4d02a6fa314908968b2ba425ea05dbd4c0f7c", func := "minecontrol/minecontrollaw20.CutoffReasons", spec := "cutoffReasons", recurses := true, apart := false, narrowed := true }
def CutoffReasonsUptoSaid : Prop := cutoffReasonsUptoRow.holds Try.pinned (OpenSpec.upto cutoffReasonsSpec)

/-- 'minecontrollaw13.AirflowOrder', WHERE WHAT IT READS IS OF BULK AT MOST 1048576: true; the input reads as it did. -/
def airflowOrderUptoRow : OpenClaim := { program := "ytlgjgigciapkfaa", sum := "4650696cee5e63fbc0dece97c8a4d02a6fa314908968b2ba425ea05dbd4c0f7c", func := "minecontrol/minecontrollaw13.AirflowOrder", spec := "airflowOrder", unfollowed := true, recurses := true, named := ["math/bits.divideError", "math/bits.overflowError"], apart := false, narrowed := true }
def AirflowOrderUptoSaid : Prop := airflowOrderUptoRow.holds Try.pinned (OpenSpec.upto airflowOrderSpec)

/-- 'minecontrollaw15.ChangeForesees', WHERE WHAT IT READS IS OF BULK AT MOST 1048576: true; the input reads as it did. -/
def changeForeseesUptoRow : OpenClaim := { program := "ytlgjgigciapkfaa", sum := "4650696cee5e63fbc0dece97c8a4d02a6fa314908968b2ba425ea05dbd4c0f7c", func := "minecontrol/minecontrollaw15.ChangeForesees", spec := "changeForesees", unfollowed := true, recurses := true, named := ["math/bits.divideError", "math/bits.overflowError"], apart := false, narrowed := true }
def ChangeForeseesUptoSaid : Prop := changeForeseesUptoRow.holds Try.pinned (OpenSpec.upto changeForeseesSpec)

/-- 'minecontrollaw15.ChangeSteps', WHERE WHAT IT READS IS OF BULK AT MOST 1048576: true; the input reads as it did. -/
def changeStepsUptoRow : OpenClaim := { program := "ytlgjgigciapkfaa", sum := "4650696cee5e63fbc0dece97c8a4d02a6fa314908968b2ba425ea05dbd4c0f7c", func := "minecontrol/minecontrollaw15.ChangeSteps", spec := "changeSteps", unfollowed := true, recurses := true, named := ["math/bits.divideError", "math/bits.overflowError"], apart := false, narrowed := true }
def ChangeStepsUptoSaid : Prop := changeStepsUptoRow.holds Try.pinned (OpenSpec.upto changeStepsSpec)

/-- 'minecontrollaw15.ChangeNothing', WHERE WHAT IT READS IS OF BULK AT MOST 1048576: true; the input reads as it did. -/
def changeNothingUptoRow : OpenClaim := { program := "ytlgjgigciapkfaa", sum := "4650696cee5e63fbc0dece97c8a4d02a6fa314908968b2ba425ea05dbd4c0f7c", func := "minecontrol/minecontrollaw15.ChangeNothing", spec := "changeNothing", unfollowed := true, recurses := true, named := ["math/bits.divideError", "math/bits.overflowError"], apart := false, narrowed := true }
def ChangeNothingUptoSaid : Prop := changeNothingUptoRow.holds Try.pinned (OpenSpec.upto changeNothingSpec)

end Rows
end Go.Proofs.Ytlgjgigciapkfaa
