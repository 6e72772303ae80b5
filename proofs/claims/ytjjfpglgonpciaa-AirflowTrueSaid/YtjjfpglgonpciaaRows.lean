/-
  No cell of these rows narrows 'for every input' (looked for: loops, veiled, ifaces, maps, wideKeys, modest, calm, conditions, laid).
  DERIVED. THE GIVEN ROWS OF THIS SEAT. 13 by the template 'for every input the law returns true; each argument reads behind the call as it read before'; 0 by the template 'total and deterministic' (their statements: YtjjfpglgonpciaaTotals.lean).
  GIVEN WITH THE SEED: the statements are not yours to turn. If you find one false, say at which input.
  Laid BY PROGRAM, IN A SANDBOX (cutbox-rows.mjs): the forced cells as the released guide's own fill.sh prints them over the translation fa103aae3e665840… (all of the seat's roots in one cut). By AI agents, Wed Nov 11 2026. No macro, syntax, notation, axiom, sorry.
-/
import Derived.Test.YtjjfpglgonpciaaChecked
import GoSem.Claim
import GoSem.ClaimJoined
import GoSem.ClaimMapViews
import Derived.JoinedTies
import Derived.KernelRfl
namespace Go.Proofs.Ytjjfpglgonpciaa
/- THE CELL 'sum', in the pinned program and in every row, IS THE sha256 OF THE DUMP (.gsa) THAT YtjjfpglgonpciaaProg.lean LOADS. Nothing in Lean hashes anything: it is a label: what it is worth is what the hold of that sum in a sandbox is worth. -/
noncomputable def Try.pinned : Pinned := { name := "ytjjfpglgonpciaa", sum := "fa103aae3e6658405f2dd994fd6f7260c8699c57f039de150ad7dd6b9cdb406b", checked := Try.checked }
namespace Rows
def none {H : Type} : Left H := { results := [], args := [] }

/-- 'minecontrollaw11.CertifyMeans': WHATEVER THE INPUT: true; the input reads as it did. -/
def certifyMeansSpec : ChangeSpec := { name := "certifyMeans", fn := fun _ => fun
  | [d] => { results := [.lit (.bool true)], args := [d] }
  | _ => none }
def certifyMeansRow : OpenClaim := { program := "ytjjfpglgonpciaa", sum := "fa103aae3e6658405f2dd994fd6f7260c8699c57f039de150ad7dd6b9cdb406b", func := "minecontrol/minecontrollaw11.CertifyMeans", spec := "certifyMeans", named := ["math/bits.divideError", "math/bits.overflowError"], apart := false }
def CertifyMeansSaid : Prop := certifyMeansRow.holds Try.pinned (OpenSpec.ofChange certifyMeansSpec)

/-- ITS FALSE NEIGHBOUR: 'it returns false'. Refute it at one input. -/
def certifyMeansWrong : ChangeSpec := { name := "certifyMeans", fn := fun _ => fun
  | [d] => { results := [.lit (.bool false)], args := [d] }
  | _ => none }
def CertifyMeansWrongFalsely : Prop := certifyMeansRow.holds Try.pinned (OpenSpec.ofChange certifyMeansWrong)

/-- 'minecontrollaw12.RelaxRises': WHATEVER THE INPUT: true; the input reads as it did. -/
def relaxRisesSpec : ChangeSpec := { name := "relaxRises", fn := fun _ => fun
  | [d1, d2] => { results := [.lit (.bool true)], args := [d1, d2] }
  | _ => none }
def relaxRisesRow : OpenClaim := { program := "ytjjfpglgonpciaa", sum := "fa103aae3e6658405f2dd994fd6f7260c8699c57f039de150ad7dd6b9cdb406b", func := "minecontrol/minecontrollaw12.RelaxRises", spec := "relaxRises", unfollowed := true, recurses := true, named := ["math/bits.divideError", "math/bits.overflowError"], apart := false }
def RelaxRisesSaid : Prop := relaxRisesRow.holds Try.pinned (OpenSpec.ofChange relaxRisesSpec)

/-- ITS FALSE NEIGHBOUR: 'it returns false'. Refute it at one input. -/
def relaxRisesWrong : ChangeSpec := { name := "relaxRises", fn := fun _ => fun
  | [d1, d2] => { results := [.lit (.bool false)], args := [d1, d2] }
  | _ => none }
def RelaxRisesWrongFalsely : Prop := relaxRisesRow.holds Try.pinned (OpenSpec.ofChange relaxRisesWrong)

/-- 'minecontrollaw12.RelaxSolves': WHATEVER THE INPUT: true; the input reads as it did. -/
def relaxSolvesSpec : ChangeSpec := { name := "relaxSolves", fn := fun _ => fun
  | [d] => { results := [.lit (.bool true)], args := [d] }
  | _ => none }
def relaxSolvesRow : OpenClaim := { program := "ytjjfpglgonpciaa", sum := "fa103aae3e6658405f2dd994fd6f7260c8699c57f039de150ad7dd6b9cdb406b", func := "minecontrol/minecontrollaw12.RelaxSolves", spec := "relaxSolves", unfollowed := true, recurses := true, named := ["math/bits.divideError", "math/bits.overflowError"], apart := false }
def RelaxSolvesSaid : Prop := relaxSolvesRow.holds Try.pinned (OpenSpec.ofChange relaxSolvesSpec)

/-- ITS FALSE NEIGHBOUR: 'it returns false'. Refute it at one input. -/
def relaxSolvesWrong : ChangeSpec := { name := "relaxSolves", fn := fun _ => fun
  | [d] => { results := [.lit (.bool false)], args := [d] }
  | _ => none }
def RelaxSolvesWrongFalsely : Prop := relaxSolvesRow.holds Try.pinned (OpenSpec.ofChange relaxSolvesWrong)

/-- 'minecontrollaw12.RelaxErrors': WHATEVER THE INPUT: true; the input reads as it did. -/
def relaxErrorsSpec : ChangeSpec := { name := "relaxErrors", fn := fun _ => fun
  | [d1, d2, d3, d4] => { results := [.lit (.bool true)], args := [d1, d2, d3, d4] }
  | _ => none }
def relaxErrorsRow : OpenClaim := { program := "ytjjfpglgonpciaa", sum := "fa103aae3e6658405f2dd994fd6f7260c8699c57f039de150ad7dd6b9cdb406b", func := "minecontrol/minecontrollaw12.RelaxErrors", spec := "relaxErrors", unfollowed := true, recurses := true, named := ["math/bits.divideError", "math/bits.overflowError"], apart := false }
def RelaxErrorsSaid : Prop := relaxErrorsRow.holds Try.pinned (OpenSpec.ofChange relaxErrorsSpec)

/-- ITS FALSE NEIGHBOUR: 'it returns false'. Refute it at one input. -/
def relaxErrorsWrong : ChangeSpec := { name := "relaxErrors", fn := fun _ => fun
  | [d1, d2, d3, d4] => { results := [.lit (.bool false)], args := [d1, d2, d3, d4] }
  | _ => none }
def RelaxErrorsWrongFalsely : Prop := relaxErrorsRow.holds Try.pinned (OpenSpec.ofChange relaxErrorsWrong)

/-- 'minecontrollaw12.RelaxTurns': WHATEVER THE INPUT: true; the input reads as it did. -/
def relaxTurnsSpec : ChangeSpec := { name := "relaxTurns", fn := fun _ => fun
  | [d] => { results := [.lit (.bool true)], args := [d] }
  | _ => none }
def relaxTurnsRow : OpenClaim := { program := "ytjjfpglgonpciaa", sum := "fa103aae3e6658405f2dd994fd6f7260c8699c57f039de150ad7dd6b9cdb406b", func := "minecontrol/minecontrollaw12.RelaxTurns", spec := "relaxTurns", unfollowed := true, recurses := true, named := ["math/bits.divideError", "math/bits.overflowError"], apart := false }
def RelaxTurnsSaid : Prop := relaxTurnsRow.holds Try.pinned (OpenSpec.ofChange relaxTurnsSpec)

/-- ITS FALSE NEIGHBOUR: 'it returns false'. Refute it at one input. -/
def relaxTurnsWrong : ChangeSpec := { name := "relaxTurns", fn := fun _ => fun
  | [d] => { results := [.lit (.bool false)], args := [d] }
  | _ => none }
def RelaxTurnsWrongFalsely : Prop := relaxTurnsRow.holds Try.pinned (OpenSpec.ofChange relaxTurnsWrong)

/-- 'minecontrollaw12.RelaxSurfaces': WHATEVER THE INPUT: true; the input reads as it did. -/
def relaxSurfacesSpec : ChangeSpec := { name := "relaxSurfaces", fn := fun _ => fun
  | [d1, d2, d3] => { results := [.lit (.bool true)], args := [d1, d2, d3] }
  | _ => none }
def relaxSurfacesRow : OpenClaim := { program := "ytjjfpglgonpciaa", sum := "fa103aae3e6658405f2dd994fd6f7260c8699c57f039de150ad7dd6b9cdb406b", func := "minecontrol/minecontrollaw12.RelaxSurfaces", spec := "relaxSurfaces", unfollowed := true, recurses := true, named := ["math/bits.divideError", "math/bits.overflowError"], apart := false }
def RelaxSurfacesSaid : Prop := relaxSurfacesRow.holds Try.pinned (OpenSpec.ofChange relaxSurfacesSpec)

/-- ITS FALSE NEIGHBOUR: 'it returns false'. Refute it at one input. -/
def relaxSurfacesWrong : ChangeSpec := { name := "relaxSurfaces", fn := fun _ => fun
  | [d1, d2, d3] => { results := [.lit (.bool false)], args := [d1, d2, d3] }
  | _ => none }
def RelaxSurfacesWrongFalsely : Prop := relaxSurfacesRow.holds Try.pinned (OpenSpec.ofChange relaxSurfacesWrong)

/-- 'minecontrollaw12.RelaxLeast': WHATEVER THE INPUT: true; the input reads as it did. -/
def relaxLeastSpec : ChangeSpec := { name := "relaxLeast", fn := fun _ => fun
  | [d1, d2] => { results := [.lit (.bool true)], args := [d1, d2] }
  | _ => none }
def relaxLeastRow : OpenClaim := { program := "ytjjfpglgonpciaa", sum := "fa103aae3e6658405f2dd994fd6f7260c8699c57f039de150ad7dd6b9cdb406b", func := "minecontrol/minecontrollaw12.RelaxLeast", spec := "relaxLeast", unfollowed := true, recurses := true, named := ["math/bits.divideError", "math/bits.overflowError"], apart := false }
def RelaxLeastSaid : Prop := relaxLeastRow.holds Try.pinned (OpenSpec.ofChange relaxLeastSpec)

/-- ITS FALSE NEIGHBOUR: 'it returns false'. Refute it at one input. -/
def relaxLeastWrong : ChangeSpec := { name := "relaxLeast", fn := fun _ => fun
  | [d1, d2] => { results := [.lit (.bool false)], args := [d1, d2] }
  | _ => none }
def RelaxLeastWrongFalsely : Prop := relaxLeastRow.holds Try.pinned (OpenSpec.ofChange relaxLeastWrong)

/-- 'minecontrollaw12.RelaxAccepted': WHATEVER THE INPUT: true; the input reads as it did. -/
def relaxAcceptedSpec : ChangeSpec := { name := "relaxAccepted", fn := fun _ => fun
  | [d] => { results := [.lit (.bool true)], args := [d] }
  | _ => none }
def relaxAcceptedRow : OpenClaim := { program := "ytjjfpglgonpciaa", sum := "fa103aae3e6658405f2dd994fd6f7260c8699c57f039de150ad7dd6b9cdb406b", func := "minecontrol/minecontrollaw12.RelaxAccepted", spec := "relaxAccepted", unfollowed := true, recurses := true, named := ["math/bits.divideError", "math/bits.overflowError"], apart := false }
def RelaxAcceptedSaid : Prop := relaxAcceptedRow.holds Try.pinned (OpenSpec.ofChange relaxAcceptedSpec)

/-- ITS FALSE NEIGHBOUR: 'it returns false'. Refute it at one input. -/
def relaxAcceptedWrong : ChangeSpec := { name := "relaxAccepted", fn := fun _ => fun
  | [d] => { results := [.lit (.bool false)], args := [d] }
  | _ => none }
def RelaxAcceptedWrongFalsely : Prop := relaxAcceptedRow.holds Try.pinned (OpenSpec.ofChange relaxAcceptedWrong)

/-- 'minecontrollaw13.AirflowAnalyses': WHATEVER THE INPUT: true; the input reads as it did. -/
def airflowAnalysesSpec : ChangeSpec := { name := "airflowAnalyses", fn := fun _ => fun
  | [d1, d2] => { results := [.lit (.bool true)], args := [d1, d2] }
  | _ => none }
def airflowAnalysesRow : OpenClaim := { program := "ytjjfpglgonpciaa", sum := "fa103aae3e6658405f2dd994fd6f7260c8699c57f039de150ad7dd6b9cdb406b", func := "minecontrol/minecontrollaw13.AirflowAnalyses", spec := "airflowAnalyses", unfollowed := true, recurses := true, named := ["math/bits.divideError", "math/bits.overflowError"], apart := false }
def AirflowAnalysesSaid : Prop := airflowAnalysesRow.holds Try.pinned (OpenSpec.ofChange airflowAnalysesSpec)

/-- ITS FALSE NEIGHBOUR: 'it returns false'. Refute it at one input. -/
def airflowAnalysesWrong : ChangeSpec := { name := "airflowAnalyses", fn := fun _ => fun
  | [d1, d2] => { results := [.lit (.bool false)], args := [d1, d2] }
  | _ => none }
def AirflowAnalysesWrongFalsely : Prop := airflowAnalysesRow.holds Try.pinned (OpenSpec.ofChange airflowAnalysesWrong)

/-- 'minecontrollaw13.AirflowDirections': WHATEVER THE INPUT: true; the input reads as it did. -/
def airflowDirectionsSpec : ChangeSpec := { name := "airflowDirections", fn := fun _ => fun
  | [d1, d2, d3] => { results := [.lit (.bool true)], args := [d1, d2, d3] }
  | _ => none }
def airflowDirectionsRow : OpenClaim := { program := "ytjjfpglgonpciaa", sum := "fa103aae3e6658405f2dd994fd6f7260c8699c57f039de150ad7dd6b9cdb406b", func := "minecontrol/minecontrollaw13.AirflowDirections", spec := "airflowDirections", unfollowed := true, recurses := true, named := ["math/bits.divideError", "math/bits.overflowError"], apart := false }
def AirflowDirectionsSaid : Prop := airflowDirectionsRow.holds Try.pinned (OpenSpec.ofChange airflowDirectionsSpec)

/-- ITS FALSE NEIGHBOUR: 'it returns false'. Refute it at one input. -/
def airflowDirectionsWrong : ChangeSpec := { name := "airflowDirections", fn := fun _ => fun
  | [d1, d2, d3] => { results := [.lit (.bool false)], args := [d1, d2, d3] }
  | _ => none }
def AirflowDirectionsWrongFalsely : Prop := airflowDirectionsRow.holds Try.pinned (OpenSpec.ofChange airflowDirectionsWrong)

/-- 'minecontrollaw13.AirflowTrue': WHATEVER THE INPUT: true; the input reads as it did. -/
def airflowTrueSpec : ChangeSpec := { name := "airflowTrue", fn := fun _ => fun
  | [d] => { results := [.lit (.bool true)], args := [d] }
  | _ => none }
def airflowTrueRow : OpenClaim := { program := "ytjjfpglgonpciaa", sum := "fa103aae3e6658405f2dd994fd6f7260c8699c57f039de150ad7dd6b9cdb406b", func := "minecontrol/minecontrollaw13.AirflowTrue", spec := "airflowTrue", unfollowed := true, recurses := true, named := ["math/bits.divideError", "math/bits.overflowError"], apart := false }
def AirflowTrueSaid : Prop := airflowTrueRow.holds Try.pinned (OpenSpec.ofChange airflowTrueSpec)

/-- ITS FALSE NEIGHBOUR: 'it returns false'. Refute it at one input. -/
def airflowTrueWrong : ChangeSpec := { name := "airflowTrue", fn := fun _ => fun
  | [d] => { results := [.lit (.bool false)], args := [d] }
  | _ => none }
def AirflowTrueWrongFalsely : Prop := airflowTrueRow.holds Try.pinned (OpenSpec.ofChange airflowTrueWrong)

/-- 'minecontrollaw13.AirflowOrder': WHATEVER THE INPUT: true; the input reads as it did. -/
def airflowOrderSpec : ChangeSpec := { name := "airflowOrder", fn := fun _ => fun
  | [d1, d2] => { results := [.lit (.bool true)], args := [d1, d2] }
  | _ => none }
def airflowOrderRow : OpenClaim := { program := "ytjjfpglgonpciaa", sum := "fa103aae3e6658405f2dd994fd6f7260c8699c57f039de150ad7dd6b9cdb406b", func := "minecontrol/minecontrollaw13.AirflowOrder", spec := "airflowOrder", unfollowed := true, recurses := true, named := ["math/bits.divideError", "math/bits.overflowError"], apart := false }
def AirflowOrderSaid : Prop := airflowOrderRow.holds Try.pinned (OpenSpec.ofChange airflowOrderSpec)

/-- ITS FALSE NEIGHBOUR: 'it returns false'. Refute it at one input. -/
def airflowOrderWrong : ChangeSpec := { name := "airflowOrder", fn := fun _ => fun
  | [d1, d2] => { results := [.lit (.bool false)], args := [d1, d2] }
  | _ => none }
def AirflowOrderWrongFalsely : Prop := airflowOrderRow.holds Try.pinned (OpenSpec.ofChange airflowOrderWrong)

/-- 'minecontrollaw13.AirflowPlaces': WHATEVER THE INPUT: true; the input reads as it did. -/
def airflowPlacesSpec : ChangeSpec := { name := "airflowPlaces", fn := fun _ => fun
  | [d] => { results := [.lit (.bool true)], args := [d] }
  | _ => none }
def airflowPlacesRow : OpenClaim := { program := "ytjjfpglgonpciaa", sum := "fa103aae3e6658405f2dd994fd6f7260c8699c57f039de150ad7dd6b9cdb406b", func := "minecontrol/minecontrollaw13.AirflowPlaces", spec := "airflowPlaces", unfollowed := true, recurses := true, named := ["math/bits.divideError", "math/bits.overflowError"], apart := false }
def AirflowPlacesSaid : Prop := airflowPlacesRow.holds Try.pinned (OpenSpec.ofChange airflowPlacesSpec)

/-- ITS FALSE NEIGHBOUR: 'it returns false'. Refute it at one input. -/
def airflowPlacesWrong : ChangeSpec := { name := "airflowPlaces", fn := fun _ => fun
  | [d] => { results := [.lit (.bool false)], args := [d] }
  | _ => none }
def AirflowPlacesWrongFalsely : Prop := airflowPlacesRow.holds Try.pinned (OpenSpec.ofChange airflowPlacesWrong)

/- THE SECOND FORM. 'bulk': how many values and letters a reading holds, each counted each time it is reached (what is shared counts as often as it is met; a slice's spare places count too). A statement '..UptoSaid' is the law's where the arguments, and the package variables that the reading takes, are together of bulk at most 1048576: NARROWER than '..Said'. Prove '..Said' where nothing that the law and all that it calls make is longer than what came in: it says more and counts as full. Else prove '..UptoSaid'. A law counts once. -/
mutual
def uptoBulk {H : Type} : DataW H → Nat
  | .lit (.string bytes) => bytes.length + 1
  | .lit _ => 1
  | .nil => 1
  | .ptr d => uptoBulk d + 1
  | .slice elems spare => uptoBulkAll elems + uptoBulkAll spare + 1
  | .agg parts => uptoBulkAll parts + 1
  | .iface _ d => uptoBulk d + 1
  | .map entries => uptoBulkEntries entries + 1
  | .held _ => 1
def uptoBulkAll {H : Type} : List (DataW H) → Nat
  | [] => 0
  | d :: r => uptoBulk d + uptoBulkAll r
def uptoBulkEntries {H : Type} : List (Lit × DataW H) → Nat
  | [] => 0
  | x :: r => uptoBulkEntry x + uptoBulkEntries r
def uptoBulkEntry {H : Type} : Lit × DataW H → Nat
  | (.string bytes, d) => bytes.length + uptoBulk d + 1
  | (_, d) => uptoBulk d + 1
 end
def uptoSmall : (H : Type) → List (DataW H) → Bool := fun _ ds => decide (uptoBulkAll ds ≤ 1048576)
def OpenSpec.upto (s : _root_.Go.ChangeSpec) : _root_.Go.OpenSpec := { _root_.Go.OpenSpec.ofChange s with cond := some uptoSmall }

/-- 'minecontrollaw11.CertifyMeans', WHERE WHAT IT READS IS OF BULK AT MOST 1048576: true; the input reads as it did. -/
def certifyMeansUptoRow : OpenClaim := { program := "ytjjfpglgonpciaa", sum := "fa103aae3e6658405f2dd994fd6f7260c8699c57f039de150ad7dd6b9cdb406b", func := "minecontrol/minecontrollaw11.CertifyMeans", spec := "certifyMeans", named := ["math/bits.divideError", "math/bits.overflowError"], apart := false, narrowed := true }
def CertifyMeansUptoSaid : Prop := certifyMeansUptoRow.holds Try.pinned (OpenSpec.upto certifyMeansSpec)

/-- 'minecontrollaw12.RelaxRises', WHERE WHAT IT READS IS OF BULK AT MOST 1048576: true; the input reads as it did. -/
def relaxRisesUptoRow : OpenClaim := { program := "ytjjfpglgonpciaa", sum := "fa103aae3e6658405f2dd994fd6f7260c8699c57f039de150ad7dd6b9cdb406b", func := "minecontrol/minecontrollaw12.RelaxRises", spec := "relaxRises", unfollowed := true, recurses := true, named := ["math/bits.divideError", "math/bits.overflowError"], apart := false, narrowed := true }
def RelaxRisesUptoSaid : Prop := relaxRisesUptoRow.holds Try.pinned (OpenSpec.upto relaxRisesSpec)

/-- 'minecontrollaw12.RelaxSolves', WHERE WHAT IT READS IS OF BULK AT MOST 1048576: true; the input reads as it did. -/
def relaxSolvesUptoRow : OpenClaim := { program := "ytjjfpglgonpciaa", sum := "fa103aae3e6658405f2dd994fd6f7260c8699c57f039de150ad7dd6b9cdb406b", func := "minecontrol/minecontrollaw12.RelaxSolves", spec := "relaxSolves", unfollowed := true, recurses := true, named := ["math/bits.divideError", "math/bits.overflowError"], apart := false, narrowed := true }
def RelaxSolvesUptoSaid : Prop := relaxSolvesUptoRow.holds Try.pinned (OpenSpec.upto relaxSolvesSpec)

/-- 'minecontrollaw12.RelaxErrors', WHERE WHAT IT READS IS OF BULK AT MOST 1048576: true; the input reads as it did. -/
def relaxErrorsUptoRow : OpenClaim := { program := "ytjjfpglgonpciaa", sum := "fa103aae3e6658405f2dd994fd6f7260c8699c57f039de150ad7dd6b9cdb406b", func := "minecontrol/minecontrollaw12.RelaxErrors", spec := "relaxErrors", unfollowed := true, recurses := true, named := ["math/bits.divideError", "math/bits.overflowError"], apart := false, narrowed := true }
def RelaxErrorsUptoSaid : Prop := relaxErrorsUptoRow.holds Try.pinned (OpenSpec.upto relaxErrorsSpec)

/-- 'minecontrollaw12.RelaxTurns', WHERE WHAT IT READS IS OF BULK AT MOST 1048576: true; the input reads as it did. -/
def relaxTurnsUptoRow : OpenClaim := { program := "ytjjfpglgonpciaa", sum := "fa103aae3e6658405f2dd994fd6f7260c8699c57f039de150ad7dd6b9cdb406b", func := "minecontrol/minecontrollaw12.RelaxTurns", spec := "relaxTurns", unfollowed := true, recurses := true, named := ["math/bits.divideError", "math/bits.overflowError"], apart := false, narrowed := true }
def RelaxTurnsUptoSaid : Prop := relaxTurnsUptoRow.holds Try.pinned (OpenSpec.upto relaxTurnsSpec)

/-- 'minecontrollaw12.RelaxSurfaces', WHERE WHAT IT READS IS OF BULK AT MOST 1048576: true; the input reads as it did. -/
def relaxSurfacesUptoRow : OpenClaim := { program := "ytjjfpglgonpciaa", sum := "fa103aae3e6658405f2dd994fd6f7260c8699c57f039de150ad7dd6b9cdb406b", func := "minecontrol/minecontrollaw12.RelaxSurfaces", spec := "relaxSurfaces", unfollowed := true, recurses := true, named := ["math/bits.divideError", "math/bits.overflowError"], apart := false, narrowed := true }
def RelaxSurfacesUptoSaid : Prop := relaxSurfacesUptoRow.holds Try.pinned (OpenSpec.upto relaxSurfacesSpec)

/-- 'minecontrollaw12.RelaxLeast', WHERE WHAT IT READS IS OF BULK AT MOST 1048576: true; the input reads as it did. -/
def relaxLeastUptoRow : OpenClaim := { program := "ytjjfpglgonpciaa", sum := "fa103aae3e6658405f2dd994fd6f7260c8699c57f039de150ad7dd6b9cdb406b", func := "minecontrol/minecontrollaw12.RelaxLeast", spec := "relaxLeast", unfollowed := true, recurses := true, named := ["math/bits.divideError", "math/bits.overflowError"], apart := false, narrowed := true }
def RelaxLeastUptoSaid : Prop := relaxLeastUptoRow.holds Try.pinned (OpenSpec.upto relaxLeastSpec)

/-- 'minecontrollaw12.RelaxAccepted', WHERE WHAT IT READS IS OF BULK AT MOST 1048576: true; the input reads as it did. -/
def relaxAcceptedUptoRow : OpenClaim := { program := "ytjjfpglgonpciaa", sum := "fa103aae3e6658405f2dd994fd6f7260c8699c57f039de150ad7dd6b9cdb406b", func := "minecontrol/minecontrollaw12.RelaxAccepted", spec := "relaxAccepted", unfollowed := true, recurses := true, named := ["math/bits.divideError", "math/bits.overflowError"], apart := false, narrowed := true }
def RelaxAcceptedUptoSaid : Prop := relaxAcceptedUptoRow.holds Try.pinned (OpenSpec.upto relaxAcceptedSpec)

/-- 'minecontrollaw13.AirflowAnalyses', WHERE WHAT IT READS IS OF BULK AT MOST 1048576: true; the input reads as it did. -/
def airflowAnalysesUptoRow : OpenClaim := { program := "ytjjfpglgonpciaa", sum := "fa103aae3e6658405f2dd994fd6f7260c8699c57f039de150ad7dd6b9cdb406b", func := "minecontrol/minecontrollaw13.AirflowAnalyses", spec := "airflowAnalyses", unfollowed := true, recurses := true, named := ["math/bits.divideError", "math/bits.overflowError"], apart := false, narrowed := true }
def AirflowAnalysesUptoSaid : Prop := airflowAnalysesUptoRow.holds Try.pinned (OpenSpec.upto airflowAnalysesSpec)

/-- 'minecontrollaw13.AirflowDirections', WHERE WHAT IT READS IS OF BULK AT MOST 1048576: true; the input reads as it did. -/
def airflowDirectionsUptoRow : OpenClaim := { program := "ytjjfpglgonpciaa", sum := "fa103aae3e6658405f2dd994fd6f7260c8699c57f039de150ad7dd6b9cdb406b", func := "minecontrol/minecontrollaw13.AirflowDirections", spec := "airflowDirections", unfollowed := true, recurses := true, named := ["math/bits.divideError", "math/bits.overflowError"], apart := false, narrowed := true }
def AirflowDirectionsUptoSaid : Prop := airflowDirectionsUptoRow.holds Try.pinned (OpenSpec.upto airflowDirectionsSpec)

/-- 'minecontrollaw13.AirflowTrue', WHERE WHAT IT READS IS OF BULK AT MOST 1048576: true; the input reads as it did. -/
def airflowTrueUptoRow : OpenClaim := { program := "ytjjfpglgonpciaa", sum := "fa103aae3e6658405f2dd994fd6f7260c8699c57f039de150ad7dd6b9cdb406b", func := "minecontrol/minecontrollaw13.AirflowTrue", spec := "airflowTrue", unfollowed := true, recurses := true, named := ["math/bits.divideError", "math/bits.overflowError"], apart := false, narrowed := true }
def AirflowTrueUptoSaid : Prop := airflowTrueUptoRow.holds Try.pinned (OpenSpec.upto airflowTrueSpec)

/-- 'minecontrollaw13.AirflowOrder', WHERE WHAT IT READS IS OF BULK AT MOST 1048576: true; the input reads as it did. -/
def airflowOrderUptoRow : OpenClaim := { program := "ytjjfpglgonpciaa", sum := "fa103aae3e6658405f2dd994fd6f7260c8699c57f039de150ad7dd6b9cdb406b", func := "minecontrol/minecontrollaw13.AirflowOrder", spec := "airflowOrder", unfollowed := true, recurses := true, named := ["math/bits.divideError", "math/bits.overflowError"], apart := false, narrowed := true }
def AirflowOrderUptoSaid : Prop := airflowOrderUptoRow.holds Try.pinned (OpenSpec.upto airflowOrderSpec)

/-- 'minecontrollaw13.AirflowPlaces', WHERE WHAT IT READS IS OF BULK AT MOST 1048576: true; the input reads as it did. -/
def airflowPlacesUptoRow : OpenClaim := { program := "ytjjfpglgonpciaa", sum := "fa103aae3e6658405f2dd994fd6f7260c8699c57f039de150ad7dd6b9cdb406b", func := "minecontrol/minecontrollaw13.AirflowPlaces", spec := "airflowPlaces", unfollowed := true, recurses := true, named := ["math/bits.divideError", "math/bits.overflowError"], apart := false, narrowed := true }
def AirflowPlacesUptoSaid : Prop := airflowPlacesUptoRow.holds Try.pinned (OpenSpec.upto airflowPlacesSpec)

end Rows
end Go.Proofs.Ytjjfpglgonpciaa
