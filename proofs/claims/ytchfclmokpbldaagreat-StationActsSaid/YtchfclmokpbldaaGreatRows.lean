/-
  No cell of these rows narrows 'for every input' (looked for: loops, veiled, ifaces, maps, wideKeys, modest, calm, conditions, laid).
  DERIVED. THE GIVEN ROWS OF THIS SEAT. 11 by the template 'for every input the law returns true; each argument reads behind the call as it read before'; 0 by the template 'total and deterministic' (their statements: YtchfclmokpbldaaGreatTotals.lean).
  GIVEN WITH THE SEED: the statements are not yours to turn. If you find one false, say at which input.
  Laid BY PROGRAM, IN A SANDBOX (cutbox-rows.mjs): the forced cells as the released guide's own fill.sh prints them over the translation 4d1b15116fd7f80e… (all of the seat's roots in one cut). By AI agents, Wed Nov 11 2026. No macro, syntax, notation, axiom, sorry.
-/
import Derived.Test.YtchfclmokpbldaaGreatChecked
import GoSem.Claim
import GoSem.ClaimJoined
import GoSem.ClaimMapViews
import Derived.JoinedTies
import Derived.KernelRfl
namespace Go.Proofs.YtchfclmokpbldaaGreat
/- THE CELL 'sum', in the pinned program and in every row, IS THE sha256 OF THE DUMP (.gsa) THAT YtchfclmokpbldaaGreatProg.lean LOADS. Nothing in Lean hashes anything: it is a label: what it is worth is what the hold of that sum in a sandbox is worth. -/
noncomputable def Tryz.pinned : Pinned := { name := "ytchfclmokpbldaagreat", sum := "4d1b15116fd7f80ed94edf00cad3b61acdfeac418690294f9627156b2e7017be", checked := Tryz.checked }
namespace Rows
def none {H : Type} : Left H := { results := [], args := [] }

/-- 'minecontroltop.TopPower': WHATEVER THE INPUT: true; the input reads as it did. -/
def topPowerSpec : ChangeSpec := { name := "topPower", fn := fun _ => fun
  | [d1, d2, d3] => { results := [.lit (.bool true)], args := [d1, d2, d3] }
  | _ => none }
def topPowerRow : OpenClaim := { program := "ytchfclmokpbldaagreat", sum := "4d1b15116fd7f80ed94edf00cad3b61acdfeac418690294f9627156b2e7017be", func := "minecontrol/minecontroltop.TopPower", spec := "topPower", unfollowed := true, recurses := true, named := ["math/bits.divideError", "math/bits.overflowError"], apart := false }
def TopPowerSaid : Prop := topPowerRow.holds Tryz.pinned (OpenSpec.ofChange topPowerSpec)

/-- ITS FALSE NEIGHBOUR: 'it returns false'. Refute it at one input. -/
def topPowerWrong : ChangeSpec := { name := "topPower", fn := fun _ => fun
  | [d1, d2, d3] => { results := [.lit (.bool false)], args := [d1, d2, d3] }
  | _ => none }
def TopPowerWrongFalsely : Prop := topPowerRow.holds Tryz.pinned (OpenSpec.ofChange topPowerWrong)

/-- 'minecontroltop.TopSilence': WHATEVER THE INPUT: true; the input reads as it did. -/
def topSilenceSpec : ChangeSpec := { name := "topSilence", fn := fun _ => fun
  | [d1, d2] => { results := [.lit (.bool true)], args := [d1, d2] }
  | _ => none }
def topSilenceRow : OpenClaim := { program := "ytchfclmokpbldaagreat", sum := "4d1b15116fd7f80ed94edf00cad3b61acdfeac418690294f9627156b2e7017be", func := "minecontrol/minecontroltop.TopSilence", spec := "topSilence", unfollowed := true, recurses := true, named := ["math/bits.divideError", "math/bits.overflowError"], apart := false }
def TopSilenceSaid : Prop := topSilenceRow.holds Tryz.pinned (OpenSpec.ofChange topSilenceSpec)

/-- ITS FALSE NEIGHBOUR: 'it returns false'. Refute it at one input. -/
def topSilenceWrong : ChangeSpec := { name := "topSilence", fn := fun _ => fun
  | [d1, d2] => { results := [.lit (.bool false)], args := [d1, d2] }
  | _ => none }
def TopSilenceWrongFalsely : Prop := topSilenceRow.holds Tryz.pinned (OpenSpec.ofChange topSilenceWrong)

/-- 'minecontroltop.TopAir': WHATEVER THE INPUT: true; the input reads as it did. -/
def topAirSpec : ChangeSpec := { name := "topAir", fn := fun _ => fun
  | [d] => { results := [.lit (.bool true)], args := [d] }
  | _ => none }
def topAirRow : OpenClaim := { program := "ytchfclmokpbldaagreat", sum := "4d1b15116fd7f80ed94edf00cad3b61acdfeac418690294f9627156b2e7017be", func := "minecontrol/minecontroltop.TopAir", spec := "topAir", unfollowed := true, recurses := true, named := ["math/bits.divideError", "math/bits.overflowError"], apart := false }
def TopAirSaid : Prop := topAirRow.holds Tryz.pinned (OpenSpec.ofChange topAirSpec)

/-- ITS FALSE NEIGHBOUR: 'it returns false'. Refute it at one input. -/
def topAirWrong : ChangeSpec := { name := "topAir", fn := fun _ => fun
  | [d] => { results := [.lit (.bool false)], args := [d] }
  | _ => none }
def TopAirWrongFalsely : Prop := topAirRow.holds Tryz.pinned (OpenSpec.ofChange topAirWrong)

/-- 'minecontrollaw22.StationOpens': WHATEVER THE INPUT: true; the input reads as it did. -/
def stationOpensSpec : ChangeSpec := { name := "stationOpens", fn := fun _ => fun
  | [d1, d2, d3] => { results := [.lit (.bool true)], args := [d1, d2, d3] }
  | _ => none }
def stationOpensRow : OpenClaim := { program := "ytchfclmokpbldaagreat", sum := "4d1b15116fd7f80ed94edf00cad3b61acdfeac418690294f9627156b2e7017be", func := "minecontrol/minecontrollaw22.StationOpens", spec := "stationOpens", unfollowed := true, recurses := true, named := ["math/bits.divideError", "math/bits.overflowError"], apart := false }
def StationOpensSaid : Prop := stationOpensRow.holds Tryz.pinned (OpenSpec.ofChange stationOpensSpec)

/-- ITS FALSE NEIGHBOUR: 'it returns false'. Refute it at one input. -/
def stationOpensWrong : ChangeSpec := { name := "stationOpens", fn := fun _ => fun
  | [d1, d2, d3] => { results := [.lit (.bool false)], args := [d1, d2, d3] }
  | _ => none }
def StationOpensWrongFalsely : Prop := stationOpensRow.holds Tryz.pinned (OpenSpec.ofChange stationOpensWrong)

/-- 'minecontrollaw22.StationPieces': WHATEVER THE INPUT: true; the input reads as it did. -/
def stationPiecesSpec : ChangeSpec := { name := "stationPieces", fn := fun _ => fun
  | [d1, d2] => { results := [.lit (.bool true)], args := [d1, d2] }
  | _ => none }
def stationPiecesRow : OpenClaim := { program := "ytchfclmokpbldaagreat", sum := "4d1b15116fd7f80ed94edf00cad3b61acdfeac418690294f9627156b2e7017be", func := "minecontrol/minecontrollaw22.StationPieces", spec := "stationPieces", unfollowed := true, recurses := true, named := ["math/bits.divideError", "math/bits.overflowError"], apart := false }
def StationPiecesSaid : Prop := stationPiecesRow.holds Tryz.pinned (OpenSpec.ofChange stationPiecesSpec)

/-- ITS FALSE NEIGHBOUR: 'it returns false'. Refute it at one input. -/
def stationPiecesWrong : ChangeSpec := { name := "stationPieces", fn := fun _ => fun
  | [d1, d2] => { results := [.lit (.bool false)], args := [d1, d2] }
  | _ => none }
def StationPiecesWrongFalsely : Prop := stationPiecesRow.holds Tryz.pinned (OpenSpec.ofChange stationPiecesWrong)

/-- 'minecontrollaw22.StationTimes': WHATEVER THE INPUT: true; the input reads as it did. -/
def stationTimesSpec : ChangeSpec := { name := "stationTimes", fn := fun _ => fun
  | [d1, d2, d3] => { results := [.lit (.bool true)], args := [d1, d2, d3] }
  | _ => none }
def stationTimesRow : OpenClaim := { program := "ytchfclmokpbldaagreat", sum := "4d1b15116fd7f80ed94edf00cad3b61acdfeac418690294f9627156b2e7017be", func := "minecontrol/minecontrollaw22.StationTimes", spec := "stationTimes", unfollowed := true, recurses := true, named := ["math/bits.divideError", "math/bits.overflowError"], apart := false }
def StationTimesSaid : Prop := stationTimesRow.holds Tryz.pinned (OpenSpec.ofChange stationTimesSpec)

/-- ITS FALSE NEIGHBOUR: 'it returns false'. Refute it at one input. -/
def stationTimesWrong : ChangeSpec := { name := "stationTimes", fn := fun _ => fun
  | [d1, d2, d3] => { results := [.lit (.bool false)], args := [d1, d2, d3] }
  | _ => none }
def StationTimesWrongFalsely : Prop := stationTimesRow.holds Tryz.pinned (OpenSpec.ofChange stationTimesWrong)

/-- 'minecontrollaw22.StationLog': WHATEVER THE INPUT: true; the input reads as it did. -/
def stationLogSpec : ChangeSpec := { name := "stationLog", fn := fun _ => fun
  | [d] => { results := [.lit (.bool true)], args := [d] }
  | _ => none }
def stationLogRow : OpenClaim := { program := "ytchfclmokpbldaagreat", sum := "4d1b15116fd7f80ed94edf00cad3b61acdfeac418690294f9627156b2e7017be", func := "minecontrol/minecontrollaw22.StationLog", spec := "stationLog", unfollowed := true, recurses := true, named := ["math/bits.divideError", "math/bits.overflowError"], apart := false }
def StationLogSaid : Prop := stationLogRow.holds Tryz.pinned (OpenSpec.ofChange stationLogSpec)

/-- ITS FALSE NEIGHBOUR: 'it returns false'. Refute it at one input. -/
def stationLogWrong : ChangeSpec := { name := "stationLog", fn := fun _ => fun
  | [d] => { results := [.lit (.bool false)], args := [d] }
  | _ => none }
def StationLogWrongFalsely : Prop := stationLogRow.holds Tryz.pinned (OpenSpec.ofChange stationLogWrong)

/-- 'minecontrollaw22.StationActs': WHATEVER THE INPUT: true; the input reads as it did. -/
def stationActsSpec : ChangeSpec := { name := "stationActs", fn := fun _ => fun
  | [d] => { results := [.lit (.bool true)], args := [d] }
  | _ => none }
def stationActsRow : OpenClaim := { program := "ytchfclmokpbldaagreat", sum := "4d1b15116fd7f80ed94edf00cad3b61acdfeac418690294f9627156b2e7017be", func := "minecontrol/minecontrollaw22.StationActs", spec := "stationActs", unfollowed := true, recurses := true, named := ["math/bits.divideError", "math/bits.overflowError"], apart := false }
def StationActsSaid : Prop := stationActsRow.holds Tryz.pinned (OpenSpec.ofChange stationActsSpec)

/-- ITS FALSE NEIGHBOUR: 'it returns false'. Refute it at one input. -/
def stationActsWrong : ChangeSpec := { name := "stationActs", fn := fun _ => fun
  | [d] => { results := [.lit (.bool false)], args := [d] }
  | _ => none }
def StationActsWrongFalsely : Prop := stationActsRow.holds Tryz.pinned (OpenSpec.ofChange stationActsWrong)

/-- 'minecontrollaw22.StationEasy': WHATEVER THE INPUT: true; the input reads as it did. -/
def stationEasySpec : ChangeSpec := { name := "stationEasy", fn := fun _ => fun
  | [d] => { results := [.lit (.bool true)], args := [d] }
  | _ => none }
def stationEasyRow : OpenClaim := { program := "ytchfclmokpbldaagreat", sum := "4d1b15116fd7f80ed94edf00cad3b61acdfeac418690294f9627156b2e7017be", func := "minecontrol/minecontrollaw22.StationEasy", spec := "stationEasy", unfollowed := true, recurses := true, named := ["math/bits.divideError", "math/bits.overflowError"], apart := false }
def StationEasySaid : Prop := stationEasyRow.holds Tryz.pinned (OpenSpec.ofChange stationEasySpec)

/-- ITS FALSE NEIGHBOUR: 'it returns false'. Refute it at one input. -/
def stationEasyWrong : ChangeSpec := { name := "stationEasy", fn := fun _ => fun
  | [d] => { results := [.lit (.bool false)], args := [d] }
  | _ => none }
def StationEasyWrongFalsely : Prop := stationEasyRow.holds Tryz.pinned (OpenSpec.ofChange stationEasyWrong)

/-- 'minecontrollaw22.StationDue': WHATEVER THE INPUT: true; the input reads as it did. -/
def stationDueSpec : ChangeSpec := { name := "stationDue", fn := fun _ => fun
  | [d1, d2] => { results := [.lit (.bool true)], args := [d1, d2] }
  | _ => none }
def stationDueRow : OpenClaim := { program := "ytchfclmokpbldaagreat", sum := "4d1b15116fd7f80ed94edf00cad3b61acdfeac418690294f9627156b2e7017be", func := "minecontrol/minecontrollaw22.StationDue", spec := "stationDue", unfollowed := true, recurses := true, named := ["math/bits.divideError", "math/bits.overflowError"], apart := false }
def StationDueSaid : Prop := stationDueRow.holds Tryz.pinned (OpenSpec.ofChange stationDueSpec)

/-- ITS FALSE NEIGHBOUR: 'it returns false'. Refute it at one input. -/
def stationDueWrong : ChangeSpec := { name := "stationDue", fn := fun _ => fun
  | [d1, d2] => { results := [.lit (.bool false)], args := [d1, d2] }
  | _ => none }
def StationDueWrongFalsely : Prop := stationDueRow.holds Tryz.pinned (OpenSpec.ofChange stationDueWrong)

/-- 'minecontroltop.TopGas': WHATEVER THE INPUT: true; the input reads as it did. -/
def topGasSpec : ChangeSpec := { name := "topGas", fn := fun _ => fun
  | [d1, d2] => { results := [.lit (.bool true)], args := [d1, d2] }
  | _ => none }
def topGasRow : OpenClaim := { program := "ytchfclmokpbldaagreat", sum := "4d1b15116fd7f80ed94edf00cad3b61acdfeac418690294f9627156b2e7017be", func := "minecontrol/minecontroltop.TopGas", spec := "topGas", unfollowed := true, recurses := true, named := ["math/bits.divideError", "math/bits.overflowError"], apart := false }
def TopGasSaid : Prop := topGasRow.holds Tryz.pinned (OpenSpec.ofChange topGasSpec)

/-- ITS FALSE NEIGHBOUR: 'it returns false'. Refute it at one input. -/
def topGasWrong : ChangeSpec := { name := "topGas", fn := fun _ => fun
  | [d1, d2] => { results := [.lit (.bool false)], args := [d1, d2] }
  | _ => none }
def TopGasWrongFalsely : Prop := topGasRow.holds Tryz.pinned (OpenSpec.ofChange topGasWrong)

/- THE SECOND FORM. 'bulk': how many values and letters a reading holds, each counted each time it is reached (what is shared counts as often as it is met; a slice's spare places count too). A statement '..UptoSaid' is the law's where the arguments, and the package variables that the reading takes, are together of bulk at most 1048576: NARROWER than '..Said'. Prove '..Said' where nothing that the law and all that it calls make is longer than what came in: it says more and counts as full. Else prove '..UptoSaid'. A law counts once. -/
mutual
def uptoBulk {H : Type} : DataW H → Nat
  | .lit (.string bytes) => bytes.length + 1
  | .lit _ => 1
  | .nil => 1
  | .ptr d => uptoBulk d + 1
  | .slice elems spare => uptoBulkAll elems + uptoBulkAll spare + 1
  | .agg parts => uptoBulkAll parts + 1
  | .iface _ d => uptoBulk d + 1
  | .map entries => uptoBulkEntries entries + 1
  | .held _ => 1
def uptoBulkAll {H : Type} : List (DataW H) → Nat
  | [] => 0
  | d :: r => uptoBulk d + uptoBulkAll r
def uptoBulkEntries {H : Type} : List (Lit × DataW H) → Nat
  | [] => 0
  | x :: r => uptoBulkEntry x + uptoBulkEntries r
def uptoBulkEntry {H : Type} : Lit × DataW H → Nat
  | (.string bytes, d) => bytes.length + uptoBulk d + 1
  | (_, d) => uptoBulk d + 1
 end
def uptoSmall : (H : Type) → List (DataW H) → Bool := fun _ ds => decide (uptoBulkAll ds ≤ 1048576)
def OpenSpec.upto (s : _root_.Go.ChangeSpec) : _root_.Go.OpenSpec := { _root_.Go.OpenSpec.ofChange s with cond := some uptoSmall }

/-- 'minecontroltop.TopPower', WHERE WHAT IT READS IS OF BULK AT MOST 1048576: true; the input reads as it did. -/
def topPowerUptoRow : OpenClaim := { program := "ytchfclmokpbldaagreat", sum := "4d1b15116fd7f80ed94edf00cad3b61acdfeac418690294f9627156b2e7017be", func := "minecontrol/minecontroltop.TopPower", spec := "topPower", unfollowed := true, recurses := true, named := ["math/bits.divideError", "math/bits.overflowError"], apart := false, narrowed := true }
def TopPowerUptoSaid : Prop := topPowerUptoRow.holds Tryz.pinned (OpenSpec.upto topPowerSpec)

/-- 'minecontroltop.TopSilence', WHERE WHAT IT READS IS OF BULK AT MOST 1048576: true; the input reads as it did. -/
def topSilenceUptoRow : OpenClaim := { program := "ytchfclmokpbldaagreat", sum := "4d1b15116fd7f80ed94edf00cad3b61acdfeac418690294f9627156b2e7017be", func := "minecontrol/minecontroltop.TopSilence", spec := "topSilence", unfollowed := true, recurses := true, named := ["math/bits.divideError", "math/bits.overflowError"], apart := false, narrowed := true }
def TopSilenceUptoSaid : Prop := topSilenceUptoRow.holds Tryz.pinned (OpenSpec.upto topSilenceSpec)

/-- 'minecontroltop.TopAir', WHERE WHAT IT READS IS OF BULK AT MOST 1048576: true; the input reads as it did. -/
def topAirUptoRow : OpenClaim := { program := "ytchfclmokpbldaagreat", sum := "4d1b15116fd7f80ed94edf00cad3b61acdfeac418690294f9627156b2e7017be", func := "minecontrol/minecontroltop.TopAir", spec := "topAir", unfollowed := true, recurses := true, named := ["math/bits.divideError", "math/bits.overflowError"], apart := false, narrowed := true }
def TopAirUptoSaid : Prop := topAirUptoRow.holds Tryz.pinned (OpenSpec.upto topAirSpec)

/-- 'minecontrollaw22.StationOpens', WHERE WHAT IT READS IS OF BULK AT MOST 1048576: true; the input reads as it did. -/
def stationOpensUptoRow : OpenClaim := { program := "ytchfclmokpbldaagreat", sum := "4d1b15116fd7f80ed94edf00cad3b61acdfeac418690294f9627156b2e7017be", func := "minecontrol/minecontrollaw22.StationOpens", spec := "stationOpens", unfollowed := true, recurses := true, named := ["math/bits.divideError", "math/bits.overflowError"], apart := false, narrowed := true }
def StationOpensUptoSaid : Prop := stationOpensUptoRow.holds Tryz.pinned (OpenSpec.upto stationOpensSpec)

/-- 'minecontrollaw22.StationPieces', WHERE WHAT IT READS IS OF BULK AT MOST 1048576: true; the input reads as it did. -/
def stationPiecesUptoRow : OpenClaim := { program := "ytchfclmokpbldaagreat", sum := "4d1b15116fd7f80ed94edf00cad3b61acdfeac418690294f9627156b2e7017be", func := "minecontrol/minecontrollaw22.StationPieces", spec := "stationPieces", unfollowed := true, recurses := true, named := ["math/bits.divideError", "math/bits.overflowError"], apart := false, narrowed := true }
def StationPiecesUptoSaid : Prop := stationPiecesUptoRow.holds Tryz.pinned (OpenSpec.upto stationPiecesSpec)

/-- 'minecontrollaw22.StationTimes', WHERE WHAT IT READS IS OF BULK AT MOST 1048576: true; the input reads as it did. -/
def stationTimesUptoRow : OpenClaim := { program := "ytchfclmokpbldaagreat", sum := "4d1b15116fd7f80ed94edf00cad3b61acdfeac418690294f9627156b2e7017be", func := "minecontrol/minecontrollaw22.StationTimes", spec := "stationTimes", unfollowed := true, recurses := true, named := ["math/bits.divideError", "math/bits.overflowError"], apart := false, narrowed := true }
def StationTimesUptoSaid : Prop := stationTimesUptoRow.holds Tryz.pinned (OpenSpec.upto stationTimesSpec)

/-- 'minecontrollaw22.StationLog', WHERE WHAT IT READS IS OF BULK AT MOST 1048576: true; the input reads as it did. -/
def stationLogUptoRow : OpenClaim := { program := "ytchfclmokpbldaagreat", sum := "4d1b15116fd7f80ed94edf00cad3b61acdfeac418690294f9627156b2e7017be", func := "minecontrol/minecontrollaw22.StationLog", spec := "stationLog", unfollowed := true, recurses := true, named := ["math/bits.divideError", "math/bits.overflowError"], apart := false, narrowed := true }
def StationLogUptoSaid : Prop := stationLogUptoRow.holds Tryz.pinned (OpenSpec.upto stationLogSpec)

/-- 'minecontrollaw22.StationActs', WHERE WHAT IT READS IS OF BULK AT MOST 1048576: true; the input reads as it did. -/
def stationActsUptoRow : OpenClaim := { program := "ytchfclmokpbldaagreat", sum := "4d1b15116fd7f80ed94edf00cad3b61acdfeac418690294f9627156b2e7017be", func := "minecontrol/minecontrollaw22.StationActs", spec := "stationActs", unfollowed := true, recurses := true, named := ["math/bits.divideError", "math/bits.overflowError"], apart := false, narrowed := true }
def StationActsUptoSaid : Prop := stationActsUptoRow.holds Tryz.pinned (OpenSpec.upto stationActsSpec)

/-- 'minecontrollaw22.StationEasy', WHERE WHAT IT READS IS OF BULK AT MOST 1048576: true; the input reads as it did. -/
def stationEasyUptoRow : OpenClaim := { program := "ytchfclmokpbldaagreat", sum := "4d1b15116fd7f80ed94edf00cad3b61acdfeac418690294f9627156b2e7017be", func := "minecontrol/minecontrollaw22.StationEasy", spec := "stationEasy", unfollowed := true, recurses := true, named := ["math/bits.divideError", "math/bits.overflowError"], apart := false, narrowed := true }
def StationEasyUptoSaid : Prop := stationEasyUptoRow.holds Tryz.pinned (OpenSpec.upto stationEasySpec)

/-- 'minecontrollaw22.StationDue', WHERE WHAT IT READS IS OF BULK AT MOST 1048576: true; the input reads as it did. -/
def stationDueUptoRow : OpenClaim := { program := "ytchfclmokpbldaagreat", sum := "4d1b15116fd7f80ed94edf00cad3b61acdfeac418690294f9627156b2e7017be", func := "minecontrol/minecontrollaw22.StationDue", spec := "stationDue", unfollowed := true, recurses := true, named := ["math/bits.divideError", "math/bits.overflowError"], apart := false, narrowed := true }
def StationDueUptoSaid : Prop := stationDueUptoRow.holds Tryz.pinned (OpenSpec.upto stationDueSpec)

/-- 'minecontroltop.TopGas', WHERE WHAT IT READS IS OF BULK AT MOST 1048576: true; the input reads as it did. -/
def topGasUptoRow : OpenClaim := { program := "ytchfclmokpbldaagreat", sum := "4d1b15116fd7f80ed94edf00cad3b61acdfeac418690294f9627156b2e7017be", func := "minecontrol/minecontroltop.TopGas", spec := "topGas", unfollowed := true, recurses := true, named := ["math/bits.divideError", "math/bits.overflowError"], apart := false, narrowed := true }
def TopGasUptoSaid : Prop := topGasUptoRow.holds Tryz.pinned (OpenSpec.upto topGasSpec)

end Rows
end Go.Proofs.YtchfclmokpbldaaGreat
