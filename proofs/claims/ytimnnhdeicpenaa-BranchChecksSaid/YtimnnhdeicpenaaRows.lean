/-
  No cell of these rows narrows 'for every input' (looked for: loops, veiled, ifaces, maps, wideKeys, modest, calm, conditions, laid).
  DERIVED. THE GIVEN ROWS OF THIS SEAT. 7 by the template 'for every input the law returns true; each argument reads behind the call as it read before'; 0 by the template 'total and deterministic' (their statements: YtimnnhdeicpenaaTotals.lean).
  GIVEN WITH THE SEED: the statements are not yours to turn. If you find one false, say at which input.
  Laid BY PROGRAM, IN A SANDBOX (cutbox-rows.mjs): the forced cells as the released guide's own fill.sh prints them over the translation ed1f193299b9371b… (all of the seat's roots in one cut). By AI agents, Wed Nov 11 2026. No macro, syntax, notation, axiom, sorry.
-/
import Derived.Test.YtimnnhdeicpenaaChecked
import GoSem.Claim
import GoSem.ClaimJoined
import GoSem.ClaimMapViews
import Derived.JoinedTies
import Derived.KernelRfl
namespace Go.Proofs.Ytimnnhdeicpenaa
/- THE CELL 'sum', in the pinned program and in every row, IS THE sha256 OF THE DUMP (.gsa) THAT YtimnnhdeicpenaaProg.lean LOADS. Nothing in Lean hashes anything: it is a label: what it is worth is what the hold of that sum in a sandbox is worth. -/
noncomputable def Try.pinned : Pinned := { name := "ytimnnhdeicpenaa", sum := "ed1f193299b9371b6575134a75e317ba0327afa55351e9a2b3ec980251e9c803", checked := Try.checked }
namespace Rows
def none {H : Type} : Left H := { results := [], args := [] }

/-- 'minecontrollaw09.BranchChecks': WHATEVER THE INPUT: true; the input reads as it did. -/
def branchChecksSpec : ChangeSpec := { name := "branchChecks", fn := fun _ => fun
  | [d1, d2, d3, d4] => { results := [.lit (.bool true)], args := [d1, d2, d3, d4] }
  | _ => none }
def branchChecksRow : OpenClaim := { program := "ytimnnhdeicpenaa", sum := "ed1f193299b9371b6575134a75e317ba0327afa55351e9a2b3ec980251e9c803", func := "minecontrol/minecontrollaw09.BranchChecks", spec := "branchChecks", named := ["math/bits.divideError", "math/bits.overflowError"], apart := false }
def BranchChecksSaid : Prop := branchChecksRow.holds Try.pinned (OpenSpec.ofChange branchChecksSpec)

/-- ITS FALSE NEIGHBOUR: 'it returns false'. Refute it at one input. -/
def branchChecksWrong : ChangeSpec := { name := "branchChecks", fn := fun _ => fun
  | [d1, d2, d3, d4] => { results := [.lit (.bool false)], args := [d1, d2, d3, d4] }
  | _ => none }
def BranchChecksWrongFalsely : Prop := branchChecksRow.holds Try.pinned (OpenSpec.ofChange branchChecksWrong)

/-- 'minecontrollaw09.BranchDrops': WHATEVER THE INPUT: true; the input reads as it did. -/
def branchDropsSpec : ChangeSpec := { name := "branchDrops", fn := fun _ => fun
  | [d1, d2, d3] => { results := [.lit (.bool true)], args := [d1, d2, d3] }
  | _ => none }
def branchDropsRow : OpenClaim := { program := "ytimnnhdeicpenaa", sum := "ed1f193299b9371b6575134a75e317ba0327afa55351e9a2b3ec980251e9c803", func := "minecontrol/minecontrollaw09.BranchDrops", spec := "branchDrops", named := ["math/bits.divideError", "math/bits.overflowError"], apart := false }
def BranchDropsSaid : Prop := branchDropsRow.holds Try.pinned (OpenSpec.ofChange branchDropsSpec)

/-- ITS FALSE NEIGHBOUR: 'it returns false'. Refute it at one input. -/
def branchDropsWrong : ChangeSpec := { name := "branchDrops", fn := fun _ => fun
  | [d1, d2, d3] => { results := [.lit (.bool false)], args := [d1, d2, d3] }
  | _ => none }
def BranchDropsWrongFalsely : Prop := branchDropsRow.holds Try.pinned (OpenSpec.ofChange branchDropsWrong)

/-- 'minecontrollaw09.BranchFlows': WHATEVER THE INPUT: true; the input reads as it did. -/
def branchFlowsSpec : ChangeSpec := { name := "branchFlows", fn := fun _ => fun
  | [d1, d2, d3] => { results := [.lit (.bool true)], args := [d1, d2, d3] }
  | _ => none }
def branchFlowsRow : OpenClaim := { program := "ytimnnhdeicpenaa", sum := "ed1f193299b9371b6575134a75e317ba0327afa55351e9a2b3ec980251e9c803", func := "minecontrol/minecontrollaw09.BranchFlows", spec := "branchFlows", named := ["math/bits.divideError", "math/bits.overflowError"], apart := false }
def BranchFlowsSaid : Prop := branchFlowsRow.holds Try.pinned (OpenSpec.ofChange branchFlowsSpec)

/-- ITS FALSE NEIGHBOUR: 'it returns false'. Refute it at one input. -/
def branchFlowsWrong : ChangeSpec := { name := "branchFlows", fn := fun _ => fun
  | [d1, d2, d3] => { results := [.lit (.bool false)], args := [d1, d2, d3] }
  | _ => none }
def BranchFlowsWrongFalsely : Prop := branchFlowsRow.holds Try.pinned (OpenSpec.ofChange branchFlowsWrong)

/-- 'minecontrollaw09.BranchFits': WHATEVER THE INPUT: true; the input reads as it did. -/
def branchFitsSpec : ChangeSpec := { name := "branchFits", fn := fun _ => fun
  | [d1, d2, d3, d4] => { results := [.lit (.bool true)], args := [d1, d2, d3, d4] }
  | _ => none }
def branchFitsRow : OpenClaim := { program := "ytimnnhdeicpenaa", sum := "ed1f193299b9371b6575134a75e317ba0327afa55351e9a2b3ec980251e9c803", func := "minecontrol/minecontrollaw09.BranchFits", spec := "branchFits", named := ["math/bits.divideError", "math/bits.overflowError"], apart := false }
def BranchFitsSaid : Prop := branchFitsRow.holds Try.pinned (OpenSpec.ofChange branchFitsSpec)

/-- ITS FALSE NEIGHBOUR: 'it returns false'. Refute it at one input. -/
def branchFitsWrong : ChangeSpec := { name := "branchFits", fn := fun _ => fun
  | [d1, d2, d3, d4] => { results := [.lit (.bool false)], args := [d1, d2, d3, d4] }
  | _ => none }
def BranchFitsWrongFalsely : Prop := branchFitsRow.holds Try.pinned (OpenSpec.ofChange branchFitsWrong)

/-- 'minecontrollaw09.BranchRises': WHATEVER THE INPUT: true; the input reads as it did. -/
def branchRisesSpec : ChangeSpec := { name := "branchRises", fn := fun _ => fun
  | [d1, d2, d3, d4, d5, d6] => { results := [.lit (.bool true)], args := [d1, d2, d3, d4, d5, d6] }
  | _ => none }
def branchRisesRow : OpenClaim := { program := "ytimnnhdeicpenaa", sum := "ed1f193299b9371b6575134a75e317ba0327afa55351e9a2b3ec980251e9c803", func := "minecontrol/minecontrollaw09.BranchRises", spec := "branchRises", named := ["math/bits.divideError", "math/bits.overflowError"], apart := false }
def BranchRisesSaid : Prop := branchRisesRow.holds Try.pinned (OpenSpec.ofChange branchRisesSpec)

/-- ITS FALSE NEIGHBOUR: 'it returns false'. Refute it at one input. -/
def branchRisesWrong : ChangeSpec := { name := "branchRises", fn := fun _ => fun
  | [d1, d2, d3, d4, d5, d6] => { results := [.lit (.bool false)], args := [d1, d2, d3, d4, d5, d6] }
  | _ => none }
def BranchRisesWrongFalsely : Prop := branchRisesRow.holds Try.pinned (OpenSpec.ofChange branchRisesWrong)

/-- 'minecontrollaw09.BranchHolds': WHATEVER THE INPUT: true; the input reads as it did. -/
def branchHoldsSpec : ChangeSpec := { name := "branchHolds", fn := fun _ => fun
  | [d1, d2, d3] => { results := [.lit (.bool true)], args := [d1, d2, d3] }
  | _ => none }
def branchHoldsRow : OpenClaim := { program := "ytimnnhdeicpenaa", sum := "ed1f193299b9371b6575134a75e317ba0327afa55351e9a2b3ec980251e9c803", func := "minecontrol/minecontrollaw09.BranchHolds", spec := "branchHolds", named := ["math/bits.divideError", "math/bits.overflowError"], apart := false }
def BranchHoldsSaid : Prop := branchHoldsRow.holds Try.pinned (OpenSpec.ofChange branchHoldsSpec)

/-- ITS FALSE NEIGHBOUR: 'it returns false'. Refute it at one input. -/
def branchHoldsWrong : ChangeSpec := { name := "branchHolds", fn := fun _ => fun
  | [d1, d2, d3] => { results := [.lit (.bool false)], args := [d1, d2, d3] }
  | _ => none }
def BranchHoldsWrongFalsely : Prop := branchHoldsRow.holds Try.pinned (OpenSpec.ofChange branchHoldsWrong)

/-- 'minecontrollaw09.BranchDoors': WHATEVER THE INPUT: true; the input reads as it did. -/
def branchDoorsSpec : ChangeSpec := { name := "branchDoors", fn := fun _ => fun
  | [d1, d2, d3, d4, d5] => { results := [.lit (.bool true)], args := [d1, d2, d3, d4, d5] }
  | _ => none }
def branchDoorsRow : OpenClaim := { program := "ytimnnhdeicpenaa", sum := "ed1f193299b9371b6575134a75e317ba0327afa55351e9a2b3ec980251e9c803", func := "minecontrol/minecontrollaw09.BranchDoors", spec := "branchDoors", named := ["math/bits.divideError", "math/bits.overflowError"], apart := false }
def BranchDoorsSaid : Prop := branchDoorsRow.holds Try.pinned (OpenSpec.ofChange branchDoorsSpec)

/-- ITS FALSE NEIGHBOUR: 'it returns false'. Refute it at one input. -/
def branchDoorsWrong : ChangeSpec := { name := "branchDoors", fn := fun _ => fun
  | [d1, d2, d3, d4, d5] => { results := [.lit (.bool false)], args := [d1, d2, d3, d4, d5] }
  | _ => none }
def BranchDoorsWrongFalsely : Prop := branchDoorsRow.holds Try.pinned (OpenSpec.ofChange branchDoorsWrong)

/- THE SECOND FORM. 'bulk': how many values and letters a reading holds, each counted each time it is reached (what is shared counts as often as it is met; a slice's spare places count too). A statement '..UptoSaid' is the law's where the arguments, and the package variables that the reading takes, are together of bulk at most 1048576: NARROWER than '..Said'. Prove '..Said' where nothing that the law and all that it calls make is longer than what came in: it says more and counts as full. Else prove '..UptoSaid'. A law counts once. -/
mutual
def uptoBulk {H : Type} : DataW H → Nat
  | .lit (.string bytes) => bytes.length + 1
  | .lit _ => 1
  | .nil => 1
  | .ptr d => uptoBulk d + 1
  | .slice elems spare => uptoBulkAll elems + uptoBulkAll spare + 1
  | .agg parts => uptoBulkAll parts + 1
  | .iface _ d => uptoBulk d + 1
  | .map entries => uptoBulkEntries entries + 1
  | .held _ => 1
def uptoBulkAll {H : Type} : List (DataW H) → Nat
  | [] => 0
  | d :: r => uptoBulk d + uptoBulkAll r
def uptoBulkEntries {H : Type} : List (Lit × DataW H) → Nat
  | [] => 0
  | x :: r => uptoBulkEntry x + uptoBulkEntries r
def uptoBulkEntry {H : Type} : Lit × DataW H → Nat
  | (.string bytes, d) => bytes.length + uptoBulk d + 1
  | (_, d) => uptoBulk d + 1
 end
def uptoSmall : (H : Type) → List (DataW H) → Bool := fun _ ds => decide (uptoBulkAll ds ≤ 1048576)
def OpenSpec.upto (s : _root_.Go.ChangeSpec) : _root_.Go.OpenSpec := { _root_.Go.OpenSpec.ofChange s with cond := some uptoSmall }

/-- 'minecontrollaw09.BranchChecks', WHERE WHAT IT READS IS OF BULK AT MOST 1048576: true; the input reads as it did. -/
def branchChecksUptoRow : OpenClaim := { program := "ytimnnhdeicpenaa", sum := "ed1f193299b9371b6575134a75e317ba0327afa55351e9a2b3ec980251e9c803", func := "minecontrol/minecontrollaw09.BranchChecks", spec := "branchChecks", named := ["math/bits.divideError", "math/bits.overflowError"], apart := false, narrowed := true }
def BranchChecksUptoSaid : Prop := branchChecksUptoRow.holds Try.pinned (OpenSpec.upto branchChecksSpec)

/-- 'minecontrollaw09.BranchDrops', WHERE WHAT IT READS IS OF BULK AT MOST 1048576: true; the input reads as it did. -/
def branchDropsUptoRow : OpenClaim := { program := "ytimnnhdeicpenaa", sum := "ed1f193299b9371b6575134a75e317ba0327afa55351e9a2b3ec980251e9c803", func := "minecontrol/minecontrollaw09.BranchDrops", spec := "branchDrops", named := ["math/bits.divideError", "math/bits.overflowError"], apart := false, narrowed := true }
def BranchDropsUptoSaid : Prop := branchDropsUptoRow.holds Try.pinned (OpenSpec.upto branchDropsSpec)

/-- 'minecontrollaw09.BranchFlows', WHERE WHAT IT READS IS OF BULK AT MOST 1048576: true; the input reads as it did. -/
def branchFlowsUptoRow : OpenClaim := { program := "ytimnnhdeicpenaa", sum := "ed1f193299b9371b6575134a75e317ba0327afa55351e9a2b3ec980251e9c803", func := "minecontrol/minecontrollaw09.BranchFlows", spec := "branchFlows", named := ["math/bits.divideError", "math/bits.overflowError"], apart := false, narrowed := true }
def BranchFlowsUptoSaid : Prop := branchFlowsUptoRow.holds Try.pinned (OpenSpec.upto branchFlowsSpec)

/-- 'minecontrollaw09.BranchFits', WHERE WHAT IT READS IS OF BULK AT MOST 1048576: true; the input reads as it did. -/
def branchFitsUptoRow : OpenClaim := { program := "ytimnnhdeicpenaa", sum := "ed1f193299b9371b6575134a75e317ba0327afa55351e9a2b3ec980251e9c803", func := "minecontrol/minecontrollaw09.BranchFits", spec := "branchFits", named := ["math/bits.divideError", "math/bits.overflowError"], apart := false, narrowed := true }
def BranchFitsUptoSaid : Prop := branchFitsUptoRow.holds Try.pinned (OpenSpec.upto branchFitsSpec)

/-- 'minecontrollaw09.BranchRises', WHERE WHAT IT READS IS OF BULK AT MOST 1048576: true; the input reads as it did. -/
def branchRisesUptoRow : OpenClaim := { program := "ytimnnhdeicpenaa", sum := "ed1f193299b9371b6575134a75e317ba0327afa55351e9a2b3ec980251e9c803", func := "minecontrol/minecontrollaw09.BranchRises", spec := "branchRises", named := ["math/bits.divideError", "math/bits.overflowError"], apart := false, narrowed := true }
def BranchRisesUptoSaid : Prop := branchRisesUptoRow.holds Try.pinned (OpenSpec.upto branchRisesSpec)

/-- 'minecontrollaw09.BranchHolds', WHERE WHAT IT READS IS OF BULK AT MOST 1048576: true; the input reads as it did. -/
def branchHoldsUptoRow : OpenClaim := { program := "ytimnnhdeicpenaa", sum := "ed1f193299b9371b6575134a75e317ba0327afa55351e9a2b3ec980251e9c803", func := "minecontrol/minecontrollaw09.BranchHolds", spec := "branchHolds", named := ["math/bits.divideError", "math/bits.overflowError"], apart := false, narrowed := true }
def BranchHoldsUptoSaid : Prop := branchHoldsUptoRow.holds Try.pinned (OpenSpec.upto branchHoldsSpec)

/-- 'minecontrollaw09.BranchDoors', WHERE WHAT IT READS IS OF BULK AT MOST 1048576: true; the input reads as it did. -/
def branchDoorsUptoRow : OpenClaim := { program := "ytimnnhdeicpenaa", sum := "ed1f193299b9371b6575134a75e317ba0327afa55351e9a2b3ec980251e9c803", func := "minecontrol/minecontrollaw09.BranchDoors", spec := "branchDoors", named := ["math/bits.divideError", "math/bits.overflowError"], apart := false, narrowed := true }
def BranchDoorsUptoSaid : Prop := branchDoorsUptoRow.holds Try.pinned (OpenSpec.upto branchDoorsSpec)

end Rows
end Go.Proofs.Ytimnnhdeicpenaa
