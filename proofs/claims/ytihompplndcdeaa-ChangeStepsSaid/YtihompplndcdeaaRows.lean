/-
  No cell of these rows narrows 'for every input' (looked for: loops, veiled, ifaces, maps, wideKeys, modest, calm, conditions, laid).
  DERIVED. THE GIVEN ROWS OF THIS SEAT. 3 by the template 'for every input the law returns true; each argument reads behind the call as it read before'; 0 by the template 'total and deterministic' (their statements: YtihompplndcdeaaTotals.lean).
  GIVEN WITH THE SEED: the statements are not yours to turn. If you find one false, say at which input.
  Laid BY PROGRAM, IN A SANDBOX (cutbox-rows.mjs): the forced cells as the released guide's own fill.sh prints them over the translation 4a7b6a11b54965f5… (all of the seat's roots in one cut). By AI agents, Wed Nov 11 2026. No macro, syntax, notation, axiom, sorry.
-/
import Derived.Test.YtihompplndcdeaaChecked
import GoSem.Claim
import GoSem.ClaimJoined
import GoSem.ClaimMapViews
import Derived.JoinedTies
import Derived.KernelRfl
namespace Go.Proofs.Ytihompplndcdeaa
/- THE CELL 'sum', in the pinned program and in every row, IS THE sha256 OF THE DUMP (.gsa) THAT YtihompplndcdeaaProg.lean LOADS. Nothing in Lean hashes anything: it is a label: what it is worth is what the hold of that sum in a sandbox is worth. -/
noncomputable def Try.pinned : Pinned := { name := "ytihompplndcdeaa", sum := "4a7b6a11b54965f5afe234a0aa5096153b34e190b87f2083dacc60438c835ef7", checked := Try.checked }
namespace Rows
def none {H : Type} : Left H := { results := [], args := [] }

/-- 'minecontrollaw15.ChangeForesees': WHATEVER THE INPUT: true; the input reads as it did. -/
def changeForeseesSpec : ChangeSpec := { name := "changeForesees", fn := fun _ => fun
  | [d] => { results := [.lit (.bool true)], args := [d] }
  | _ => none }
def changeForeseesRow : OpenClaim := { program := "ytihompplndcdeaa", sum := "4a7b6a11b54965f5afe234a0aa5096153b34e190b87f2083dacc60438c835ef7", func := "minecontrol/minecontrollaw15.ChangeForesees", spec := "changeForesees", unfollowed := true, recurses := true, named := ["math/bits.divideError", "math/bits.overflowError"], apart := false }
def ChangeForeseesSaid : Prop := changeForeseesRow.holds Try.pinned (OpenSpec.ofChange changeForeseesSpec)

/-- ITS FALSE NEIGHBOUR: 'it returns false'. Refute it at one input. -/
def changeForeseesWrong : ChangeSpec := { name := "changeForesees", fn := fun _ => fun
  | [d] => { results := [.lit (.bool false)], args := [d] }
  | _ => none }
def ChangeForeseesWrongFalsely : Prop := changeForeseesRow.holds Try.pinned (OpenSpec.ofChange changeForeseesWrong)

/-- 'minecontrollaw15.ChangeSteps': WHATEVER THE INPUT: true; the input reads as it did. -/
def changeStepsSpec : ChangeSpec := { name := "changeSteps", fn := fun _ => fun
  | [d] => { results := [.lit (.bool true)], args := [d] }
  | _ => none }
def changeStepsRow : OpenClaim := { program := "ytihompplndcdeaa", sum := "4a7b6a11b54965f5afe234a0aa5096153b34e190b87f2083dacc60438c835ef7", func := "minecontrol/minecontrollaw15.ChangeSteps", spec := "changeSteps", unfollowed := true, recurses := true, named := ["math/bits.divideError", "math/bits.overflowError"], apart := false }
def ChangeStepsSaid : Prop := changeStepsRow.holds Try.pinned (OpenSpec.ofChange changeStepsSpec)

/-- ITS FALSE NEIGHBOUR: 'it returns false'. Refute it at one input. -/
def changeStepsWrong : ChangeSpec := { name := "changeSteps", fn := fun _ => fun
  | [d] => { results := [.lit (.bool false)], args := [d] }
  | _ => none }
def ChangeStepsWrongFalsely : Prop := changeStepsRow.holds Try.pinned (OpenSpec.ofChange changeStepsWrong)

/-- 'minecontrollaw15.ChangeNothing': WHATEVER THE INPUT: true; the input reads as it did. -/
def changeNothingSpec : ChangeSpec := { name := "changeNothing", fn := fun _ => fun
  | [d] => { results := [.lit (.bool true)], args := [d] }
  | _ => none }
def changeNothingRow : OpenClaim := { program := "ytihompplndcdeaa", sum := "4a7b6a11b54965f5afe234a0aa5096153b34e190b87f2083dacc60438c835ef7", func := "minecontrol/minecontrollaw15.ChangeNothing", spec := "changeNothing", unfollowed := true, recurses := true, named := ["math/bits.divideError", "math/bits.overflowError"], apart := false }
def ChangeNothingSaid : Prop := changeNothingRow.holds Try.pinned (OpenSpec.ofChange changeNothingSpec)

/-- ITS FALSE NEIGHBOUR: 'it returns false'. Refute it at one input. -/
def changeNothingWrong : ChangeSpec := { name := "changeNothing", fn := fun _ => fun
  | [d] => { results := [.lit (.bool false)], args := [d] }
  | _ => none }
def ChangeNothingWrongFalsely : Prop := changeNothingRow.holds Try.pinned (OpenSpec.ofChange changeNothingWrong)

/- THE SECOND FORM. 'bulk': how many values and letters a reading holds, each counted each time it is reached (what is shared counts as often as it is met; a slice's spare places count too). A statement '..UptoSaid' is the law's where the arguments, and the package variables that the reading takes, are together of bulk at most 1048576: NARROWER than '..Said'. Prove '..Said' where nothing that the law and all that it calls make is longer than what came in: it says more and counts as full. Else prove '..UptoSaid'. A law counts once. -/
mutual
def uptoBulk {H : Type} : DataW H → Nat
  | .lit (.string bytes) => bytes.length + 1
  | .lit _ => 1
  | .nil => 1
  | .ptr d => uptoBulk d + 1
  | .slice elems spare => uptoBulkAll elems + uptoBulkAll spare + 1
  | .agg parts => uptoBulkAll parts + 1
  | .iface _ d => uptoBulk d + 1
  | .map entries => uptoBulkEntries entries + 1
  | .held _ => 1
def uptoBulkAll {H : Type} : List (DataW H) → Nat
  | [] => 0
  | d :: r => uptoBulk d + uptoBulkAll r
def uptoBulkEntries {H : Type} : List (Lit × DataW H) → Nat
  | [] => 0
  | x :: r => uptoBulkEntry x + uptoBulkEntries r
def uptoBulkEntry {H : Type} : Lit × DataW H → Nat
  | (.string bytes, d) => bytes.length + uptoBulk d + 1
  | (_, d) => uptoBulk d + 1
 end
def uptoSmall : (H : Type) → List (DataW H) → Bool := fun _ ds => decide (uptoBulkAll ds ≤ 1048576)
def OpenSpec.upto (s : _root_.Go.ChangeSpec) : _root_.Go.OpenSpec := { _root_.Go.OpenSpec.ofChange s with cond := some uptoSmall }

/-- 'minecontrollaw15.ChangeForesees', WHERE WHAT IT READS IS OF BULK AT MOST 1048576: true; the input reads as it did. -/
def changeForeseesUptoRow : OpenClaim := { program := "ytihompplndcdeaa", sum := "4a7b6a11b54965f5afe234a0aa5096153b34e190b87f2083dacc60438c835ef7", func := "minecontrol/minecontrollaw15.ChangeForesees", spec := "changeForesees", unfollowed := true, recurses := true, named := ["math/bits.divideError", "math/bits.overflowError"], apart := false, narrowed := true }
def ChangeForeseesUptoSaid : Prop := changeForeseesUptoRow.holds Try.pinned (OpenSpec.upto changeForeseesSpec)

/-- 'minecontrollaw15.ChangeSteps', WHERE WHAT IT READS IS OF BULK AT MOST 1048576: true; the input reads as it did. -/
def changeStepsUptoRow : OpenClaim := { program := "ytihompplndcdeaa", sum := "4a7b6a11b54965f5afe234a0aa5096153b34e190b87f2083dacc60438c835ef7", func := "minecontrol/minecontrollaw15.ChangeSteps", spec := "changeSteps", unfollowed := true, recurses := true, named := ["math/bits.divideError", "math/bits.overflowError"], apart := false, narrowed := true }
def ChangeStepsUptoSaid : Prop := changeStepsUptoRow.holds Try.pinned (OpenSpec.upto changeStepsSpec)

/-- 'minecontrollaw15.ChangeNothing', WHERE WHAT IT READS IS OF BULK AT MOST 1048576: true; the input reads as it did. -/
def changeNothingUptoRow : OpenClaim := { program := "ytihompplndcdeaa", sum := "4a7b6a11b54965f5afe234a0aa5096153b34e190b87f2083dacc60438c835ef7", func := "minecontrol/minecontrollaw15.ChangeNothing", spec := "changeNothing", unfollowed := true, recurses := true, named := ["math/bits.divideError", "math/bits.overflowError"], apart := false, narrowed := true }
def ChangeNothingUptoSaid : Prop := changeNothingUptoRow.holds Try.pinned (OpenSpec.upto changeNothingSpec)

end Rows
end Go.Proofs.Ytihompplndcdeaa
