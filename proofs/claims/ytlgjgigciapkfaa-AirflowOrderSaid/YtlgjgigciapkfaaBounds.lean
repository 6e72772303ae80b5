/-
  Bounds that are drawn near an air. By an AI agent; no person has read it.
-/
import Derived.Test.YtlgjgigciapkfaaSolveR
import Derived.Test.YtlgjgigciapkfaaLaw10a
import Derived.Test.YtlgjgigciapkfaaMadeB
set_option linter.unusedSimpArgs false
set_option linter.unusedVariables false
namespace Go.Proofs.Ytlgjgigciapkfaa
open Go.Aw Go
set_option maxRecDepth 20000
attribute [local irreducible] CJ LJ DJ Tri YV Gives seqK blockK loopK retK RV mergeK OwL.L

/-- pressures near those of a made state, up to place i -/
structure NearTo (np : Nat) (i : Nat) (l : List Int) : Prop where
  len : l.length = np
  val : ∀ (j : Nat) (p : Int), l[j]? = some p → (-13000 ≤ p ∧ p ≤ 13000) ∧ (i ≤ j → -4000 ≤ p ∧ p ≤ 4000)
end Go.Proofs.Ytlgjgigciapkfaa
