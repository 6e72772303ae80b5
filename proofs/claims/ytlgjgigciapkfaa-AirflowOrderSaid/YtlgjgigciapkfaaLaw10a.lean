/-
  Statements about chapter 10: what they share. By an AI agent; no person has read it.
-/
import Derived.Test.YtlgjgigciapkfaaNets
import Derived.Test.YtlgjgigciapkfaaFits
set_option linter.unusedSimpArgs false
set_option linter.unusedVariables false
namespace Go.Proofs.Ytlgjgigciapkfaa
open Go.Aw Go
set_option maxRecDepth 20000
attribute [local irreducible] CJ LJ DJ Tri YV Gives seqK blockK loopK retK RV mergeK OwL.L

abbrev noSet10 : XSetting := ⟨⟨none, 0, []⟩, ⟨none, 0, []⟩⟩
/-- pressures near those of a made state -/
structure Around (np : Nat) (l : List Int) : Prop where
  len : l.length = np
  val : ∀ p ∈ l, -7000 ≤ p ∧ p ≤ 7000
structure AroundTo (np : Nat) (i : Nat) (l : List Int) : Prop where
  len : l.length = np
  val : ∀ (j : Nat) (p : Int), l[j]? = some p → (-7000 ≤ p ∧ p ≤ 7000) ∧ (i ≤ j → -4000 ≤ p ∧ p ≤ 4000)
end Go.Proofs.Ytlgjgigciapkfaa
