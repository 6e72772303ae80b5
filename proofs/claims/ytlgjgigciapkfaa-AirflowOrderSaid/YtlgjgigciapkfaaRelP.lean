/-
  Raising and lowering: what they leave. By an AI agent; no person has read it.
-/
import Derived.Test.YtlgjgigciapkfaaNextS
set_option linter.unusedSimpArgs false
set_option linter.unusedVariables false
namespace Go.Proofs.Ytlgjgigciapkfaa
open Go.Aw Go

section
variable {a : XAir} {s : XSetting} {A : List Bool} {l m : List Int} {k : Nat} {v : Int}
end

/-- raised places are no lower, lowered ones no higher; given ones stay -/
structure Moved (a : XAir) (A : List Bool) (up : Bool) (l m : List Int) : Prop where
  len : m.length = l.length
  le : ∀ j : Nat, if up = true then l.getD j 0 ≤ m.getD j 0 else m.getD j 0 ≤ l.getD j 0
  fix : ∀ j : Nat, fixB a A j = true → m.getD j 0 = l.getD j 0
/-- P12: bounds that are found: what one knows of them -/
structure Solved (a : XAir) (s : XSetting) (A : List Bool) (lo hi : List Int) : Prop where
  lok : StartOk a s lo A
  hok : StartOk a s hi A
  le : ∀ i : Nat, lo.getD i 0 ≤ hi.getD i 0
  low : ∀ i : Nat, i < a.mine.places.l.length → ¬ fixB a A i = true → highN a s lo (i : Int) ≤ 0
  high : ∀ i : Nat, i < a.mine.places.l.length → ¬ fixB a A i = true → 0 ≤ lowN a s hi (i : Int)
/-! raising ends at the least -/
/-- pressures at which no place below ground lacks air -/
structure Top (a : XAir) (s : XSetting) (A : List Bool) (P : List Int) : Prop where
  len : P.length = a.mine.places.l.length
  pres : PresOk P
  net : ∀ i : Nat, i < a.mine.places.l.length → ¬ fixB a A i = true → 0 ≤ lowN a s P (i : Int)
end Go.Proofs.Ytlgjgigciapkfaa
