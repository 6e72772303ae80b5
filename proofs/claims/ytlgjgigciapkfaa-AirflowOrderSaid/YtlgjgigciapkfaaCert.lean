/-
  Bounds, what certify.Check answers, and the reference's check. By an AI agent; no person has read it.
-/
import Derived.Test.YtlgjgigciapkfaaLost
set_option linter.unusedSimpArgs false
set_option linter.unusedVariables false
namespace Go.Proofs.Ytlgjgigciapkfaa
open Go.Aw Go
set_option maxRecDepth 20000
attribute [local irreducible] CJ LJ DJ Tri YV Gives seqK blockK loopK retK RV mergeK OwL.L

structure XBounds where
  low : Arr Int
  high : Arr Int
def XBounds.cells (s : XBounds) : List Value := [s.low.val, s.high.val]
abbrev XBounds.val (s : XBounds) : Value := .agg #[s.low.val, s.high.val]
structure BoundsR (s : XBounds) (R : List Sl) : Prop where
  low : InR (isl s.low) R
  high : InR (isl s.high) R
def nodeBad (a : XAir) (s : XSetting) (b : XBounds) (A : List Bool) (i : Nat) : Option Int :=
  if (!(A.getD i false) || (a.mine.places.l.getD i default).surface) = true then (if b.low.l.getD i 0 ≠ 0 ∨ b.high.l.getD i 0 ≠ 0 then some 12 else none)
  else (if lowN a s b.high.l (i : Int) < 0 ∨ 0 < highN a s b.low.l (i : Int) then some 12 else none)
/-- P11.1 -/
def checkS (a : XAir) (s : XSetting) (b : XBounds) (A : List Bool) : Int :=
  if airErr a ≠ 0 then airErr a
  else if fitB a s = false then 21
  else if b.low.l.length ≠ a.mine.places.l.length ∨ b.high.l.length ≠ a.mine.places.l.length then 11
  else if (b.low.l.findSome? presBad).isSome = true ∨ (b.high.l.findSome? presBad).isSome = true then 1
  else ((List.range a.mine.places.l.length).findSome? (nodeBad a s b A)).getD 0

end Go.Proofs.Ytlgjgigciapkfaa
