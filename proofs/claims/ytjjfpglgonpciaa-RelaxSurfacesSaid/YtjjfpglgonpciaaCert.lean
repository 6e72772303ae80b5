/-
  Bounds, what certify.Check answers, and the reference's check. By an AI agent; no person has read it.
-/
import Derived.Test.YtjjfpglgonpciaaLost
set_option linter.unusedSimpArgs false
set_option linter.unusedVariables false
namespace Go.Proofs.Ytjjfpglgonpciaa
open Go.Aw Go
set_option maxRecDepth 20000
attribute [local irreducible] CJ LJ DJ Tri YV Gives seqK blockK loopK retK RV mergeK OwL.L

structure XBounds where
  low : Arr Int
  high : Arr Int
structure BoundsR (s : XBounds) (R : List Sl) : Prop where
  low : InR (isl s.low) R
  high : InR (isl s.high) R
end Go.Proofs.Ytjjfpglgonpciaa
