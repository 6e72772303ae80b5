/-
  What the flows are that bounds allow: the shared law of certify.Flows and ref11.Flows. By an AI agent; no person has read it.
-/
import Derived.Test.YtjjfpglgonpciaaCert2
set_option linter.unusedSimpArgs false
set_option linter.unusedVariables false
namespace Go.Proofs.Ytjjfpglgonpciaa
open Go.Aw Go
set_option maxRecDepth 20000
attribute [local irreducible] CJ LJ DJ Tri YV Gives seqK blockK loopK retK RV mergeK OwL.L

def nothingS : XSpan := ⟨-1125899906842624, 1125899906842624⟩
/-- the flows of road k -/
def roadFlow (a : XAir) (s : XSetting) (b : XBounds) (A : List Bool) (k : Nat) : XSpan :=
  if (a.mine.roads.l.getD k default).closed = true then ⟨0, 0⟩
  else if A.getD (a.mine.roads.l.getD k default).fr.toNat false = true then
    ⟨flowLow (innerS a s k) (b.low.l.getD (a.mine.roads.l.getD k default).fr.toNat 0 - b.high.l.getD (a.mine.roads.l.getD k default).to.toNat 0),
     flowHigh (innerS a s k) (b.high.l.getD (a.mine.roads.l.getD k default).fr.toNat 0 - b.low.l.getD (a.mine.roads.l.getD k default).to.toNat 0)⟩
  else nothingS
end Go.Proofs.Ytjjfpglgonpciaa
