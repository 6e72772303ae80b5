/-
  What the flows are that bounds allow: the shared law of certify.Flows and ref11.Flows. By an AI agent; no person has read it.
-/
import Derived.Test.YtlgjgigciapkfaaCert2
set_option linter.unusedSimpArgs false
set_option linter.unusedVariables false
namespace Go.Proofs.Ytlgjgigciapkfaa
open Go.Aw Go
set_option maxRecDepth 20000
attribute [local irreducible] CJ LJ DJ Tri YV Gives seqK blockK loopK retK RV mergeK OwL.L

def nothingS : XSpan := ⟨-1125899906842624, 1125899906842624⟩
/-- the flows of road k -/
def roadFlow (a : XAir) (s : XSetting) (b : XBounds) (A : List Bool) (k : Nat) : XSpan :=
  if (a.mine.roads.l.getD k default).closed = true then ⟨0, 0⟩
  else if A.getD (a.mine.roads.l.getD k default).fr.toNat false = true then
    ⟨flowLow (innerS a s k) (b.low.l.getD (a.mine.roads.l.getD k default).fr.toNat 0 - b.high.l.getD (a.mine.roads.l.getD k default).to.toNat 0),
     flowHigh (innerS a s k) (b.high.l.getD (a.mine.roads.l.getD k default).fr.toNat 0 - b.low.l.getD (a.mine.roads.l.getD k default).to.toNat 0)⟩
  else nothingS
/-- P11.2 -/
def boundFlows (a : XAir) (s : XSetting) (b : XBounds) (A : List Bool) : List XSpan :=
  if checkS a s b A = 0 then (List.range a.mine.roads.l.length).map (roadFlow a s b A) else []

theorem nothing_tri (L : List Blk) (R : List Sl) :
    Tri Try.prog 38 [].toArray L R (fun v L' R' => v = nothingS.val ∧ L = L' ∧ R = R') := by
  refine tri_enter 2 Try.call38 Try.func38 rfl rfl rfl ?_
  refine qae ?_
  refine qaq ?_
  intro b0
  refine qam ?_
  refine qcd ?_
  refine qak ?_
  refine qa0 ?_
  refine q_r (L' := L) (R' := R) (res1 rfl (rv_cell (row := [_, _]) tb rfl rfl rfl (by repeat (first | exact zi0 | apply zi1 | apply zi2)) (by rfl) (by rfl))) ?_
  exact ⟨rfl, rfl, rfl⟩
end Go.Proofs.Ytlgjgigciapkfaa
