/-
  The reference's raising and lowering. By an AI agent; no person has read it.
-/
import Derived.Test.YtlgjgigciapkfaaNextS
set_option linter.unusedSimpArgs false
set_option linter.unusedVariables false
namespace Go.Proofs.Ytlgjgigciapkfaa
open Go.Aw Go
set_option maxRecDepth 20000
attribute [local irreducible] CJ LJ DJ Tri YV Gives seqK blockK loopK retK RV mergeK OwL.L

abbrev nextV (x : Option Int) : Value := .tuple #[.int .i64 (x.getD 0), .bool x.isSome]
theorem room_ge {ps : List Int} (h : PresOk ps) (up : Bool) (k : Nat) : 0 ≤ room up (ps.getD k 0) := (room_in (h.get k)).1
end Go.Proofs.Ytlgjgigciapkfaa
