/-
  The reference's bounds. By an AI agent; no person has read it.
-/
import Derived.Test.YtlgjgigciapkfaaRelR
set_option linter.unusedSimpArgs false
set_option linter.unusedVariables false
namespace Go.Proofs.Ytlgjgigciapkfaa
open Go.Aw Go
set_option maxRecDepth 20000
attribute [local irreducible] CJ LJ DJ Tri YV Gives seqK blockK loopK retK RV mergeK OwL.L

theorem inB_made {α : Type} {f : α → List Value} {z : List Value} {b n : Nat} {T : TypeId} {x : α} {A : List Blk} (hz : z = f x) : InB ((⟨.own b n [], List.replicate n x⟩ : OwL α).L T f) (⟨b, zrep z n, T⟩ :: A) := by
  rw [made_ow hz A]; exact inB_here
end Go.Proofs.Ytlgjgigciapkfaa
