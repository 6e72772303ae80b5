/-
  Statements about chapter 11: errors; bounds as arguments. By an AI agent; no person has read it.
-/
import Derived.Test.YtlgjgigciapkfaaLaw11a
import Derived.Test.YtlgjgigciapkfaaOpen
set_option linter.unusedSimpArgs false
set_option linter.unusedVariables false
namespace Go.Proofs.Ytlgjgigciapkfaa
open Go.Aw Go
set_option maxRecDepth 20000
attribute [local irreducible] CJ LJ DJ Tri YV Gives seqK blockK loopK retK RV mergeK OwL.L

/-- a call that is lent own lists, and gives a value -/
theorem Tri.lendU {P : Program} {f : FuncId} {args : Array Value} {A : List Blk} {R S : List Sl} {u : Value}
    (hS : ∀ w, ∀ G : Nat → Prop, Holds (A ++ []) G R w → ∀ s ∈ S, Rep w (fun b => G b ∨ ∃ e ∈ A, e.b = b) s)
    (h : Tri P f args [] (S ++ R) (fun v L' R' => v = u ∧ [] = L' ∧ S ++ R = R')) : Tri P f args A R (fun v L' R' => v = u ∧ A = L' ∧ R = R') := by
  have h2 := Tri.lend (S := S) (Post := fun v L' => v = u ∧ [] = L') (Spl.rest (L := A)) hS (h.mono fun v L' R' ⟨a1, a2, a3⟩ => ⟨⟨a1, a2⟩, a3⟩)
  exact h2.mono fun v L'' R' ⟨L', e, ⟨a1, a2⟩, a3⟩ => ⟨a1, by rw [← a2, List.append_nil] at e; exact e, a3⟩
end Go.Proofs.Ytlgjgigciapkfaa
