/-
  From a contract to a statement: the frame. By an AI agent; no person has read it.
-/
import Derived.Test.YtlgjgigciapkfaaDraws
import Derived.ProofKit
import Derived.OpenShut
import Derived.ShutString
import Derived.ChangeOld
import Derived.Below
set_option linter.unusedSimpArgs false
set_option linter.unusedVariables false
namespace Go.Proofs.Ytlgjgigciapkfaa
open Go.Aw Go
open Go.ChangeShapes Go.WideShapes Go.ChangeAt Go.RowKit

theorem own_knob : ownKnob Try.prog.godebug = none := by kernel_rfl
theorem laidOut : laidOutB Try.prog = true := by kernel_rfl

/-- all that is there -/
abbrev Old (W : World) : Nat → Prop := fun b => b < W.heap.size

theorem holds_old {W : World} {R : List Sl} (h : ∀ r ∈ R, Rep W (Old W) r) : Holds [] (Old W) R W :=
  ⟨List.nodup_nil, (fun e he => by cases he), (fun e he => by cases he), (fun _ h => h), h⟩

theorem below_of {W W' : World} {G : Nat → Prop} {L' : List Blk} {R' : List Sl} (h : St ⟨W, inL [], G⟩ L' R' W') : Below W.heap.size W W' :=
  ⟨h.keep.os, h.keep.tape, h.keep.output, h.keep.size, fun k hk => h.keep.block k hk (fun ⟨e, he, _⟩ => by cases he)⟩

theorem wf_u8 {n : Int} (h : (Lit.int .u8 n).wf = true) : 0 ≤ n ∧ n ≤ 255 := by
  simp only [Lit.wf, Bool.and_eq_true, decide_eq_true_eq] at h
  exact h

theorem cell_old {W : World} {a : Addr} {v : Value} (h : W.cell? a = some v) : a.block < W.heap.size := by
  rcases Nat.lt_or_ge a.block W.heap.size with h' | h'
  · exact h'
  · unfold World.cell? at h
    rw [Array.getElem?_eq_none h'] at h
    simp at h

end Go.Proofs.Ytlgjgigciapkfaa
