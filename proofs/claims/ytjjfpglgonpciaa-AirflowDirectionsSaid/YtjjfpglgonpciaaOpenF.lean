/-
  Spans and faces as arguments. By an AI agent; no person has read it.
-/
import Derived.Test.YtjjfpglgonpciaaLaw13d
import Derived.Test.YtjjfpglgonpciaaOpen
set_option linter.unusedSimpArgs false
set_option linter.unusedVariables false
namespace Go.Proofs.Ytjjfpglgonpciaa
open Go.Aw Go
set_option maxRecDepth 20000
attribute [local irreducible] CJ LJ DJ Tri YV Gives seqK blockK loopK retK RV mergeK OwL.L

theorem op_face : Opens Try.prog 84 XFace.cells (fun s => []) (fun s => (Lit.int .i64 s.road).wf = true ∧ (Lit.int .i64 s.need).wf = true) := by
  intro w cs h
  obtain ⟨hl, hf⟩ := rd_struct Try.underlying84 (m := 2) (by kernel_rfl) h
  obtain ⟨c0, c1, rfl⟩ : ∃ c0 c1, cs = [c0, c1] := by match cs, hl with | [c0, c1], _ => exact ⟨c0, c1, rfl⟩
  obtain ⟨a0, e0, k0, r0⟩ := op_int w [c0] (hf 0 _ 1 rfl (by kernel_rfl))
  obtain ⟨a1, e1, k1, r1⟩ := op_int w [c1] (hf 1 _ 1 rfl (by kernel_rfl))
  cases e0; cases e1
  refine ⟨⟨a0, a1⟩, rfl, ⟨k0, k1⟩, ?_⟩
  simp only [List.mem_cons, List.not_mem_nil, or_false, forall_eq_or_imp, forall_eq, List.forall_mem_nil] at r0 r1 ⊢
  simp
theorem op_faces : Opens Try.prog 81 (fun x : Arr XFace => [x.val]) (fun x => [fcsl x]) (fun _ => True) :=
  (opens_slice (wd := 2) Try.underlying81 (by kernel_rfl) (by decide) (fun _ => rfl) op_face).conv (fun x => by rw [flat_none]) (fun _ _ => trivial)
theorem op_spans : Opens Try.prog 76 (fun x : Arr XSpan => [x.val]) (fun x => [spsl x]) (fun _ => True) :=
  (opens_slice (wd := 2) Try.underlying76 (by kernel_rfl) (by decide) (fun _ => rfl) op_span).conv (fun x => by rw [flat_none]) (fun _ _ => trivial)
end Go.Proofs.Ytjjfpglgonpciaa
