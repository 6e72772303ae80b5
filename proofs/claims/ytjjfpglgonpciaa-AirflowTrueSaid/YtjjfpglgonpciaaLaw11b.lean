/-
  Statements about chapter 11: errors; bounds as arguments. By an AI agent; no person has read it.
-/
import Derived.Test.YtjjfpglgonpciaaLaw11a
import Derived.Test.YtjjfpglgonpciaaOpen
set_option linter.unusedSimpArgs false
set_option linter.unusedVariables false
namespace Go.Proofs.Ytjjfpglgonpciaa
open Go.Aw Go
set_option maxRecDepth 20000
attribute [local irreducible] CJ LJ DJ Tri YV Gives seqK blockK loopK retK RV mergeK OwL.L

theorem op_bounds : Opens Try.prog 41 XBounds.cells (fun s => [isl s.low, isl s.high]) (fun s => (∀ n ∈ s.low.l, (Lit.int .i64 n).wf = true) ∧ ∀ n ∈ s.high.l, (Lit.int .i64 n).wf = true) := by
  intro w cs h
  obtain ⟨hl, hf⟩ := rd_struct Try.underlying41 (m := 2) (by kernel_rfl) h
  obtain ⟨c0, c1, rfl⟩ : ∃ c0 c1, cs = [c0, c1] := by match cs, hl with | [c0, c1], _ => exact ⟨c0, c1, rfl⟩
  obtain ⟨a0, e0, k0, r0⟩ := op_ints w [c0] (hf 0 _ 1 rfl (by kernel_rfl))
  obtain ⟨a1, e1, k1, r1⟩ := op_ints w [c1] (hf 1 _ 1 rfl (by kernel_rfl))
  cases e0; cases e1
  refine ⟨⟨a0, a1⟩, rfl, ⟨k0, k1⟩, ?_⟩
  simp only [List.mem_cons, List.not_mem_nil, or_false, forall_eq_or_imp, forall_eq, List.forall_mem_nil] at r0 r1 ⊢
  simp_all

/-- a call that is lent own lists, and gives a value -/
theorem Tri.lendU {P : Program} {f : FuncId} {args : Array Value} {A : List Blk} {R S : List Sl} {u : Value}
    (hS : ∀ w, ∀ G : Nat → Prop, Holds (A ++ []) G R w → ∀ s ∈ S, Rep w (fun b => G b ∨ ∃ e ∈ A, e.b = b) s)
    (h : Tri P f args [] (S ++ R) (fun v L' R' => v = u ∧ [] = L' ∧ S ++ R = R')) : Tri P f args A R (fun v L' R' => v = u ∧ A = L' ∧ R = R') := by
  have h2 := Tri.lend (S := S) (Post := fun v L' => v = u ∧ [] = L') (Spl.rest (L := A)) hS (h.mono fun v L' R' ⟨a1, a2, a3⟩ => ⟨⟨a1, a2⟩, a3⟩)
  exact h2.mono fun v L'' R' ⟨L', e, ⟨a1, a2⟩, a3⟩ => ⟨a1, by rw [← a2, List.append_nil] at e; exact e, a3⟩
theorem spans_own {A : List Blk} {R : List Sl} {p q : OwL XSpan} (hp : InB (p.L 48 XSpan.cells) A) (hq : InB (q.L 48 XSpan.cells) A) (okp : p.ok 2 XSpan.cells) (okq : q.ok 2 XSpan.cells) (he : p.l = q.l) :
    Tri Try.prog 37 [p.val, q.val].toArray A R (fun v L' R' => v = .bool true ∧ A = L' ∧ R = R') :=
  Tri.lendU (S := [spsl p.arr, spsl q.arr]) (fun w G hh s hs => by
    simp only [List.mem_cons, List.not_mem_nil, or_false] at hs
    rcases hs with rfl | rfl
    · exact lend_rep hh hp okp (fun _ => rfl) (by decide) (fun s hs => by cases hs)
    · exact lend_rep hh hq okq (fun _ => rfl) (by decide) (fun s hs => by cases hs)) (spans_tri p.arr q.arr [] _ (inR_self (.head _)) (inR_self (.tail _ (.head _))) he)

theorem airy_ex (m : XMine) : ∃ A, AiryIs m A := by
  refine ⟨(List.range (surf m).length).map fun i => @decide (∃ j : Nat, j < (surf m).length ∧ (surf m).getD j false = true ∧ Conn m j i) (Classical.propDecidable _), by simp, fun i hi => ?_⟩
  rw [List.getD_eq_getElem?_getD, List.getElem?_map, List.getElem?_range hi]
  exact ⟨fun h => @of_decide_eq_true _ (Classical.propDecidable _) h, fun h => @decide_eq_true _ (Classical.propDecidable _) h⟩

end Go.Proofs.Ytjjfpglgonpciaa
