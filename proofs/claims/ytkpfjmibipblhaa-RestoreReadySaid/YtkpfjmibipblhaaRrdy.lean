/-
  The statement RestoreReady: it returns true for all inputs, and the inputs read as they did. No conditions.
-/
import Derived.Test.YtkpfjmibipblhaaFed
import Derived.Test.YtkpfjmibipblhaaOpenF
import Derived.Test.YtkpfjmibipblhaaRows
set_option linter.unusedSimpArgs false
set_option linter.unusedVariables false
namespace Go.Proofs.Ytkpfjmibipblhaa
open Go.Aw Go
open Go.ChangeShapes Go.WideShapes Go.ChangeAt Go.RowKit
namespace restoreReady

theorem walk (a0 : Arr Int) (a1 : Arr XCut) (a2 : Arr XSpan) (a3 : Int) (a4 : Int) (w : World) (w0 : ∀ n ∈ a0.l, (Lit.int .u8 n).wf = true) (r0 : ∀ s ∈ [bsl a0], Rep w (Old w) s) (w1 : True) (r1 : ∀ s ∈ [cusl a1], Rep w (Old w) s) (w2 : True) (r2 : ∀ s ∈ [spsl a2], Rep w (Old w) s) (w3 : (Lit.int .i64 a3).wf = true) (w4 : (Lit.int .i64 a4).wf = true) :
    Calls Try.prog 5 #[a0.val, a1.val, a2.val, .int .i64 a3, .int .i64 a4] w fun e w' => e = .returned (.bool true) ∧ Below w.heap.size w w' := by
  have h := (restoreReady_law a0 a1 a2 a3 a4 [bsl a0, cusl a1, spsl a2] ⟨inR_self (by simp), fun i b hb => wf_u8 (w0 b (List.mem_of_getElem? hb))⟩ (inR_self (by simp)) (inR_self (by simp)) (wf_i64 w3) (wf_i64 w4)).2 w (Old w) (holds_old fun r hr => by
    simp only [List.mem_cons, List.not_mem_nil, or_false] at hr
    rcases hr with rfl | rfl | rfl
    · exact r0 _ (by simp)
    · exact r1 _ (by simp)
    · exact r2 _ (by simp))
  exact h.mono fun e w' ⟨v, L', R', he, ⟨hv, _, _⟩, hst⟩ => ⟨by rw [he, hv], below_of hst⟩

set_option maxRecDepth 100000 in
theorem lifted (os : Os) (started : os.Started) (H : Type) (enc : TypeId × Value → H) :
    ReturnsInHanded {} Try.checked os 5 .any (Rows.restoreReadySpec.pre6 enc Try.prog Try.f5 Rows.restoreReadyRow.domain false) (Rows.restoreReadySpec.post enc Try.prog Try.f5 false true false false) := by
  refine returnsInHanded_of_change (C := Try.checked) own_knob started (by kernel_rfl) Try.func5
    (ChangeSpec.witness6 (enc := enc) (C := Try.checked) false ⟨#[], #[.slice none 0 0, .slice none 0 0, .slice none 0 0, .int .i64 0, .int .i64 0], []⟩ 8 (by kernel_rfl) (by kernel_rfl) (by kernel_rfl) (by kernel_rfl)) ?_
  intro W base args ds gs before hval0 hW hcnd _
  have hval : ∀ (j : Nat) t v, Try.f5.params[j]? = some t → args[j]? = some v → Value.okWide Try.prog W .any base t v := hval0
  have hW' := hW
  obtain ⟨p, q, hA0, hV, rfl, hfz, hnd⟩ := hW
  have hA : DataW.TrodAll enc Try.prog W 0 (fun _ => true) true Try.f5.params.toList args.toList ds p := hA0
  rw [Try.params5] at hA hval
  obtain ⟨v0, vs0, d0, ds0, p0, q0, hargs, rfl, rfl, h0, t0⟩ := trodAll_cons hA
  obtain ⟨v1, vs1, d1, ds1, p1, q1, rfl, rfl, rfl, h1, t1⟩ := trodAll_cons t0
  obtain ⟨v2, vs2, d2, ds2, p2, q2, rfl, rfl, rfl, h2, t2⟩ := trodAll_cons t1
  obtain ⟨v3, vs3, d3, ds3, p3, q3, rfl, rfl, rfl, h3, t3⟩ := trodAll_cons t2
  obtain ⟨v4, vs4, d4, ds4, p4, q4, rfl, rfl, rfl, h4, t4⟩ := trodAll_cons t3
  obtain ⟨rfl, rfl, rfl⟩ := trodAll_nil t4
  obtain rfl : args = #[v0, v1, v2, v3, v4] := by cases args; simp_all
  obtain ⟨rfl, rfl⟩ := trodVars_none hV
  obtain ⟨x0, y0, z0, rfl⟩ := okWide_slice Try.underlying22 (hval 0 22 v0 rfl rfl)
  have k0 := h0
  have lt0 : ∀ x ∈ p0, x.block < W.heap.size := by obtain ⟨m, hm⟩ := k0; exact DataW.trod_lt m _ _ _ hm
  obtain ⟨a0, e0, w0, r0⟩ : ∃ a : Arr Int, _ := op_bytes W _ (by obtain ⟨m, hm⟩ := h0; exact ⟨_, _, m, _, hm⟩)
  obtain ⟨rfl, rfl, rfl⟩ : x0 = a0.a ∧ y0 = a0.l.length ∧ z0 = a0.cap := by simpa [Value.cells, Arr.val] using e0
  obtain ⟨x1, y1, z1, rfl⟩ := okWide_slice Try.underlying68 (hval 1 68 v1 rfl rfl)
  have k1 := h1
  have lt1 : ∀ x ∈ p1, x.block < W.heap.size := by obtain ⟨m, hm⟩ := k1; exact DataW.trod_lt m _ _ _ hm
  obtain ⟨a1, e1, w1, r1⟩ : ∃ a : Arr XCut, _ := op_cuts W _ (by obtain ⟨m, hm⟩ := h1; exact ⟨_, _, m, _, hm⟩)
  obtain ⟨rfl, rfl, rfl⟩ : x1 = a1.a ∧ y1 = a1.l.length ∧ z1 = a1.cap := by simpa [Value.cells, Arr.val] using e1
  obtain ⟨x2, y2, z2, rfl⟩ := okWide_slice Try.underlying55 (hval 2 55 v2 rfl rfl)
  have k2 := h2
  have lt2 : ∀ x ∈ p2, x.block < W.heap.size := by obtain ⟨m, hm⟩ := k2; exact DataW.trod_lt m _ _ _ hm
  obtain ⟨a2, e2, w2, r2⟩ : ∃ a : Arr XSpan, _ := op_spans W _ (by obtain ⟨m, hm⟩ := h2; exact ⟨_, _, m, _, hm⟩)
  obtain ⟨rfl, rfl, rfl⟩ : x2 = a2.a ∧ y2 = a2.l.length ∧ z2 = a2.cap := by simpa [Value.cells, Arr.val] using e2
  obtain ⟨a3, rfl, rfl, rfl, w3⟩ := open_int Try.underlying3 (hval 3 3 v3 rfl rfl) h3
  obtain ⟨a4, rfl, rfl, rfl, w4⟩ := open_int Try.underlying3 (hval 4 3 v4 rfl rfl) h4
  clear hA0 hval0
  refine (walk a0 a1 a2 a3 a4 W w0 r0 w1 r1 w2 r2 w3 w4).mono fun e W' ⟨he, bel⟩ => ?_
  subst he
  exact ⟨_, rfl, _, _, _, [], _, [], hW', trodAll_mk1 (shut_bool Try.underlying4 _), (trodAll_cons_mk (Below.trod laidOut (by kernel_rfl) (of_decide_eq_true (by kernel_rfl)) k0 bel lt0) (trodAll_cons_mk (Below.trod laidOut (by kernel_rfl) (of_decide_eq_true (by kernel_rfl)) k1 bel lt1) (trodAll_cons_mk (Below.trod laidOut (by kernel_rfl) (of_decide_eq_true (by kernel_rfl)) k2 bel lt2) (trodAll_cons_mk (shut_int Try.underlying3 w3) (trodAll_cons_mk (shut_int Try.underlying3 w4) trodAll_mk0))))), rfl, bel.frame _, fun h => by cases h⟩

set_option maxHeartbeats 1000000 in
theorem over : Rows.restoreReadyRow.holds Try.pinned (OpenSpec.ofChange Rows.restoreReadySpec) := by
  refine OpenClaim.holds_of_wide 5 Try.f5 rfl rfl rfl rfl rfl rfl rfl ⟨rfl, rfl, rfl, rfl, rfl⟩ rfl rfl rfl rfl rfl ?_ Try.func5 ?_ ?_ ?_ (fun os started H enc _ => lifted os started H enc)
  · as_aux_lemma => kernel_rfl
  · as_aux_lemma => kernel_rfl
  · as_aux_lemma => exact of_decide_eq_true (by kernel_rfl)
  · as_aux_lemma => (unfold Func.isWrapper; first | (rw [if_pos (by decide +kernel)]; kernel_rfl) | (rw [if_neg (by decide +kernel)]; exact ⟨rfl, rfl⟩))

end restoreReady

theorem restoreReady_holds : Rows.RestoreReadySaid := restoreReady.over
#print axioms restoreReady_holds
end Go.Proofs.Ytkpfjmibipblhaa
