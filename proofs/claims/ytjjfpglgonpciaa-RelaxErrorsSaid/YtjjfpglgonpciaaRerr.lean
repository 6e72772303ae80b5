/-
  The statement RelaxErrors: it returns true for all inputs, and the inputs read as they did. No conditions.
-/
import Derived.Test.YtjjfpglgonpciaaOpen
import Derived.Test.YtjjfpglgonpciaaLaw12c
import Derived.Test.YtjjfpglgonpciaaRows
set_option linter.unusedSimpArgs false
set_option linter.unusedVariables false
namespace Go.Proofs.Ytjjfpglgonpciaa
open Go.Aw Go
open Go.ChangeShapes Go.WideShapes Go.ChangeAt Go.RowKit
namespace relaxErrors

theorem walk (a0 : XAir) (a1 : XSetting) (a2 : Arr Int) (a3 : Arr Int) (w : World) (w0 : True) (r0 : ∀ s ∈ [psl a0.mine.places, rsl a0.mine.roads, fsl a0.fans, dsl a0.doors], Rep w (Old w) s) (w1 : (∀ n ∈ a1.fans.l, (Lit.int .i64 n).wf = true) ∧ ∀ n ∈ a1.doors.l, (Lit.int .i64 n).wf = true) (r1 : ∀ s ∈ [isl a1.fans, isl a1.doors], Rep w (Old w) s) (w2 : ∀ n ∈ a2.l, (Lit.int .i64 n).wf = true) (r2 : ∀ s ∈ [isl a2], Rep w (Old w) s) (w3 : ∀ n ∈ a3.l, (Lit.int .u8 n).wf = true) (r3 : ∀ s ∈ [bsl a3], Rep w (Old w) s) :
    Calls Try.prog 6 #[a0.val, a1.val, a2.val, a3.val] w fun e w' => e = .returned (.bool true) ∧ Below w.heap.size w w' := by
  have h := (relaxErrors_law a0 a1 a2 a3 [psl a0.mine.places, rsl a0.mine.roads, fsl a0.fans, dsl a0.doors, isl a1.fans, isl a1.doors, isl a2, bsl a3] ⟨inR_self (by simp), inR_self (by simp), inR_self (by simp), inR_self (by simp)⟩ ⟨inR_self (by simp), inR_self (by simp)⟩ (inR_self (by simp)) (fun n hn => wf_i64 (w2 n hn)) ⟨inR_self (by simp), fun i b hb => wf_u8 (w3 b (List.mem_of_getElem? hb))⟩).2 w (Old w) (holds_old fun r hr => by
    simp only [List.mem_cons, List.not_mem_nil, or_false] at hr
    rcases hr with rfl | rfl | rfl | rfl | rfl | rfl | rfl | rfl
    · exact r0 _ (by simp)
    · exact r0 _ (by simp)
    · exact r0 _ (by simp)
    · exact r0 _ (by simp)
    · exact r1 _ (by simp)
    · exact r1 _ (by simp)
    · exact r2 _ (by simp)
    · exact r3 _ (by simp))
  exact h.mono fun e w' ⟨v, L', R', he, ⟨hv, _, _⟩, hst⟩ => ⟨by rw [he, hv], below_of hst⟩

set_option maxRecDepth 100000 in
theorem lifted (os : Os) (started : os.Started) (H : Type) (enc : TypeId × Value → H) :
    ReturnsInHanded {} Try.checked os 6 .any (Rows.relaxErrorsSpec.pre6 enc Try.prog Try.f6 Rows.relaxErrorsRow.domain false) (Rows.relaxErrorsSpec.post enc Try.prog Try.f6 false true false false) := by
  refine returnsInHanded_of_change (C := Try.checked) own_knob started (by kernel_rfl) Try.func6
    (ChangeSpec.witness6 (enc := enc) (C := Try.checked) false ⟨#[], #[.agg #[.slice none 0 0, .slice none 0 0, .slice none 0 0, .slice none 0 0], .agg #[.slice none 0 0, .slice none 0 0], .slice none 0 0, .slice none 0 0], []⟩ 8 (by kernel_rfl) (by kernel_rfl) (by kernel_rfl) (by kernel_rfl)) ?_
  intro W base args ds gs before hval0 hW hcnd _
  have hval : ∀ (j : Nat) t v, Try.f6.params[j]? = some t → args[j]? = some v → Value.okWide Try.prog W .any base t v := hval0
  have hW' := hW
  obtain ⟨p, q, hA0, hV, rfl, hfz, hnd⟩ := hW
  have hA : DataW.TrodAll enc Try.prog W 0 (fun _ => true) true Try.f6.params.toList args.toList ds p := hA0
  rw [Try.params6] at hA hval
  obtain ⟨v0, vs0, d0, ds0, p0, q0, hargs, rfl, rfl, h0, t0⟩ := trodAll_cons hA
  obtain ⟨v1, vs1, d1, ds1, p1, q1, rfl, rfl, rfl, h1, t1⟩ := trodAll_cons t0
  obtain ⟨v2, vs2, d2, ds2, p2, q2, rfl, rfl, rfl, h2, t2⟩ := trodAll_cons t1
  obtain ⟨v3, vs3, d3, ds3, p3, q3, rfl, rfl, rfl, h3, t3⟩ := trodAll_cons t2
  obtain ⟨rfl, rfl, rfl⟩ := trodAll_nil t3
  obtain rfl : args = #[v0, v1, v2, v3] := by cases args; simp_all
  obtain ⟨rfl, rfl⟩ := trodVars_none hV
  obtain ⟨x0, rfl, _⟩ := okWide_struct Try.underlying32 (hval 0 32 v0 rfl rfl)
  have k0 := h0
  have lt0 : ∀ x ∈ p0, x.block < W.heap.size := by obtain ⟨m, hm⟩ := k0; exact DataW.trod_lt m _ _ _ hm
  obtain ⟨a0, e0, w0, r0⟩ : ∃ a : XAir, _ := op_air W _ (by obtain ⟨m, hm⟩ := h0; exact ⟨_, _, m, _, hm⟩)
  obtain rfl : x0 = a0.cells.toArray := by rw [← e0]; simp [Value.cells]
  obtain ⟨x1, rfl, _⟩ := okWide_struct Try.underlying35 (hval 1 35 v1 rfl rfl)
  have k1 := h1
  have lt1 : ∀ x ∈ p1, x.block < W.heap.size := by obtain ⟨m, hm⟩ := k1; exact DataW.trod_lt m _ _ _ hm
  obtain ⟨a1, e1, w1, r1⟩ : ∃ a : XSetting, _ := op_setting W _ (by obtain ⟨m, hm⟩ := h1; exact ⟨_, _, m, _, hm⟩)
  obtain rfl : x1 = a1.cells.toArray := by rw [← e1]; simp [Value.cells]
  obtain ⟨x2, y2, z2, rfl⟩ := okWide_slice Try.underlying33 (hval 2 33 v2 rfl rfl)
  have k2 := h2
  have lt2 : ∀ x ∈ p2, x.block < W.heap.size := by obtain ⟨m, hm⟩ := k2; exact DataW.trod_lt m _ _ _ hm
  obtain ⟨a2, e2, w2, r2⟩ : ∃ a : Arr Int, _ := op_ints W _ (by obtain ⟨m, hm⟩ := h2; exact ⟨_, _, m, _, hm⟩)
  obtain ⟨rfl, rfl, rfl⟩ : x2 = a2.a ∧ y2 = a2.l.length ∧ z2 = a2.cap := by simpa [Value.cells, Arr.val] using e2
  obtain ⟨x3, y3, z3, rfl⟩ := okWide_slice Try.underlying22 (hval 3 22 v3 rfl rfl)
  have k3 := h3
  have lt3 : ∀ x ∈ p3, x.block < W.heap.size := by obtain ⟨m, hm⟩ := k3; exact DataW.trod_lt m _ _ _ hm
  obtain ⟨a3, e3, w3, r3⟩ : ∃ a : Arr Int, _ := op_bytes W _ (by obtain ⟨m, hm⟩ := h3; exact ⟨_, _, m, _, hm⟩)
  obtain ⟨rfl, rfl, rfl⟩ : x3 = a3.a ∧ y3 = a3.l.length ∧ z3 = a3.cap := by simpa [Value.cells, Arr.val] using e3
  clear hA0 hval0
  refine (walk a0 a1 a2 a3 W w0 r0 w1 r1 w2 r2 w3 r3).mono fun e W' ⟨he, bel⟩ => ?_
  subst he
  exact ⟨_, rfl, _, _, _, [], _, [], hW', trodAll_mk1 (shut_bool Try.underlying4 _), (trodAll_cons_mk (Below.trod laidOut (by kernel_rfl) (of_decide_eq_true (by kernel_rfl)) k0 bel lt0) (trodAll_cons_mk (Below.trod laidOut (by kernel_rfl) (of_decide_eq_true (by kernel_rfl)) k1 bel lt1) (trodAll_cons_mk (Below.trod laidOut (by kernel_rfl) (of_decide_eq_true (by kernel_rfl)) k2 bel lt2) (trodAll_cons_mk (Below.trod laidOut (by kernel_rfl) (of_decide_eq_true (by kernel_rfl)) k3 bel lt3) trodAll_mk0)))), rfl, bel.frame _, fun h => by cases h⟩

set_option maxHeartbeats 1000000 in
theorem over : Rows.relaxErrorsRow.holds Try.pinned (OpenSpec.ofChange Rows.relaxErrorsSpec) := by
  refine OpenClaim.holds_of_wide 6 Try.f6 rfl rfl rfl rfl rfl rfl rfl ⟨rfl, rfl, rfl, rfl, rfl⟩ rfl rfl rfl rfl rfl ?_ Try.func6 ?_ ?_ ?_ (fun os started H enc _ => lifted os started H enc)
  · as_aux_lemma => kernel_rfl
  · as_aux_lemma => kernel_rfl
  · as_aux_lemma => exact of_decide_eq_true (by kernel_rfl)
  · as_aux_lemma => (unfold Func.isWrapper; first | (rw [if_pos (by decide +kernel)]; kernel_rfl) | (rw [if_neg (by decide +kernel)]; exact ⟨rfl, rfl⟩))

end relaxErrors

theorem relaxErrors_holds : Rows.RelaxErrorsSaid := relaxErrors.over
#print axioms relaxErrors_holds
end Go.Proofs.Ytjjfpglgonpciaa
