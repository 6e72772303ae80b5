/-
  The statement CertifyErrors: it returns true for all inputs, and the inputs read as they did. No conditions.
-/
import Derived.Test.YtdnhinkamcfpkaaOpen
import Derived.Test.YtdnhinkamcfpkaaLaw11b
import Derived.Test.YtdnhinkamcfpkaaRows
set_option linter.unusedSimpArgs false
set_option linter.unusedVariables false
namespace Go.Proofs.Ytdnhinkamcfpkaa
open Go.Aw Go
open Go.ChangeShapes Go.WideShapes Go.ChangeAt Go.RowKit
namespace certifyErrors

theorem walk (a0 : XAir) (a1 : XSetting) (a2 : XBounds) (w : World) (w0 : True) (r0 : ∀ s ∈ [psl a0.mine.places, rsl a0.mine.roads, fsl a0.fans, dsl a0.doors], Rep w (Old w) s) (w1 : (∀ n ∈ a1.fans.l, (Lit.int .i64 n).wf = true) ∧ ∀ n ∈ a1.doors.l, (Lit.int .i64 n).wf = true) (r1 : ∀ s ∈ [isl a1.fans, isl a1.doors], Rep w (Old w) s) (w2 : (∀ n ∈ a2.low.l, (Lit.int .i64 n).wf = true) ∧ ∀ n ∈ a2.high.l, (Lit.int .i64 n).wf = true) (r2 : ∀ s ∈ [isl a2.low, isl a2.high], Rep w (Old w) s) :
    Calls Try.prog 10 #[a0.val, a1.val, a2.val] w fun e w' => e = .returned (.bool true) ∧ Below w.heap.size w w' := by
  have h := (certifyErrors_law a0 a1 a2 [psl a0.mine.places, rsl a0.mine.roads, fsl a0.fans, dsl a0.doors, isl a1.fans, isl a1.doors, isl a2.low, isl a2.high] ⟨inR_self (by simp), inR_self (by simp), inR_self (by simp), inR_self (by simp)⟩ ⟨inR_self (by simp), inR_self (by simp)⟩ ⟨inR_self (by simp), inR_self (by simp)⟩).2 w (Old w) (holds_old fun r hr => by
    simp only [List.mem_cons, List.not_mem_nil, or_false] at hr
    rcases hr with rfl | rfl | rfl | rfl | rfl | rfl | rfl | rfl
    · exact r0 _ (by simp)
    · exact r0 _ (by simp)
    · exact r0 _ (by simp)
    · exact r0 _ (by simp)
    · exact r1 _ (by simp)
    · exact r1 _ (by simp)
    · exact r2 _ (by simp)
    · exact r2 _ (by simp))
  exact h.mono fun e w' ⟨v, L', R', he, ⟨hv, _, _⟩, hst⟩ => ⟨by rw [he, hv], below_of hst⟩

set_option maxRecDepth 100000 in
theorem lifted (os : Os) (started : os.Started) (H : Type) (enc : TypeId × Value → H) :
    ReturnsInHanded {} Try.checked os 10 .any (Rows.certifyErrorsSpec.pre6 enc Try.prog Try.f10 Rows.certifyErrorsRow.domain false) (Rows.certifyErrorsSpec.post enc Try.prog Try.f10 false true false false) := by
  refine returnsInHanded_of_change (C := Try.checked) own_knob started (by kernel_rfl) Try.func10
    (ChangeSpec.witness6 (enc := enc) (C := Try.checked) false ⟨#[], #[.agg #[.slice none 0 0, .slice none 0 0, .slice none 0 0, .slice none 0 0], .agg #[.slice none 0 0, .slice none 0 0], .agg #[.slice none 0 0, .slice none 0 0]], []⟩ 8 (by kernel_rfl) (by kernel_rfl) (by kernel_rfl) (by kernel_rfl)) ?_
  intro W base args ds gs before hval0 hW hcnd _
  have hval : ∀ (j : Nat) t v, Try.f10.params[j]? = some t → args[j]? = some v → Value.okWide Try.prog W .any base t v := hval0
  have hW' := hW
  obtain ⟨p, q, hA0, hV, rfl, hfz, hnd⟩ := hW
  have hA : DataW.TrodAll enc Try.prog W 0 (fun _ => true) true Try.f10.params.toList args.toList ds p := hA0
  rw [Try.params10] at hA hval
  obtain ⟨v0, vs0, d0, ds0, p0, q0, hargs, rfl, rfl, h0, t0⟩ := trodAll_cons hA
  obtain ⟨v1, vs1, d1, ds1, p1, q1, rfl, rfl, rfl, h1, t1⟩ := trodAll_cons t0
  obtain ⟨v2, vs2, d2, ds2, p2, q2, rfl, rfl, rfl, h2, t2⟩ := trodAll_cons t1
  obtain ⟨rfl, rfl, rfl⟩ := trodAll_nil t2
  obtain rfl : args = #[v0, v1, v2] := by cases args; simp_all
  obtain ⟨rfl, rfl⟩ := trodVars_none hV
  obtain ⟨x0, rfl, _⟩ := okWide_struct Try.underlying33 (hval 0 33 v0 rfl rfl)
  have k0 := h0
  have lt0 : ∀ x ∈ p0, x.block < W.heap.size := by obtain ⟨m, hm⟩ := k0; exact DataW.trod_lt m _ _ _ hm
  obtain ⟨a0, e0, w0, r0⟩ : ∃ a : XAir, _ := op_air W _ (by obtain ⟨m, hm⟩ := h0; exact ⟨_, _, m, _, hm⟩)
  obtain rfl : x0 = a0.cells.toArray := by rw [← e0]; simp [Value.cells]
  obtain ⟨x1, rfl, _⟩ := okWide_struct Try.underlying35 (hval 1 35 v1 rfl rfl)
  have k1 := h1
  have lt1 : ∀ x ∈ p1, x.block < W.heap.size := by obtain ⟨m, hm⟩ := k1; exact DataW.trod_lt m _ _ _ hm
  obtain ⟨a1, e1, w1, r1⟩ : ∃ a : XSetting, _ := op_setting W _ (by obtain ⟨m, hm⟩ := h1; exact ⟨_, _, m, _, hm⟩)
  obtain rfl : x1 = a1.cells.toArray := by rw [← e1]; simp [Value.cells]
  obtain ⟨x2, rfl, _⟩ := okWide_struct Try.underlying63 (hval 2 63 v2 rfl rfl)
  have k2 := h2
  have lt2 : ∀ x ∈ p2, x.block < W.heap.size := by obtain ⟨m, hm⟩ := k2; exact DataW.trod_lt m _ _ _ hm
  obtain ⟨a2, e2, w2, r2⟩ : ∃ a : XBounds, _ := op_bounds W _ (by obtain ⟨m, hm⟩ := h2; exact ⟨_, _, m, _, hm⟩)
  obtain rfl : x2 = a2.cells.toArray := by rw [← e2]; simp [Value.cells]
  clear hA0 hval0
  refine (walk a0 a1 a2 W w0 r0 w1 r1 w2 r2).mono fun e W' ⟨he, bel⟩ => ?_
  subst he
  exact ⟨_, rfl, _, _, _, [], _, [], hW', trodAll_mk1 (shut_bool Try.underlying4 _), (trodAll_cons_mk (Below.trod laidOut (by kernel_rfl) (of_decide_eq_true (by kernel_rfl)) k0 bel lt0) (trodAll_cons_mk (Below.trod laidOut (by kernel_rfl) (of_decide_eq_true (by kernel_rfl)) k1 bel lt1) (trodAll_cons_mk (Below.trod laidOut (by kernel_rfl) (of_decide_eq_true (by kernel_rfl)) k2 bel lt2) trodAll_mk0))), rfl, bel.frame _, fun h => by cases h⟩

theorem over : Rows.certifyErrorsRow.holds Try.pinned (OpenSpec.ofChange Rows.certifyErrorsSpec) :=
  OpenClaim.holds_of_wide 10 Try.f10 rfl rfl rfl rfl rfl rfl rfl ⟨rfl, rfl, rfl, rfl, rfl⟩ rfl rfl rfl rfl rfl (by kernel_rfl) Try.func10 (by kernel_rfl)
    (of_decide_eq_true (by kernel_rfl)) (by unfold Func.isWrapper; first | (rw [if_pos (by decide +kernel)]; kernel_rfl) | (rw [if_neg (by decide +kernel)]; exact ⟨rfl, rfl⟩))
    (fun os started H enc _ => lifted os started H enc)

end certifyErrors

theorem certifyErrors_holds : Rows.CertifyErrorsSaid := certifyErrors.over
#print axioms certifyErrors_holds
end Go.Proofs.Ytdnhinkamcfpkaa
