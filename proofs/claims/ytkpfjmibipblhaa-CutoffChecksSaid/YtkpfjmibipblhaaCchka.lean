/-
  The statement CutoffChecks: it returns true for all inputs, and the inputs read as they did. No conditions.
-/
import Derived.Test.YtkpfjmibipblhaaSpans
import Derived.Test.YtkpfjmibipblhaaLaw20g
import Derived.Test.YtkpfjmibipblhaaOpenS
import Derived.Test.YtkpfjmibipblhaaRows
set_option linter.unusedSimpArgs false
set_option linter.unusedVariables false
namespace Go.Proofs.Ytkpfjmibipblhaa
open Go.Aw Go
open Go.ChangeShapes Go.WideShapes Go.ChangeAt Go.RowKit
namespace cutoffChecks

theorem walk (a0 : Arr Int) (a1 : XSite) (a2 : Int) (a3 : Int) (w : World) (w0 : ∀ n ∈ a0.l, (Lit.int .u8 n).wf = true) (r0 : ∀ s ∈ [bsl a0], Rep w (Old w) s) (w1 : True) (r1 : ∀ s ∈ [psl a1.air.mine.places, rsl a1.air.mine.roads, fsl a1.air.fans, dsl a1.air.doors, sesl a1.sensors, cnsl a1.conds, zosl a1.zones, isl a1.persons], Rep w (Old w) s) (w2 : (Lit.int .i64 a2).wf = true) (w3 : (Lit.int .i64 a3).wf = true) :
    Calls Try.prog 3 #[a0.val, a1.val, .int .i64 a2, .int .i64 a3] w fun e w' => e = .returned (.bool true) ∧ Below w.heap.size w w' := by
  have h := (cutoffChecks_law a0 a1 a2 a3 [bsl a0, psl a1.air.mine.places, rsl a1.air.mine.roads, fsl a1.air.fans, dsl a1.air.doors, sesl a1.sensors, cnsl a1.conds, zosl a1.zones, isl a1.persons] ⟨inR_self (by simp), fun i b hb => wf_u8 (w0 b (List.mem_of_getElem? hb))⟩ ⟨⟨inR_self (by simp), inR_self (by simp), inR_self (by simp), inR_self (by simp)⟩, inR_self (by simp), inR_self (by simp), inR_self (by simp), inR_self (by simp)⟩ (wf_i64 w2) (wf_i64 w3)).2 w (Old w) (holds_old fun r hr => by
    simp only [List.mem_cons, List.not_mem_nil, or_false] at hr
    rcases hr with rfl | rfl | rfl | rfl | rfl | rfl | rfl | rfl | rfl
    · exact r0 _ (by simp)
    · exact r1 _ (by simp)
    · exact r1 _ (by simp)
    · exact r1 _ (by simp)
    · exact r1 _ (by simp)
    · exact r1 _ (by simp)
    · exact r1 _ (by simp)
    · exact r1 _ (by simp)
    · exact r1 _ (by simp))
  exact h.mono fun e w' ⟨v, L', R', he, ⟨hv, _, _⟩, hst⟩ => ⟨by rw [he, hv], below_of hst⟩

set_option maxRecDepth 100000 in
theorem lifted (os : Os) (started : os.Started) (H : Type) (enc : TypeId × Value → H) :
    ReturnsInHanded {} Try.checked os 3 .any (Rows.cutoffChecksSpec.pre6 enc Try.prog Try.f3 Rows.cutoffChecksRow.domain false) (Rows.cutoffChecksSpec.post enc Try.prog Try.f3 false true false false) := by
  refine returnsInHanded_of_change (C := Try.checked) own_knob started (by kernel_rfl) Try.func3
    (ChangeSpec.witness6 (enc := enc) (C := Try.checked) false ⟨#[], #[.slice none 0 0, .agg #[.slice none 0 0, .slice none 0 0, .slice none 0 0, .slice none 0 0, .slice none 0 0, .slice none 0 0, .slice none 0 0, .slice none 0 0], .int .i64 0, .int .i64 0], []⟩ 8 (by kernel_rfl) (by kernel_rfl) (by kernel_rfl) (by kernel_rfl)) ?_
  intro W base args ds gs before hval0 hW hcnd _
  have hval : ∀ (j : Nat) t v, Try.f3.params[j]? = some t → args[j]? = some v → Value.okWide Try.prog W .any base t v := hval0
  have hW' := hW
  obtain ⟨p, q, hA0, hV, rfl, hfz, hnd⟩ := hW
  have hA : DataW.TrodAll enc Try.prog W 0 (fun _ => true) true Try.f3.params.toList args.toList ds p := hA0
  rw [Try.params3] at hA hval
  obtain ⟨v0, vs0, d0, ds0, p0, q0, hargs, rfl, rfl, h0, t0⟩ := trodAll_cons hA
  obtain ⟨v1, vs1, d1, ds1, p1, q1, rfl, rfl, rfl, h1, t1⟩ := trodAll_cons t0
  obtain ⟨v2, vs2, d2, ds2, p2, q2, rfl, rfl, rfl, h2, t2⟩ := trodAll_cons t1
  obtain ⟨v3, vs3, d3, ds3, p3, q3, rfl, rfl, rfl, h3, t3⟩ := trodAll_cons t2
  obtain ⟨rfl, rfl, rfl⟩ := trodAll_nil t3
  obtain rfl : args = #[v0, v1, v2, v3] := by cases args; simp_all
  obtain ⟨rfl, rfl⟩ := trodVars_none hV
  obtain ⟨x0, y0, z0, rfl⟩ := okWide_slice Try.underlying22 (hval 0 22 v0 rfl rfl)
  have k0 := h0
  have lt0 : ∀ x ∈ p0, x.block < W.heap.size := by obtain ⟨m, hm⟩ := k0; exact DataW.trod_lt m _ _ _ hm
  obtain ⟨a0, e0, w0, r0⟩ : ∃ a : Arr Int, _ := op_bytes W _ (by obtain ⟨m, hm⟩ := h0; exact ⟨_, _, m, _, hm⟩)
  obtain ⟨rfl, rfl, rfl⟩ : x0 = a0.a ∧ y0 = a0.l.length ∧ z0 = a0.cap := by simpa [Value.cells, Arr.val] using e0
  obtain ⟨x1, rfl, _⟩ := okWide_struct Try.underlying36 (hval 1 36 v1 rfl rfl)
  have k1 := h1
  have lt1 : ∀ x ∈ p1, x.block < W.heap.size := by obtain ⟨m, hm⟩ := k1; exact DataW.trod_lt m _ _ _ hm
  obtain ⟨a1, e1, w1, r1⟩ : ∃ a : XSite, _ := op_site W _ (by obtain ⟨m, hm⟩ := h1; exact ⟨_, _, m, _, hm⟩)
  obtain rfl : x1 = a1.cells.toArray := by rw [← e1]; simp [Value.cells]
  obtain ⟨a2, rfl, rfl, rfl, w2⟩ := open_int Try.underlying3 (hval 2 3 v2 rfl rfl) h2
  obtain ⟨a3, rfl, rfl, rfl, w3⟩ := open_int Try.underlying3 (hval 3 3 v3 rfl rfl) h3
  clear hA0 hval0
  refine (walk a0 a1 a2 a3 W w0 r0 w1 r1 w2 w3).mono fun e W' ⟨he, bel⟩ => ?_
  subst he
  exact ⟨_, rfl, _, _, _, [], _, [], hW', trodAll_mk1 (shut_bool Try.underlying4 _), (trodAll_cons_mk (Below.trod laidOut (by kernel_rfl) (of_decide_eq_true (by kernel_rfl)) k0 bel lt0) (trodAll_cons_mk (Below.trod laidOut (by kernel_rfl) (of_decide_eq_true (by kernel_rfl)) k1 bel lt1) (trodAll_cons_mk (shut_int Try.underlying3 w2) (trodAll_cons_mk (shut_int Try.underlying3 w3) trodAll_mk0)))), rfl, bel.frame _, fun h => by cases h⟩

end cutoffChecks
end Go.Proofs.Ytkpfjmibipblhaa
