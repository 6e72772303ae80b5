import Derived.Test.YtkpfjmibipblhaaLaw21b
import Derived.Test.YtkpfjmibipblhaaRuleP
import Derived.Test.YtkpfjmibipblhaaFed
import Derived.Test.YtkpfjmibipblhaaEval
import Derived.Test.YtkpfjmibipblhaaEasyR
section
/-
  Statements about chapter 21: whether a zone may have power. By an AI agent; no person has read it.
-/
set_option linter.unusedSimpArgs false
set_option linter.unusedVariables false
namespace Go.Proofs.Ytkpfjmibipblhaa
open Go.Aw Go
set_option maxRecDepth 20000
attribute [local irreducible] CJ LJ DJ Tri YV Gives seqK blockK loopK retK RV mergeK OwL.L
section
variable {A9 B9 : Prop}
theorem ycoaa (a : A9) (h : A9 → B9 := by exact DJ_q (yv_move (show _ = Value.slice _ _ _ from rfl)) rfl rfl rfl) : B9 := h a
theorem ycoab (a : A9) (h : A9 → B9 := by exact DJ_q (yv_loadN (row := [_, _, _, _, _, _, _, _]) tb rfl rfl rfl (by repeat (first | exact zi0 | apply zi1 | apply zi2)) (by rfl) (by rfl)) rfl rfl rfl) : B9 := h a
theorem ycoac (a : A9) (h : A9 → B9 := by exact DJ_q (by first | exact yv_index_ro tb rfl rfl rfl rfl (by first | assumption | exact zr (by simp)) (i := i) (by first | rfl | omega | (simp; omega)) (by omega) | exact yv_index tb rfl rfl rfl rfl (i := i) (by first | rfl | omega | (simp; omega)) (by omega)) rfl rfl rfl) : B9 := h a
theorem ycoad (a : A9) (h : A9 → B9 := by exact LJ_q (by first | exact yv_pick_true rfl rfl | exact yv_pick_false rfl rfl | exact yv_pick rfl) rfl) : B9 := h a
theorem ycoae (a : A9) (h : A9 → B9 := by exact CJ_drawn tb [0, 1, 2, 3, 4, 5, 6, 8, 9, 10, 11, 12, 13, 14, 7, 15, 16, 17] ([Blk.mk b12 _ _]) mixed (by kernel_rfl) (by repeat (first | exact zs0 _ | exact zs1 _ | apply zs2 | apply zs3 | apply zs4 | apply zs5))) : B9 := h a
end
theorem restoreReady_law (y : Arr Int) (raw : Arr XCut) (fl : Arr XSpan) (zone time : Int) (R : List Sl) (hy : CodesR y R) (hraw : InR (cusl raw) R) (hfl : InR (spsl fl) R) (hz : I64 zone) (ht : I64 time) :
    Tri Try.prog 5 [y.val, raw.val, fl.val, .int .i64 zone, .int .i64 time].toArray [] R (fun v L' R' => v = .bool true ∧ [] = L' ∧ R = R') := by
  refine Tri_cap Try.call5 hfl fun hcap => ?_
  refine tri_enter 141 Try.call5 Try.func5 rfl rfl rfl ?_
  refine qae ?_
  refine qaz ?_
  refine qaw ?_
  refine qbm ?_
  refine qag ?_
  refine qa5 ?_
  refine qah ?_
  apply LJ_or (G := [_, _, _]) (j := 3) (cj := 24) rfl rfl (by rfl) rfl (show _ = Value.bool _ from rfl) rfl
  ·
   intro hg4
   replace hg4 := qb hg4
   refine qbm ?_
   refine qag ?_
   refine qa5 ?_
   exact qai
  intro junk4
  refine qaf ?_
  refine q_c (fun hc0 => ?_) (fun hc0 => ?_)
  ·
   refine qae ?_
   refine q_l rfl (awake21_tri _ _) ?_
   refine qaz ?_
   refine qbh ?_
   refine q_b (L' := []) (R' := R) ?_
   exact ⟨rfl, rfl, rfl⟩
  refine qbo ?_
  refine qbm ?_
  refine qag ?_
  refine qaa ?_
  refine qa2 ?_
  refine CJ_forget [(0, Value.slice _ _ _), (1, Value.slice _ _ _), (2, Value.slice _ _ _), (3, Value.int _ _), (4, Value.int _ _), (31, Value.int _ _), (32, Value.int _ _)] (by repeat' (first | exact trivial | refine And.intro rfl ?_)) fun tq0 => ?_
  refine q_s [10, 11, 32, 33, 34, 35, 36, 37, 38, 39, 40, 41, 42, 43, 44, 45, 46, 47, 48, 49, 50, 51, 52, 53, 54, 55, 56, 57, 58, 59, 60, 61, 62, 63] (fun g : {i : Nat // i ≤ fl.l.length ∧ ∀ j : Nat, j < i → -1125899906842624 ≤ (fl.l.getD j default).low ∧ (fl.l.getD j default).low ≤ (fl.l.getD j default).high} => [(32, .int .i64 ((g.1 : Nat) : Int))]) (fun g => fl.l.length - g.1) (⟨0, by omega, fun j hj => by omega⟩) ?_
  rintro ⟨i, hi, hal⟩ junk
  try dsimp only
  refine qae ?_
  refine qaj ?_
  refine qa4 ?_
  refine q_c (fun hc1 => ?_) (fun hc1 => ?_)
  ·
   have hg := get_D (l := fl.l) (k := i) default (by omega)
   refine qbb ?_
   refine qaa ?_
   refine qad ?_
   refine qa4 ?_
   refine CJ_drawn tb [0, 1, 2, 3, 4, 5, 6, 7, 8, 9, 10, 11, 12, 13, 14, 15, 16, 17, 18, 19, 20, 21, 22, 23, 24, 25, 26] ([]) mixed (by kernel_rfl) (by repeat (first | exact zs0 _ | exact zs1 _ | apply zs2 | apply zs3 | apply zs4 | apply zs5)) ?_
   refine ycoaa ?_
   refine qao ?_
   refine ycoac ?_
   refine qce ?_
   refine qbl ?_
   refine DJ_q (yv_lss rfl rfl) rfl rfl rfl ?_
   refine qb2 ?_
   refine DJ_case (k := 41) (show _ = Value.bool _ from rfl) (fun hg6 => ?_) (fun hg6 => ?_)
   ·
    replace hg6 := qb hg6
    iterate 6 refine qap ?_
    refine qbp ?_
    refine qb2 ?_
    iterate 11 refine qap ?_
    refine qbp ?_
    refine qbu ?_
    refine CJ_cond_true rfl ?_
    refine qae ?_
    refine q_l rfl (awake21_tri _ _) ?_
    refine qaz ?_
    refine qbt ?_
    refine q_b (L' := []) (R' := R) ?_
    exact ⟨rfl, rfl, rfl⟩
   replace hg6 := qb hg6
   refine ycoaa ?_
   refine qao ?_
   refine ycoac ?_
   refine qce ?_
   refine qbl ?_
   refine DJ_q (yv_gtr rfl rfl) rfl rfl rfl ?_
   refine qbp ?_
   refine qb2 ?_
   refine DJ_case (k := 49) (show _ = Value.bool _ from rfl) (fun hg14 => ?_) (fun hg14 => ?_)
   ·
    replace hg14 := qb hg14
    iterate 11 refine qap ?_
    refine qbp ?_
    refine qbu ?_
    refine CJ_cond_true rfl ?_
    refine qae ?_
    refine q_l rfl (awake21_tri _ _) ?_
    refine qaz ?_
    refine qbt ?_
    refine q_b (L' := []) (R' := R) ?_
    exact ⟨rfl, rfl, rfl⟩
   replace hg14 := qb hg14
   refine ycoaa ?_
   refine qao ?_
   refine ycoac ?_
   refine qce ?_
   refine qbl ?_
   refine ycoaa ?_
   refine qao ?_
   refine ycoac ?_
   refine qce ?_
   refine qbl ?_
   refine DJ_q (yv_gtr rfl rfl) rfl rfl rfl ?_
   refine qbp ?_
   refine qbu ?_
   refine q_c (fun hc2 => ?_) (fun hc2 => ?_)
   ·
    refine qae ?_
    refine q_l rfl (awake21_tri _ _) ?_
    refine qaz ?_
    refine qbt ?_
    refine q_b (L' := []) (R' := R) ?_
    exact ⟨rfl, rfl, rfl⟩
   refine qbj ?_
   refine qar ?_
   refine qaa ?_
   refine qav ?_
   exact loopK_mk (⟨i + 1, by omega, fun j hj => by
   rcases Nat.lt_or_ge j i with h | h
   · exact hal j h
   · obtain rfl : j = i := by omega
     omega⟩) (by repeat (first | exact Off.refl | apply Off.upd rfl | apply Off.havoc rfl | apply Off.updL rfl | apply Off.left rfl)) (by repeat' (first | exact trivial | refine And.intro rfl ?_)) (by repeat (first | exact zs0 _ | exact zs1 _ | apply zs2 | apply zs3 | apply zs4 | apply zs5)) (allR_self _) (by dsimp only; omega)
  have hfb : ∀ x ∈ fl.l, -4611686018427387904 ≤ x.high := fun x hx => by
    obtain ⟨j, hj, rfl⟩ := List.getElem_of_mem hx
    have := hal j (by omega)
    rw [List.getD_eq_getElem?_getD, List.getElem?_eq_getElem hj] at this
    have e : (some fl.l[j]).getD default = fl.l[j] := rfl
    rw [e] at this
    omega
  refine qbk ?_
  refine qbm ?_
  refine LJ_call rfl (new_tri y _ _ hy) rfl ?_
  rintro v L' R' ⟨c, rfl, hx, rfl, rfl⟩
  refine LJ_call rfl (made21_tri c (codes300 y) 0 _ hx (Nat.zero_le _)) rfl ?_
  rintro v L' R' ⟨s, cu, f3, f, k1, rfl, hD, hk1, ⟨hA, hf, hR0⟩, rfl⟩
  refine qaq ?_
  intro b12
  refine qak ?_
  refine qa4 ?_
  have hRR : ∀ r ∈ R, InR r R' := fun r hr => hR0 r (.tail _ hr)
  have hcn := hD.cuts
  have hnz := hD.nz
  have hB : RestA s raw f3 R' := ⟨hA.site, hraw.mono hRR, hA.flows⟩
  have hC : RestA s cu fl R' := ⟨hA.site, hA.cuts, hfl.mono hRR⟩
  have hf3 : ∀ x ∈ f3.l, -4611686018427387904 ≤ x.high := fun x hx => by have := hD.flow x hx; omega
  refine qay ?_
  refine qaa ?_
  refine qab ?_
  refine qac ?_
  refine qag ?_
  refine qar ?_
  refine q_l rfl (mod_tri zone ((cu.l.length : Int) + 1) _ _ hz (by omega)) ?_
  refine qaa ?_
  refine q_l rfl (mod_tri time 120 _ _ ht (by decide)) ?_
  refine qad ?_
  refine qad ?_
  refine qa4 ?_
  refine CJ_drawn tb [0, 1, 2, 3, 4, 5, 6, 7, 9, 10, 11, 12, 13, 14, 15, 16, 8, 17, 18, 19] ([Blk.mk b12 _ _]) mixed (by kernel_rfl) (by repeat (first | exact zs0 _ | exact zs1 _ | apply zs2 | apply zs3 | apply zs4 | apply zs5)) ?_
  refine qal ?_
  refine ycoab ?_
  refine qal ?_
  refine qat ?_
  refine qal ?_
  refine qat ?_
  refine qao ?_
  refine qao ?_
  refine qal ?_
  refine ycoab ?_
  refine qal ?_
  refine qat ?_
  refine qal ?_
  refine qat ?_
  refine qao ?_
  refine qao ?_
  refine q_d rfl (Ready_tri s cu f3 (modS zone ((cu.l.length : Int) + 1)) (modS time 120) _ _ hA) ?_
  refine q_d rfl (ref21Ready_tri s cu f3 (modS zone ((cu.l.length : Int) + 1)) (modS time 120) _ _ hA hf3) ?_
  refine qcg ?_
  refine qcg ?_
  refine qb9 ?_
  refine ycoae ?_
  refine qal ?_
  refine ycoab ?_
  refine ycoaa ?_
  refine qal ?_
  refine qat ?_
  refine qao ?_
  refine qao ?_
  refine qal ?_
  refine ycoab ?_
  refine ycoaa ?_
  refine qal ?_
  refine qat ?_
  refine qao ?_
  refine qao ?_
  refine q_d rfl (Ready_tri s raw f3 zone time _ _ hB) ?_
  refine q_d rfl (ref21Ready_tri s raw f3 zone time _ _ hB hf3) ?_
  refine qcg ?_
  refine qcg ?_
  refine qb9 ?_
  refine ycoae ?_
  refine qal ?_
  refine ycoab ?_
  refine qal ?_
  refine qat ?_
  refine ycoaa ?_
  refine qao ?_
  refine qao ?_
  refine qal ?_
  refine ycoab ?_
  refine qal ?_
  refine qat ?_
  refine ycoaa ?_
  refine qao ?_
  refine qao ?_
  refine q_d rfl (Ready_tri s cu fl (modS zone ((cu.l.length : Int) + 1)) (modS time 120) _ _ hC) ?_
  refine q_d rfl (ref21Ready_tri s cu fl (modS zone ((cu.l.length : Int) + 1)) (modS time 120) _ _ hC hfb) ?_
  refine qcg ?_
  refine qcg ?_
  refine DJ_nil (seqK_normal (CJ_seq (CJ_region ?_)))
  refine qaa ?_
  refine qaa ?_
  refine qbn ?_
  refine qah ?_
  refine LJ_case (k := 128) (show _ = Value.bool _ from rfl) (fun hg4 => ?_) (fun hg4 => ?_)
  ·
   replace hg4 := qb hg4
   refine LJ_qg (yv_move (show _ = Value.int _ _ from rfl)) rfl rfl ?_
   refine LJ_qg (yv_move (show _ = Value.int _ _ from rfl)) rfl rfl ?_
   refine LJ_qg (yv_eql rfl rfl) rfl rfl ?_
   refine ycoad ?_
   refine qah ?_
   refine LJ_case (k := 133) (show _ = Value.bool _ from rfl) (fun hg9 => ?_) (fun hg9 => ?_)
   ·
    replace hg9 := qb hg9
    refine LJ_qg (yv_move (show _ = Value.int _ _ from rfl)) rfl rfl ?_
    refine LJ_qg (yv_move (show _ = Value.int _ _ from rfl)) rfl rfl ?_
    refine LJ_qg (yv_eql rfl rfl) rfl rfl ?_
    refine ycoad ?_
    refine qah ?_
    refine LJ_case (k := 138) (show _ = Value.bool _ from rfl) (fun hg14 => ?_) (fun hg14 => ?_)
    ·
     replace hg14 := qb hg14
     refine LJ_callg rfl (awake21_tri _ _) rfl rfl ?_
     rintro v L' R' ⟨rfl, rfl, rfl⟩
     refine ycoad ?_
     refine qaz ?_
     refine qa0 ?_
     refine retK_ret (L' := []) (R' := R) (res1 rfl (rv_tmp (show _ = Value.bool _ from rfl))) ?hp ?hL ?hR
     case hp => exact ⟨rfl, rfl, rfl⟩
     case hL => exact (by repeat (first | exact zs0 _ | exact zs1 _ | apply zs2 | apply zs3 | apply zs4 | apply zs5))
     case hR => exact hRR
    replace hg14 := qb hg14
    simp at hg14
   replace hg9 := qb hg9
   simp at hg9
  replace hg4 := qb hg4
  simp at hg4
end Go.Proofs.Ytkpfjmibipblhaa
end
section
/-
  Sites, watches, states of zones as arguments. By an AI agent; no person has read it.
-/
set_option linter.unusedSimpArgs false
set_option linter.unusedVariables false
namespace Go.Proofs.Ytkpfjmibipblhaa
open Go.Aw Go
set_option maxRecDepth 20000
attribute [local irreducible] CJ LJ DJ Tri YV Gives seqK blockK loopK retK RV mergeK OwL.L
theorem op_cut : Opens Try.prog 93 XCut.cells (fun s => []) (fun _ => True) := by
  intro w cs h
  obtain ⟨hl, hf⟩ := rd_struct Try.underlying93 (m := 3) (by kernel_rfl) h
  obtain ⟨c0, c1, c2, rfl⟩ : ∃ c0 c1 c2, cs = [c0, c1, c2] := by match cs, hl with | [c0, c1, c2], _ => exact ⟨c0, c1, c2, rfl⟩
  obtain ⟨a0, e0, k0, r0⟩ := op_bool w [c0] (hf 0 _ 1 rfl (by kernel_rfl))
  obtain ⟨a1, e1, k1, r1⟩ := op_int w [c1] (hf 1 _ 1 rfl (by kernel_rfl))
  obtain ⟨a2, e2, k2, r2⟩ := op_int w [c2] (hf 2 _ 1 rfl (by kernel_rfl))
  cases e0; cases e1; cases e2
  refine ⟨⟨a0, a1, a2⟩, rfl, trivial, ?_⟩
  simp only [List.mem_cons, List.not_mem_nil, or_false, forall_eq_or_imp, forall_eq, List.forall_mem_nil] at r0 r1 r2 ⊢
  simp
theorem op_cuts : Opens Try.prog 68 (fun x : Arr XCut => [x.val]) (fun x => [cusl x]) (fun _ => True) :=
  (opens_slice (wd := 3) Try.underlying68 (by kernel_rfl) (by decide) (fun _ => rfl) op_cut).conv (fun x => by rw [flat_none]) (fun _ _ => trivial)
end Go.Proofs.Ytkpfjmibipblhaa
end
section
/-
  Statements about chapter 13: directions, faces. By an AI agent; no person has read it.
-/
set_option linter.unusedSimpArgs false
set_option linter.unusedVariables false
namespace Go.Proofs.Ytkpfjmibipblhaa
open Go.Aw Go
set_option maxRecDepth 20000
attribute [local irreducible] CJ LJ DJ Tri YV Gives seqK blockK loopK retK RV mergeK OwL.L

end Go.Proofs.Ytkpfjmibipblhaa
end
section
/-
  Spans and faces as arguments. By an AI agent; no person has read it.
-/
set_option linter.unusedSimpArgs false
set_option linter.unusedVariables false
namespace Go.Proofs.Ytkpfjmibipblhaa
open Go.Aw Go
set_option maxRecDepth 20000
attribute [local irreducible] CJ LJ DJ Tri YV Gives seqK blockK loopK retK RV mergeK OwL.L

theorem op_spans : Opens Try.prog 55 (fun x : Arr XSpan => [x.val]) (fun x => [spsl x]) (fun _ => True) :=
  (opens_slice (wd := 2) Try.underlying55 (by kernel_rfl) (by decide) (fun _ => rfl) op_span).conv (fun x => by rw [flat_none]) (fun _ _ => trivial)
end Go.Proofs.Ytkpfjmibipblhaa
end
