import Derived.Test.YtkpfjmibipblhaaRefA
import Derived.Test.YtkpfjmibipblhaaEval
import Derived.Test.YtkpfjmibipblhaaCutP
import Derived.Test.YtkpfjmibipblhaaSiteS
import Derived.Test.YtkpfjmibipblhaaCutC
import Derived.Test.YtkpfjmibipblhaaLaw20b
section
/-
  The values of conditions, the reference's. By an AI agent; no person has read it.
-/
set_option linter.unusedSimpArgs false
set_option linter.unusedVariables false
namespace Go.Proofs.Ytkpfjmibipblhaa
open Go.Aw Go
section
variable {A9 B9 : Prop}
theorem ycaaa (a : A9) (h : A9 → B9 := by exact DJ3_q (yv_loadN (row := [_, _, _]) tb rfl rfl rfl (by repeat (first | exact zi0 | apply zi1 | apply zi2)) (by rfl) (by rfl)) rfl rfl rfl rfl) : B9 := h a
theorem ycaab (a : A9) (h : A9 → B9 := by exact DJ3_q (yv_assign (show _ = Value.int _ _ from rfl)) rfl rfl rfl rfl) : B9 := h a
theorem ycaac (a : A9) (h : A9 → B9 := by exact CJ_drawn2 tb [] [0, 1] [2, 3] ([Blk.mk b16 _ _]) _ mixed (by kernel_rfl) (by repeat (first | exact zs0 _ | exact zs1 _ | apply zs2 | apply zs3 | apply zs4 | apply zs5)) (List.nil_sublist _)) : B9 := h a
theorem ycaad (a : A9) (h : A9 → B9 := by exact DJ3_q (yv_loadN (row := [_, _]) tb rfl rfl rfl (by repeat (first | exact zi0 | apply zi1 | apply zi2)) (by rfl) (by rfl)) rfl rfl rfl rfl) : B9 := h a
theorem ycaae (a : A9) (h : A9 → B9 := by exact CJ_drawn2 tb [] [0, 1] [2, 3] ([Blk.mk b8 _ _]) _ mixed (by kernel_rfl) (by repeat (first | exact zs0 _ | exact zs1 _ | apply zs2 | apply zs3 | apply zs4 | apply zs5)) (List.nil_sublist _)) : B9 := h a
theorem ycaaf (a : A9) (h : A9 → B9 := by exact LJ_q (yv_loadN (row := [_, _, _]) tb rfl rfl rfl (by repeat (first | exact zi0 | apply zi1 | apply zi2)) (by rfl) (by rfl)) rfl) : B9 := h a
end
theorem refFed_own {A : List Blk} {R : List Sl} {b : Nat} {T : TypeId} {f : XFace} {fl : Arr XSpan} (hin : (⟨b, XFace.cells f, T⟩ : Blk) ∈ A) (hfl : InR (spsl fl) R) (hn : -4611686018427387904 ≤ f.need ∧ f.need ≤ 4611686018427387904) (hflen : fl.l.length ≤ 1000) :
    Tri Try.prog 108 [fl.val, .slice (some ⟨b, 0, none⟩) 1 1].toArray A R (fun w L' R' => ∃ p : OwL Int, w = p.val ∧ p.ok 1 icell ∧ p.l = [fedAt fl.l f] ∧ A ++ (p.L 3 icell ++ []) = L' ∧ R = R') := by
  have h2 := Tri.lend (S := [fcsl (⟨some ⟨b, 0, none⟩, 1, [f]⟩ : Arr XFace)]) (Post := fun v L' => ∃ p : OwL Int, v = p.val ∧ p.ok 1 icell ∧ p.l = [fedAt fl.l f] ∧ p.L 3 icell ++ [] = L') (Spl.rest (L := A)) (fun w G hh s hs => by
    rw [List.mem_singleton.1 hs]
    exact lend_rep (p := (⟨.own b 1 [], [f]⟩ : OwL XFace)) (T := T) hh (fun e he => by
      have he' : e ∈ [(⟨b, XFace.cells f, T⟩ : Blk)] := by simpa [OwL.L, Ow.L] using he
      rw [List.mem_singleton.1 he']; exact hin) (built_ok (fun _ => rfl) rfl (by decide)) (fun _ => rfl) (by decide) (fun s hs => by cases hs))
    ((refFedL_tri fl ⟨some ⟨b, 0, none⟩, 1, [f]⟩ [] _ (hfl.mono fun r h => inR_self (.tail _ h)) (inR_self (.head _)) (fun z hz => by rw [List.mem_singleton.1 hz]; exact hn) (show 1 ≤ 1000 by decide) hflen).mono fun v L' R' ⟨p, h1, h2, h3, h4, h5⟩ => ⟨⟨p, h1, h2, h3.trans fed_one, h4⟩, h5⟩)
  exact h2.mono fun v L'' R' ⟨L', e, ⟨p, h1, h2, h3, h4⟩, h5⟩ => ⟨p, h1, h2, h3, by rw [h4]; exact e, h5⟩
theorem valueV_eq {S : List XSens} {m : List XMeas} {fl : List XSpan} {c : XCond} {w : XWatch} {t : Int} {X : XSpan} (hX : X = knownS S m c.target t) : valueV S m fl c w t =
    if c.kind = 5 then -(fedAt fl ⟨c.target, c.value⟩) else if c.kind = 2 then -(aboveS X c.value) else if c.kind = 3 then stoppedS X else if c.kind = 4 then (if X = nothingS then 1 else -1)
    else if (stepTo c.level w X t).over = false then -1 else if aboveS X c.level.cut = 1 then 1 else 0 := by rw [valueV, ← hX]
set_option maxRecDepth 20000
attribute [local irreducible] CJ LJ DJ Tri YV Gives seqK blockK loopK retK RV mergeK OwL.L
theorem refValueC_tri (s : XSite) (c : XCond) (w : XWatch) (m : Arr XMeas) (fl : Arr XSpan) (t : Int) (L : List Blk) (R : List Sl) (hs : InR (sesl s.sensors) R) (hm : InR (mesl m) R) (hfl : InR (spsl fl) R) (hok : ∀ x ∈ m.l, MeasOk x) (ht : 0 ≤ t ∧ t ≤ 2147483648)
    (hk : 1 ≤ c.kind ∧ c.kind ≤ 5) (hv : 0 ≤ c.value ∧ c.value ≤ 1099511627776) (hfn : fl.l.length ≤ 1000) :
    Tri Try.prog 73 [s.val, c.val, w.val, m.val, fl.val, .int .i64 t].toArray L R
      (fun v L' R' => v = .tuple #[.int .i64 (if valueE c w t = 0 then valueV s.sensors.l m.l fl.l c w t else 0), (if valueE c w t = 0 then valueW s.sensors.l m.l c w t else w).val, .int .i64 (valueE c w t)] ∧ L = L' ∧ R = R') := by
  obtain ⟨X, hX⟩ : ∃ X, X = knownS s.sensors.l m.l c.target t := ⟨_, rfl⟩
  have hvv := valueV_eq (fl := fl.l) (w := w) hX
  have hvw : valueW s.sensors.l m.l c w t = if c.kind = 1 then stepTo c.level w X t else w := by rw [valueW, hX]
  have hve : valueE c w t = if c.kind = 1 then stepErr c.level w t else 0 := rfl
  refine tri_enter 86 Try.call73 Try.func73 rfl rfl rfl ?_
  refine qae ?_
  refine qax ?_
  intro b6
  refine qax ?_
  intro b7
  refine qax ?_
  intro b8
  refine qad ?_
  refine qaq ?_
  intro b13
  refine qad ?_
  refine qaw ?_
  refine qab ?_
  refine qac ?_
  refine qbn ?_
  refine qaf ?_
  refine q_c (fun hc0 => ?_) (fun hc0 => ?_)
  ·
   have he0 : valueE c w t = 0 := by rw [hve, if_neg (by omega)]
   have hfb : -1 ≤ fedAt fl.l ⟨c.target, c.value⟩ ∧ fedAt fl.l ⟨c.target, c.value⟩ ≤ 1 := by rw [fedAt, fedS]; (repeat' split) <;> omega
   refine CJ_seq ?_
   refine CJ_tree tb [] [0, 1, 2, 3, 4, 5, 11, 6, 7, 8, 9, 10, 12] [13, 14] ([Blk.mk b8 _ _, Blk.mk b7 _ _]) [] 13 mixed (by kernel_rfl) rfl rfl (by repeat (first | exact zs0 _ | exact zs1 _ | apply zs2 | apply zs3 | apply zs4 | apply zs5)) fun hT2 => ?_
   refine WZ_q 0 hT2 (List.nil_sublist _) (by kernel_rfl) rfl rfl rfl rfl rfl (yv_move (show _ = Value.slice _ _ _ from rfl)) ?_
   refine WZ_q 1 hT2 (List.nil_sublist _) (by kernel_rfl) rfl rfl rfl rfl rfl (yv_field tb rfl rfl rfl) ?_
   refine WZ_q 2 hT2 (List.nil_sublist _) (by kernel_rfl) rfl rfl rfl rfl rfl (yv_load1 tb rfl rfl rfl (by repeat (first | exact zi0 | apply zi1 | apply zi2)) (by rfl)) ?_
   refine WZ_q 3 hT2 (List.nil_sublist _) (by kernel_rfl) rfl rfl rfl rfl rfl (yv_field tb rfl rfl rfl) ?_
   refine WZ_q 4 hT2 (List.nil_sublist _) (by kernel_rfl) rfl rfl rfl rfl rfl (yv_load1 tb rfl rfl rfl (by repeat (first | exact zi0 | apply zi1 | apply zi2)) (by rfl)) ?_
   refine WZ_q 5 hT2 (List.nil_sublist _) (by kernel_rfl) rfl rfl rfl rfl rfl (yv_build (qs := [(0, (Value.int _ _).cells.toList), (1, (Value.int _ _).cells.toList)]) (out := [_, _]) tb rfl rfl rfl rfl) ?_
   refine WZ_q 11 hT2 (List.nil_sublist _) (by kernel_rfl) rfl rfl rfl rfl rfl (yv_loadN (row := [_, _, _]) tb rfl rfl rfl (by repeat (first | exact zi0 | apply zi1 | apply zi2)) (by rfl) (by rfl)) ?_
   refine WZ_branch [6] hT2 (List.nil_sublist _) (by kernel_rfl) ?_
   refine qca ?_
   refine WStep_g rfl (gives_buildSlice (qs := [(0, (Value.agg _).cells.toList)]) (out := [_, _]) tb rfl rfl rfl rfl rfl rfl rfl) rfl rfl ?_
   rintro v L' R' ⟨b27, rfl, rfl, hR27⟩
   replace hR27 := hR27.symm; subst hR27
   refine qa1 ?_
   refine WZ_branch [7] hT2 (List.nil_sublist _) (by kernel_rfl) ?_
   refine qca ?_
   refine WStep_g rfl (gives_callL rfl (refFed_own (f := ⟨c.target, c.value⟩) (.head _) hfl (by dsimp only; omega) hfn)) rfl rfl ?_
   rintro v L' R' ⟨p, rfl, hpk, hpl, rfl, rfl⟩
   refine qas ?_
   simp only [List.append_assoc, List.cons_append, List.nil_append]
   have hp0 : p.l[0]? = some (fedAt fl.l ⟨c.target, c.value⟩) := by rw [hpl]; rfl
   have hpn : p.l.length = 1 := by rw [hpl]; rfl
   refine WZ_branch [8] hT2 (List.nil_sublist _) (by kernel_rfl) ?_
   refine qca ?_
   refine WStep_g rfl (Go.Proofs.Ytkpfjmibipblhaa.YV.gives2 (yv_index_ow tb (p) _ rfl rfl rfl rfl (by assumption) (i := 0) (by first | rfl | omega | (simp; omega)) (by first | omega | (dsimp only; omega) | (dsimp only; rw [List.length_set]; omega) | (dsimp only; simp only [List.length_set]; omega)))) rfl rfl ?_
   rintro v L' R' ⟨rfl, rfl, rfl⟩
   refine qa1 ?_
   refine WZ_branch [9] hT2 (List.nil_sublist _) (by kernel_rfl) ?_
   refine qca ?_
   refine WStep_g rfl (Go.Proofs.Ytkpfjmibipblhaa.YV.gives2 (yv_load1_ow tb (p) rfl rfl rfl (by repeat (first | apply OSeg.cons | exact OSeg.here | exact OSeg.last | exact OSeg.at (by assumption) | apply OSeg.app)) (by assumption) (fun _ => rfl) (by assumption) (by rfl))) rfl rfl ?_
   rintro v L' R' ⟨rfl, rfl, rfl⟩
   refine qa1 ?_
   refine WZ_q 10 hT2 (List.nil_sublist _) (by kernel_rfl) rfl rfl rfl rfl rfl (yv_neg64 rfl (by omega) (by omega)) ?_
   refine WZ_q 12 hT2 (List.nil_sublist _) (by kernel_rfl) rfl rfl rfl rfl rfl (yv_assign (show _ = Value.int _ _ from rfl)) ?_
   refine WZ_endL hT2 (List.nil_sublist _) (by kernel_rfl) rfl ?_
   refine qbg ?_
   refine qcg ?_
   refine DJ_nil (seqK_normal (CJ_ret (seqK_ret ?_)))
   refine retK_ret (L' := L) (R' := R) (res3 rfl (rv_tmp (show _ = Value.int _ _ from rfl)) (rv_cell (row := [_, _, _]) tb rfl rfl rfl (by repeat (first | exact zi0 | apply zi1 | apply zi2)) (by rfl) (by rfl)) (rv_tmp (show _ = Value.int _ _ from rfl))) ?hp ?hL ?hR
   case hp => exact ⟨by rw [if_pos he0, if_pos he0, he0, hvw, if_neg (by omega), hvv, if_pos hc0], rfl, rfl⟩
   case hL => exact (by repeat (first | exact List.sublist_append_left _ _ | apply zs3))
   case hR => exact allR_self _
  refine qbv ?_
  refine LJ_q (yv_loadN (row := [_, _, _, _, _, _, _, _]) tb rfl rfl rfl (by repeat (first | exact zi0 | apply zi1 | apply zi2)) (by rfl) (by rfl)) rfl ?_
  refine qbm ?_
  refine qab ?_
  refine qac ?_
  refine qaa ?_
  refine q_l rfl (refKnown_tri s m c.target t _ _ hs hm hok ht) ?_
  rw [← hX]
  refine qaq ?_
  intro b15
  refine qak ?_
  refine qaw ?_
  refine qab ?_
  refine qac ?_
  refine LJ_nil (seqK_normal (CJ_block (CJ_seq (CJ_region ?_))))
  refine qbn ?_
  refine qaz ?_
  refine qaf ?_
  refine q_c (fun hc1 => ?_) (fun hc1 => ?_)
  ·
   refine CJ_seq ?_
   refine CJ_drawn2 tb [] [0, 1, 2, 5, 3, 4, 6] [7, 8] ([Blk.mk b15 _ _, Blk.mk b8 _ _, Blk.mk b7 _ _]) _ mixed (by kernel_rfl) (by repeat (first | exact zs0 _ | exact zs1 _ | apply zs2 | apply zs3 | apply zs4 | apply zs5)) (List.nil_sublist _) ?_
   refine ycaad ?_
   refine qan ?_
   refine qau ?_
   refine ycaaa ?_
   refine DJ3_call rfl (refAbove_tri X c.value _ _) rfl rfl ?_
   rintro v L' R' ⟨rfl, rfl, rfl⟩
   refine qas ?_
   have hab : -1 ≤ aboveS X c.value ∧ aboveS X c.value ≤ 1 := by rw [aboveS]; (repeat' split) <;> omega
   refine DJ3_q (yv_neg64 rfl (by omega) (by omega)) rfl rfl rfl rfl ?_
   refine ycaab ?_
   refine qba ?_
   refine qbg ?_
   refine qcg ?_
   refine DJ_nil (seqK_normal (CJ_ret (blockK_ret (seqK_ret ?_))))
   refine q_r (L' := L) (R' := R) (res3 rfl (rv_tmp (show _ = Value.int _ _ from rfl)) (rv_cell (row := [_, _, _]) tb rfl rfl rfl (by repeat (first | exact zi0 | apply zi1 | apply zi2)) (by rfl) (by rfl)) (rv_tmp (show _ = Value.int _ _ from rfl))) ?_
   have he0 : valueE c w t = 0 := by rw [hve, if_neg (by omega)]
   exact ⟨by rw [if_pos he0, if_pos he0, he0, hvw, if_neg (by omega), hvv, if_neg hc0, if_pos hc1], rfl, rfl⟩
  refine qae ?_
  refine qbn ?_
  refine qaz ?_
  refine qaf ?_
  refine q_c (fun hc2 => ?_) (fun hc2 => ?_)
  ·
   refine CJ_seq ?_
   refine CJ_drawn2 tb [] [0, 2, 1, 3] [4, 5] ([Blk.mk b15 _ _, Blk.mk b8 _ _]) _ mixed (by kernel_rfl) (by repeat (first | exact zs0 _ | exact zs1 _ | apply zs2 | apply zs3 | apply zs4 | apply zs5)) (List.nil_sublist _) ?_
   refine ycaad ?_
   refine ycaaa ?_
   refine DJ3_call rfl (refStopped_tri X _ _) rfl rfl ?_
   rintro v L' R' ⟨rfl, rfl, rfl⟩
   refine qas ?_
   refine ycaab ?_
   refine qba ?_
   refine qbg ?_
   refine qcg ?_
   refine DJ_nil (seqK_normal (CJ_ret (blockK_ret (seqK_ret ?_))))
   refine q_r (L' := L) (R' := R) (res3 rfl (rv_tmp (show _ = Value.int _ _ from rfl)) (rv_cell (row := [_, _, _]) tb rfl rfl rfl (by repeat (first | exact zi0 | apply zi1 | apply zi2)) (by rfl) (by rfl)) (rv_tmp (show _ = Value.int _ _ from rfl))) ?_
   have he0 : valueE c w t = 0 := by rw [hve, if_neg (by omega)]
   exact ⟨by rw [if_pos he0, if_pos he0, he0, hvw, if_neg (by omega), hvv, if_neg hc0, if_neg hc1, if_pos hc2], rfl, rfl⟩
  refine qae ?_
  refine qbn ?_
  refine qaz ?_
  refine qaf ?_
  refine q_c (fun hc3 => ?_) (fun hc3 => ?_)
  ·
   have he0 : valueE c w t = 0 := by rw [hve, if_neg (by omega)]
   refine CJ_seq (CJ_seq ?_)
   refine CJ_drawn tb [0, 1, 2] ([Blk.mk b15 _ _]) mixed (by kernel_rfl) (by repeat (first | exact zs0 _ | exact zs1 _ | apply zs2 | apply zs3 | apply zs4 | apply zs5)) ?_
   refine qbd ?_
   refine q_d rfl (nothing_tri _ _) ?_
   refine DJ_q (yv_eql_span spanEq rfl rfl) rfl rfl rfl ?_
   refine qbu ?_
   refine q_c (fun hc4 => ?_) (fun hc4 => ?_)
   ·
    refine CJ_seq ?_
    refine ycaae ?_
    refine ycaaa ?_
    refine ycaab ?_
    refine qba ?_
    refine qbg ?_
    refine qcg ?_
    refine DJ_nil (seqK_normal (CJ_ret (seqK_ret (blockK_ret (seqK_ret ?_)))))
    refine q_r (L' := L) (R' := R) (res3 rfl (rv_tmp (show _ = Value.int _ _ from rfl)) (rv_cell (row := [_, _, _]) tb rfl rfl rfl (by repeat (first | exact zi0 | apply zi1 | apply zi2)) (by rfl) (by rfl)) (rv_tmp (show _ = Value.int _ _ from rfl))) ?_
    exact ⟨by rw [if_pos he0, if_pos he0, he0, hvw, if_neg (by omega), hvv, if_neg hc0, if_neg hc1, if_neg hc2, if_pos hc3, if_pos (span_eq.2 (by omega))], rfl, rfl⟩
   refine qcl ?_
   refine ycaae ?_
   refine ycaaa ?_
   refine ycaab ?_
   refine qba ?_
   refine qbg ?_
   refine qcg ?_
   refine DJ_nil (seqK_normal (CJ_ret (blockK_ret (seqK_ret ?_))))
   refine q_r (L' := L) (R' := R) (res3 rfl (rv_tmp (show _ = Value.int _ _ from rfl)) (rv_cell (row := [_, _, _]) tb rfl rfl rfl (by repeat (first | exact zi0 | apply zi1 | apply zi2)) (by rfl) (by rfl)) (rv_tmp (show _ = Value.int _ _ from rfl))) ?_
   exact ⟨by rw [if_pos he0, if_pos he0, he0, hvw, if_neg (by omega), hvv, if_neg hc0, if_neg hc1, if_neg hc2, if_pos hc3, if_neg (fun e => by rw [span_eq] at e; omega)], rfl, rfl⟩
  have hk1 : c.kind = 1 := by omega
  rw [if_pos hk1] at hvw hve
  refine CJ_skip (blockK_normal (seqK_normal (CJ_seq (CJ_region ?_))))
  refine qab ?_
  refine ycaaf ?_
  refine ycaaf ?_
  refine qbe ?_
  refine qaa ?_
  refine q_l rfl (refStep_tri c.level w X t _ _) ?_
  refine LJ_q (yv_move rfl) rfl ?_
  refine qbs ?_
  refine qbs ?_
  refine qaq ?_
  intro b16
  refine qak ?_
  refine qad ?_
  refine qaw ?_
  refine qaa ?_
  refine qbq ?_
  refine qaf ?_
  refine q_c (fun hc5 => ?_) (fun hc5 => ?_)
  ·
   refine CJ_seq ?_
   refine CJ_drawn2 tb [73] [0, 1, 2] [3, 4] ([Blk.mk b8 _ _]) _ mixed (by kernel_rfl) (by repeat (first | exact zs0 _ | exact zs1 _ | apply zs2 | apply zs3 | apply zs4 | apply zs5)) (List.nil_sublist _) ?_
   refine ycaaa ?_
   refine DJ3_ql (yv_move (show _ = Value.int _ _ from rfl)) rfl rfl rfl rfl ?_
   refine ycaab ?_
   refine qba ?_
   refine qbg ?_
   refine qcg ?_
   refine DJ_nil (seqK_normal (CJ_ret (seqK_ret ?_)))
   refine q_r (L' := L) (R' := R) (res3 rfl (rv_tmp (show _ = Value.int _ _ from rfl)) (rv_cell (row := [_, _, _]) tb rfl rfl rfl (by repeat (first | exact zi0 | apply zi1 | apply zi2)) (by rfl) (by rfl)) (rv_tmp (show _ = Value.int _ _ from rfl))) ?_
   exact ⟨by rw [if_neg (by rw [hve]; exact hc5), if_neg (by rw [hve]; exact hc5), hve], rfl, rfl⟩
  have hse : stepErr c.level w t = 0 := by omega
  rw [stepS_ok hse]
  refine qbo ?_
  refine qab ?_
  refine qac ?_
  refine qb4 ?_
  refine qaf ?_
  refine q_c (fun hc6 => ?_) (fun hc6 => ?_)
  ·
   refine CJ_seq ?_
   refine ycaac ?_
   refine ycaaa ?_
   refine ycaab ?_
   refine qba ?_
   refine qbg ?_
   refine qcg ?_
   refine DJ_nil (seqK_normal (CJ_ret (seqK_ret ?_)))
   refine q_r (L' := L) (R' := R) (res3 rfl (rv_tmp (show _ = Value.int _ _ from rfl)) (rv_cell (row := [_, _, _]) tb rfl rfl rfl (by repeat (first | exact zi0 | apply zi1 | apply zi2)) (by rfl) (by rfl)) (rv_tmp (show _ = Value.int _ _ from rfl))) ?_
   exact ⟨by rw [hve, hse, if_pos rfl, if_pos rfl, hvw, hvv, if_neg hc0, if_neg hc1, if_neg hc2, if_neg hc3, if_pos (by simpa using hc6)], rfl, rfl⟩
  refine qbo ?_
  refine qbe ?_
  refine qab ?_
  refine qab ?_
  refine qac ?_
  refine q_l rfl (refAbove_tri X c.level.cut _ _) ?_
  refine qbn ?_
  refine qaf ?_
  refine q_c (fun hc7 => ?_) (fun hc7 => ?_)
  ·
   refine CJ_seq ?_
   refine ycaac ?_
   refine ycaaa ?_
   refine ycaab ?_
   refine qba ?_
   refine qbg ?_
   refine qcg ?_
   refine DJ_nil (seqK_normal (CJ_ret (seqK_ret ?_)))
   refine q_r (L' := L) (R' := R) (res3 rfl (rv_tmp (show _ = Value.int _ _ from rfl)) (rv_cell (row := [_, _, _]) tb rfl rfl rfl (by repeat (first | exact zi0 | apply zi1 | apply zi2)) (by rfl) (by rfl)) (rv_tmp (show _ = Value.int _ _ from rfl))) ?_
   exact ⟨by rw [hve, hse, if_pos rfl, if_pos rfl, hvw, hvv, if_neg hc0, if_neg hc1, if_neg hc2, if_neg hc3, if_neg (by simpa using hc6), if_pos hc7], rfl, rfl⟩
  refine qcl ?_
  refine ycaac ?_
  refine ycaaa ?_
  refine ycaab ?_
  refine qba ?_
  refine qbg ?_
  refine qcg ?_
  refine DJ_nil (seqK_normal (CJ_ret ?_))
  refine q_r (L' := L) (R' := R) (res3 rfl (rv_tmp (show _ = Value.int _ _ from rfl)) (rv_cell (row := [_, _, _]) tb rfl rfl rfl (by repeat (first | exact zi0 | apply zi1 | apply zi2)) (by rfl) (by rfl)) (rv_tmp (show _ = Value.int _ _ from rfl))) ?_
  exact ⟨by rw [hve, hse, if_pos rfl, if_pos rfl, hvw, hvv, if_neg hc0, if_neg hc1, if_neg hc2, if_neg hc3, if_neg (by simpa using hc6), if_neg hc7], rfl, rfl⟩
end Go.Proofs.Ytkpfjmibipblhaa
end
section
/-
  The values of conditions and the states of zones, the reference's; lists that are compared. By an AI agent; no person has read it.
-/
set_option linter.unusedSimpArgs false
set_option linter.unusedVariables false
namespace Go.Proofs.Ytkpfjmibipblhaa
open Go.Aw Go
set_option maxRecDepth 20000
attribute [local irreducible] CJ LJ DJ Tri YV Gives seqK blockK loopK retK RV mergeK OwL.L
section
variable {A9 B9 : Prop}
theorem ycbaa (a : A9) (h : A9 → B9 := by exact DJ_q (yv_move (show _ = Value.slice _ _ _ from rfl)) rfl rfl rfl) : B9 := h a
theorem ycbab (h : B9 := by exact ⟨.nil, .nil, by rw [he]; rfl, ⟨OwL.nil_ok, OwL.nil_ok⟩, by rw [valuesV, if_pos (by omega)], by rw [valuesW, if_pos (by omega)], by rw [nil_L, nil_L]; rfl, rfl⟩) : B9 := h
theorem ycbac (a : A9) (h : A9 → B9 := by exact WStep_g rfl (gives_append1 (f := icell) (p := p) (a := valueV s.sensors.l m.l fl.l c wk t) tb rfl rfl rfl rfl (hpk) (by repeat (first | apply OSeg.cons | exact OSeg.here | exact OSeg.last | exact OSeg.at (by assumption) | apply OSeg.app)) (shown_own (by repeat (first | exact zi0 | apply zi1 | apply zi2)) rfl rfl) rfl (by first | omega | (simp only [List.length_cons, List.length_nil, List.length_append]; omega))) rfl rfl) : B9 := h a
theorem ycbad (a : A9) (h : A9 → B9 := by exact WStep_g rfl (gives_buildSlice (qs := [(0, (Value.agg _).cells.toList)]) (out := [_, _, _]) tb rfl rfl rfl rfl rfl rfl rfl) rfl rfl) : B9 := h a
theorem ycbae (a : A9) (h : A9 → B9 := by exact WStep_g rfl (gives_append1 (f := XWatch.cells) (p := q) (a := valueW s.sensors.l m.l c wk t) tb rfl rfl rfl rfl (hqk) (by repeat (first | apply OSeg.cons | exact OSeg.here | exact OSeg.last | exact OSeg.at (by assumption) | apply OSeg.app)) (shown_own (by repeat (first | exact zi0 | apply zi1 | apply zi2)) rfl rfl) rfl (by first | omega | (simp only [List.length_cons, List.length_nil, List.length_append]; omega))) rfl rfl) : B9 := h a
theorem ycbaf (a : A9) (h : A9 → B9 := by exact WZ_q 8 hT16 (List.nil_sublist _) (by kernel_rfl) rfl rfl rfl rfl rfl (yv_assign (show _ = Value.slice _ _ _ from rfl))) : B9 := h a
theorem ycbag (a : A9) (h : A9 → B9 := by exact WZ_q 9 hT16 (List.nil_sublist _) (by kernel_rfl) rfl rfl rfl rfl rfl (yv_assign (show _ = Value.slice _ _ _ from rfl))) : B9 := h a
end
theorem refValues_tri (s : XSite) (m : Arr XMeas) (w : Arr XWatch) (fl : Arr XSpan) (t : Int) (L : List Blk) (R : List Sl) (h : ValsA s m w fl R) :
    Tri Try.prog 24 [s.val, m.val, w.val, fl.val, .int .i64 t].toArray L R
      (fun v L' R' => ∃ (p : OwL Int) (q : OwL XWatch), v = .tuple #[p.val, q.val, .int .i64 (valuesErr s m.l w.l fl.l t)] ∧ (p.ok 1 icell ∧ q.ok 3 XWatch.cells) ∧ p.l = valuesV s m.l w.l fl.l t ∧ q.l = valuesW s m.l w.l fl.l t ∧ p.L 3 icell ++ (q.L 116 XWatch.cells ++ L) = L' ∧ R = R') := by
  obtain ⟨hs, hm, hw, hfl, hok⟩ := h
  have hsR := hs.sensors
  have hcR := hs.conds
  refine tri_enter 92 Try.call24 Try.func24 rfl rfl rfl ?_
  refine qae ?_
  refine qax ?_
  intro b5
  refine qc4 ?_
  refine qc4 ?_
  refine qad ?_
  refine qaw ?_
  refine LJ_q (yv_loadN (row := [_, _, _, _, _, _, _, _]) tb rfl rfl rfl (by repeat (first | exact zi0 | apply zi1 | apply zi2)) (by rfl) (by rfl)) rfl ?_
  refine q_l rfl (refSite_tri s _ _ hs) ?_
  refine qad ?_
  refine qam ?_
  refine qaa ?_
  refine qbq ?_
  refine qaf ?_
  refine q_c (fun hc0 => ?_) (fun hc0 => ?_)
  ·
   refine qae ?_
   refine qaa ?_
   refine qc4 ?_
   refine qc4 ?_
   refine qad ?_
   refine qbh ?_
   refine q_r (L' := L) (R' := R) (res3 rfl (rv_tmp (show _ = Value.slice _ _ _ from rfl)) (rv_tmp (show _ = Value.slice _ _ _ from rfl)) (rv_tmp (show _ = Value.int _ _ from rfl))) ?_
   have he : valuesErr s m.l w.l fl.l t = siteErr s := by rw [valuesErr, if_pos hc0]
   exact ycbab
  have hsk := siteOk_of (s := s) (by omega)
  have hsl := hsk.len
  have hrl := (airOk_of hsk.air).mine.roads
  refine qbo ?_
  refine qbm ?_
  refine qag ?_
  refine qab ?_
  refine qac ?_
  refine qag ?_
  refine qbq ?_
  refine qah ?_
  apply LJ_or (G := [_, _, _, _, _, _]) (j := 6) (cj := 31) rfl rfl (by rfl) rfl (show _ = Value.bool _ from rfl) rfl
  ·
   intro hg7
   replace hg7 := qb hg7
   refine qbm ?_
   refine qag ?_
   refine qab ?_
   refine qac ?_
   refine qag ?_
   refine qbq ?_
   exact qai
  intro junk7
  refine qah ?_
  apply LJ_or (G := [_, _, _, _, _, _, _, _]) (j := 14) (cj := 39) rfl rfl (by rfl) rfl (show _ = Value.bool _ from rfl) rfl
  ·
   intro hg15
   replace hg15 := qb hg15
   refine qbm ?_
   refine qag ?_
   iterate 3 refine qab ?_
   refine qac ?_
   refine qag ?_
   refine qbq ?_
   exact qai
  intro junk15
  refine qaf ?_
  refine q_c (fun hc1 => ?_) (fun hc1 => ?_)
  ·
   refine qae ?_
   refine qc4 ?_
   refine qc4 ?_
   refine qad ?_
   refine qbh ?_
   refine q_r (L' := L) (R' := R) (res3 rfl (rv_tmp (show _ = Value.slice _ _ _ from rfl)) (rv_tmp (show _ = Value.slice _ _ _ from rfl)) (rv_tmp (show _ = Value.int _ _ from rfl))) ?_
   have he : valuesErr s m.l w.l fl.l t = 11 := by rw [valuesErr, if_neg (by omega), if_pos (by omega)]
   exact ycbab
  refine qbo ?_
  refine qaa ?_
  refine qaj ?_
  refine qah ?_
  apply LJ_or (G := [_, _]) (j := 2) (cj := 51) rfl rfl (by rfl) rfl (show _ = Value.bool _ from rfl) rfl
  ·
   intro hg3
   replace hg3 := qb hg3
   refine qaa ?_
   refine qa5 ?_
   exact qai
  intro junk3
  refine qaf ?_
  refine q_c (fun hc2 => ?_) (fun hc2 => ?_)
  ·
   refine qae ?_
   refine qc4 ?_
   refine qc4 ?_
   refine qad ?_
   refine qbh ?_
   refine q_r (L' := L) (R' := R) (res3 rfl (rv_tmp (show _ = Value.slice _ _ _ from rfl)) (rv_tmp (show _ = Value.slice _ _ _ from rfl)) (rv_tmp (show _ = Value.int _ _ from rfl))) ?_
   have he : valuesErr s m.l w.l fl.l t = 8 := by rw [valuesErr, if_neg (by omega), if_neg (by omega), if_pos (by omega)]
   exact ycbab
  have hve := valuesErr_at (s := s) (m := m.l) (w := w.l) (fl := fl.l) (t := t) (by omega) (by omega) (by omega)
  refine qbv ?_
  refine qc4 ?_
  refine qam ?_
  refine qc4 ?_
  refine qaw ?_
  refine qad ?_
  refine qa2 ?_
  refine CJ_forget [(1, Value.slice _ _ _), (2, Value.slice _ _ _), (3, Value.slice _ _ _), (4, Value.int _ _), (5, Value.pointer _), (14, Value.slice _ _ _), (15, Value.slice _ _ _), (16, Value.int _ _)] (by repeat' (first | exact trivial | refine And.intro rfl ?_)) fun tq0 => ?_
  refine CJ_loop [10, 11, 12, 14, 15, 16, 17, 18, 19, 55, 56, 57, 58, 59, 60, 61, 62, 63, 64, 65, 66, 67, 68, 69, 70, 71, 72, 73, 74, 75, 76, 77, 78, 79, 80, 81, 82, 83, 84, 85, 86, 87, 88, 89] ((⟨fun g => [(16, .int .i64 ((g.1.1 : Nat) : Int)), (14, g.1.2.1.val), (15, g.1.2.2.val)], fun g => g.1.2.1.L 3 icell ++ (g.1.2.2.L 116 XWatch.cells ++ (⟨b5, s.cells, 36⟩ :: L)), fun _ => R, fun g => w.l.length - g.1.1⟩ : Head {g : Nat × OwL Int × OwL XWatch // (g.1 ≤ w.l.length ∧ (List.range w.l.length).findSome? (errF s w.l t) = ((List.range w.l.length).drop g.1).findSome? (errF s w.l t)) ∧ (g.2.1.ok 1 icell ∧ g.2.2.ok 3 XWatch.cells) ∧ g.2.1.l = (List.range g.1).map (valF s m.l w.l fl.l t) ∧ g.2.2.l = (List.range g.1).map (watF s m.l w.l t)})) (⟨(0, OwL.nil, OwL.nil), ⟨by dsimp only; omega, by rw [List.drop_zero]⟩, ⟨OwL.nil_ok, OwL.nil_ok⟩, rfl, rfl⟩) (by repeat' (first | exact trivial | refine And.intro rfl ?_)) (by dsimp only; rw [nil_L, nil_L, List.nil_append, List.nil_append]; exact List.Sublist.refl _) (allR_self _) ?_
  rintro ⟨⟨k, p, q⟩, ⟨hk, hp⟩, ⟨hpk, hqk⟩, hpl, hql⟩ junk
  try dsimp only
  dsimp only at hk hp hpk hqk hpl hql
  have hpn : p.l.length = k := by rw [hpl]; simp
  have hqn : q.l.length = k := by rw [hql]; simp
  refine qbi ?_
  refine qaa ?_
  refine qbm ?_
  refine qag ?_
  refine qaj ?_
  refine qaf ?_
  refine q_c (fun hc3 => ?_) (fun hc3 => ?_)
  ·
   have hcg := get_D (l := s.conds.l) (k := k) default (by omega)
   have hwg := get_D (l := w.l) (k := k) default (by omega)
   have hcf := condErr_facts (hsk.cond _ (List.mem_of_getElem? hcg))
   have hpn2 := FSR_next (f := errF s w.l t) hp (by omega)
   have hps := fun (e : Int) (he : errF s w.l t k = some e) => FSR_some (f := errF s w.l t) hp (by omega) he
   have hrp : (List.range (k + 1)).map (valF s m.l w.l fl.l t) = (List.range k).map (valF s m.l w.l fl.l t) ++ [valF s m.l w.l fl.l t k] := by rw [List.range_succ, List.map_append]; rfl
   have hrq : (List.range (k + 1)).map (watF s m.l w.l t) = (List.range k).map (watF s m.l w.l t) ++ [watF s m.l w.l t k] := by rw [List.range_succ, List.map_append]; rfl
   obtain ⟨c, hc⟩ : ∃ c, c = s.conds.l.getD k default := ⟨_, rfl⟩
   obtain ⟨wk, hwe⟩ : ∃ wk, wk = w.l.getD k default := ⟨_, rfl⟩
   have hvE : errF s w.l t k = nzO (valueE c wk t) := by rw [hc, hwe]
   have hvV : valF s m.l w.l fl.l t k = valueV s.sensors.l m.l fl.l c wk t := by rw [hc, hwe]
   have hvW : watF s m.l w.l t k = valueW s.sensors.l m.l c wk t := by rw [hc, hwe]
   rw [← hc] at hcg hcf
   rw [← hwe] at hwg
   rw [hvE] at hpn2 hps
   rw [hvV, ← hpl] at hrp
   rw [hvW, ← hql] at hrq
   refine CJ_skip (seqK_normal (CJ_seq (CJ_block (CJ_seq ?_))))
   refine CJ_drawn tb [0, 1, 2, 3, 4, 5, 6, 7, 8, 9, 10, 11, 12, 13, 14, 15, 16, 17, 18, 19, 20, 21] ([Blk.mk b5 _ _]) mixed (by kernel_rfl) (by repeat (first | exact zs0 _ | exact zs1 _ | apply zs2 | apply zs3 | apply zs4 | apply zs5)) ?_
   refine DJ_q (yv_loadN (row := [_, _, _, _, _, _, _, _]) tb rfl rfl rfl (by repeat (first | exact zi0 | apply zi1 | apply zi2)) (by rfl) (by rfl)) rfl rfl rfl ?_
   refine qal ?_
   refine qat ?_
   refine qao ?_
   refine qds ?_
   refine DJ_q (by first | exact yv_loadN_ro (row := [_, _, _, _, _, _]) tb rfl rfl rfl (by first | assumption | exact zr (by simp)) (by assumption) (by rfl) (by rfl) | exact yv_loadN (row := [_, _, _, _, _, _]) tb rfl rfl rfl (by repeat (first | exact zi0 | apply zi1 | apply zi2)) (by rfl) (by rfl)) rfl rfl rfl ?_
   refine ycbaa ?_
   refine qao ?_
   refine qds ?_
   refine qdv ?_
   refine ycbaa ?_
   refine ycbaa ?_
   refine qao ?_
   refine q_d rfl (refValueC_tri s c wk m fl t _ _ hsR hm hfl hok (by omega) hcf.1 hcf.2.1 (by omega)) ?_
   refine DJ_q (yv_move rfl) rfl rfl rfl ?_
   iterate 3 refine DJ_q (yv_extract rfl rfl) rfl rfl rfl ?_
   refine qbr ?_
   intro b18
   refine qcg ?_
   refine qbg ?_
   refine qcg ?_
   refine qc6 ?_
   refine qaa ?_
   refine qbq ?_
   refine qaf ?_
   refine q_c (fun hc4 => ?_) (fun hc4 => ?_)
   ·
    refine qae ?_
    refine qaa ?_
    refine qc4 ?_
    refine qc4 ?_
    refine qad ?_
    refine qch ?_
    refine q_r (L' := L) (R' := R) (res3 rfl (rv_tmp (show _ = Value.slice _ _ _ from rfl)) (rv_tmp (show _ = Value.slice _ _ _ from rfl)) (rv_tmp (show _ = Value.int _ _ from rfl))) ?_
    have hfe := hps (valueE c wk t) (nzO_some hc4)
    have he : valuesErr s m.l w.l fl.l t = valueE c wk t := by rw [hve, hfe]; rfl
    exact ycbab
   have he0 : valueE c wk t = 0 := by omega
   have hpk2 := hpn2 (by rw [nzO, if_pos he0])
   rw [if_pos he0, if_pos he0]
   refine CJ_skip (seqK_normal ?_)
   refine CJ_tree tb [] [0, 1, 4, 5, 2, 3, 6, 7, 8, 9] [] ([Blk.mk b18 _ _]) [] 10 mixed (by kernel_rfl) rfl rfl (by repeat (first | exact zs0 _ | exact zs1 _ | apply zs2 | apply zs3 | apply zs4 | apply zs5)) fun hT16 => ?_
   refine WZ_q 0 hT16 (List.nil_sublist _) (by kernel_rfl) rfl rfl rfl rfl rfl (yv_move (show _ = Value.slice _ _ _ from rfl)) ?_
   refine WZ_q 1 hT16 (List.nil_sublist _) (by kernel_rfl) rfl rfl rfl rfl rfl (yv_move (show _ = Value.int _ _ from rfl)) ?_
   refine WZ_q 4 hT16 (List.nil_sublist _) (by kernel_rfl) rfl rfl rfl rfl rfl (yv_move (show _ = Value.slice _ _ _ from rfl)) ?_
   refine WZ_q 5 hT16 (List.nil_sublist _) (by kernel_rfl) rfl rfl rfl rfl rfl (yv_loadN (row := [_, _, _]) tb rfl rfl rfl (by repeat (first | exact zi0 | apply zi1 | apply zi2)) (by rfl) (by rfl)) ?_
   refine WZ_branch [2, 6] hT16 (List.nil_sublist _) (by kernel_rfl) ?_
   refine WSteps_cons ?_ ?_
   ·
    skip
    refine qdc ?_
    rintro v L' R' ⟨b84, rfl, rfl, hR84⟩
    replace hR84 := hR84.symm; subst hR84
    refine qa1 ?_
    refine WZ_branch [3, 6] hT16 (List.nil_sublist _) (by kernel_rfl) ?_
    refine WSteps_cons ?_ ?_
    ·
     skip
     refine ycbac ?_
     rintro v L' R' ⟨o85, rfl, hok85, rfl, rfl⟩
     refine qa1 ?_
     refine WZ_branch [6] hT16 (List.nil_sublist _) (by kernel_rfl) ?_
     refine qca ?_
     refine ycbad ?_
     rintro v L' R' ⟨b88, rfl, rfl, hR88⟩
     replace hR88 := hR88.symm; subst hR88
     refine qa1 ?_
     refine WZ_branch [7] hT16 (List.nil_sublist _) (by kernel_rfl) ?_
     refine qca ?_
     refine ycbae ?_
     rintro v L' R' ⟨o89, rfl, hok89, rfl, rfl⟩
     refine qa1 ?_
     refine ycbaf ?_
     refine ycbag ?_
     refine WZ_endL hT16 (List.nil_sublist _) (by kernel_rfl) rfl ?_
     refine qby ?_
     refine qaa ?_
     refine qar ?_
     refine qad ?_
     refine qav ?_
     exact q_k ⟨(k + 1, (⟨o85, _⟩ : OwL Int), (⟨o89, _⟩ : OwL XWatch)), hpk2, ⟨hok85, hok89⟩, hrp.symm, hrq.symm⟩
    refine qca ?_
    refine ycbad ?_
    rintro v L' R' ⟨b88, rfl, rfl, hR88⟩
    replace hR88 := hR88.symm; subst hR88
    refine qa1 ?_
    refine WZ_branch [3] hT16 (List.nil_sublist _) (by kernel_rfl) ?_
    refine qca ?_
    refine ycbac ?_
    rintro v L' R' ⟨o85, rfl, hok85, rfl, rfl⟩
    refine qa1 ?_
    refine WZ_branch [7] hT16 (List.nil_sublist _) (by kernel_rfl) ?_
    refine qca ?_
    refine ycbae ?_
    rintro v L' R' ⟨o89, rfl, hok89, rfl, rfl⟩
    refine qa1 ?_
    refine ycbaf ?_
    refine ycbag ?_
    refine WZ_endL hT16 (List.nil_sublist _) (by kernel_rfl) rfl ?_
    refine qby ?_
    refine qaa ?_
    refine qar ?_
    refine qad ?_
    refine qav ?_
    exact q_k ⟨(k + 1, (⟨o85, _⟩ : OwL Int), (⟨o89, _⟩ : OwL XWatch)), hpk2, ⟨hok85, hok89⟩, hrp.symm, hrq.symm⟩
   refine qca ?_
   refine ycbad ?_
   rintro v L' R' ⟨b88, rfl, rfl, hR88⟩
   replace hR88 := hR88.symm; subst hR88
   refine qa1 ?_
   refine WZ_branch [2] hT16 (List.nil_sublist _) (by kernel_rfl) ?_
   refine qca ?_
   refine qdc ?_
   rintro v L' R' ⟨b84, rfl, rfl, hR84⟩
   replace hR84 := hR84.symm; subst hR84
   refine qa1 ?_
   refine WZ_branch [3] hT16 (List.nil_sublist _) (by kernel_rfl) ?_
   refine qca ?_
   refine ycbac ?_
   rintro v L' R' ⟨o85, rfl, hok85, rfl, rfl⟩
   refine qa1 ?_
   refine WZ_branch [7] hT16 (List.nil_sublist _) (by kernel_rfl) ?_
   refine qca ?_
   refine ycbae ?_
   rintro v L' R' ⟨o89, rfl, hok89, rfl, rfl⟩
   refine qa1 ?_
   refine ycbaf ?_
   refine ycbag ?_
   refine WZ_endL hT16 (List.nil_sublist _) (by kernel_rfl) rfl ?_
   refine qby ?_
   refine qaa ?_
   refine qar ?_
   refine qad ?_
   refine qav ?_
   exact q_k ⟨(k + 1, (⟨o85, _⟩ : OwL Int), (⟨o89, _⟩ : OwL XWatch)), hpk2, ⟨hok85, hok89⟩, hrp.symm, hrq.symm⟩
  obtain rfl : k = w.l.length := by omega
  have hn := FSR_none (f := errF s w.l t) hp (Nat.le_refl _)
  have he : valuesErr s m.l w.l fl.l t = 0 := by rw [hve, hn]; rfl
  refine qbk ?_
  refine qbm ?_
  refine qbm ?_
  refine qc4 ?_
  refine qc4 ?_
  refine qad ?_
  refine qa0 ?_
  refine q_r (L' := p.L 3 icell ++ (q.L 116 XWatch.cells ++ L)) (R' := R) (res3 rfl (rv_tmp (show _ = Value.slice _ _ _ from rfl)) (rv_tmp (show _ = Value.slice _ _ _ from rfl)) (rv_tmp (show _ = Value.int _ _ from rfl))) ?_
  exact ⟨p, q, by rw [he]; try rfl, ⟨hpk, hqk⟩, by rw [valuesV, if_neg (by omega)]; exact hpl, by rw [valuesW, if_neg (by omega)]; exact hql, rfl, rfl⟩
theorem sameWatches_tri (x y : Arr XWatch) (L : List Blk) (R : List Sl) (hx : InR (wasl x) R) (hy : InR (wasl y) R) (he : x.l = y.l) :
    Tri Try.prog 26 [x.val, y.val].toArray L R (fun v L' R' => v = .bool true ∧ L = L' ∧ R = R') := by
  have hle : x.l.length = y.l.length := by rw [he]
  refine Tri_len Try.call26 hx fun hxn => ?_
  refine tri_enter 26 Try.call26 Try.func26 rfl rfl rfl ?_
  refine qae ?_
  refine qaz ?_
  refine qaw ?_
  refine qbm ?_
  refine qag ?_
  refine qbm ?_
  refine qag ?_
  refine qbq ?_
  refine qaf ?_
  refine q_c (fun hc0 => ?_) (fun hc0 => ?_)
  ·
   refine qae ?_
   refine qaz ?_
   refine qbh ?_
   refine q_b (L' := L) (R' := R) ?_
   exact absurd hle (by omega)
  refine qbo ?_
  refine qad ?_
  refine qa2 ?_
  refine CJ_forget [(0, Value.slice _ _ _), (1, Value.slice _ _ _), (5, Value.int _ _)] (by repeat' (first | exact trivial | refine And.intro rfl ?_)) fun tq0 => ?_
  refine q_s [4, 5, 11, 12, 13, 14, 15, 16, 17, 18, 19, 20, 21, 22, 23, 24, 25] (fun g : {k : Nat // k ≤ x.l.length} => [(5, .int .i64 ((g.1 : Nat) : Int))]) (fun g => x.l.length - g.1) (⟨0, by omega⟩) ?_
  rintro ⟨k, hk⟩ junk
  try dsimp only
  refine qbi ?_
  refine qaa ?_
  refine qbm ?_
  refine qag ?_
  refine qaj ?_
  refine qaf ?_
  refine q_c (fun hc1 => ?_) (fun hc1 => ?_)
  ·
   have hxg := get_D (l := x.l) (k := k) default (by omega)
   have hyg : y.l[k]? = some (x.l.getD k default) := by rw [← he]; exact hxg
   refine CJ_skip (seqK_normal (CJ_seq (CJ_block (CJ_seq ?_))))
   refine CJ_drawn tb [0, 1, 2, 3, 4, 5, 6, 7, 8] ([]) mixed (by kernel_rfl) (by repeat (first | exact zs0 _ | exact zs1 _ | apply zs2 | apply zs3 | apply zs4 | apply zs5)) ?_
   refine ycbaa ?_
   refine qao ?_
   refine qds ?_
   refine qdv ?_
   refine ycbaa ?_
   refine qao ?_
   refine qds ?_
   refine qdv ?_
   refine DJ_q (yv_neq_str watchEq rfl rfl (by repeat (first | exact trivial | refine ⟨trivial, ?_⟩)) (by repeat (first | exact trivial | refine ⟨trivial, ?_⟩)) rfl) rfl rfl rfl ?_
   refine qbu ?_
   refine q_c (fun hc2 => ?_) (fun hc2 => ?_)
   ·
    refine qae ?_
    refine qaz ?_
    refine qbt ?_
    refine q_b (L' := L) (R' := R) ?_
    exact absurd hc2 (by simp [cellsEq, cellEq])
   refine qbj ?_
   refine qaa ?_
   refine qar ?_
   refine qad ?_
   refine qav ?_
   exact q_k (⟨k + 1, by omega⟩)
  refine qbk ?_
  refine qaz ?_
  refine qa0 ?_
  refine q_b (L' := L) (R' := R) ?_
  exact ⟨rfl, rfl, rfl⟩
theorem sameWatches_own {A : List Blk} {R : List Sl} {p q : OwL XWatch} (hp : InB (p.L 116 XWatch.cells) A) (hq : InB (q.L 116 XWatch.cells) A) (okp : p.ok 3 XWatch.cells) (okq : q.ok 3 XWatch.cells) (he : p.l = q.l) :
    Tri Try.prog 26 [p.val, q.val].toArray A R (fun v L' R' => v = .bool true ∧ A = L' ∧ R = R') :=
  Tri.lendU (S := [wasl p.arr, wasl q.arr]) (fun w G hh s hs => by
    simp only [List.mem_cons, List.not_mem_nil, or_false] at hs
    rcases hs with rfl | rfl
    · exact lend_rep hh hp okp (fun _ => rfl) (by decide) (fun s hs => by cases hs)
    · exact lend_rep hh hq okq (fun _ => rfl) (by decide) (fun s hs => by cases hs)) (sameWatches_tri p.arr q.arr [] _ (inR_self (.head _)) (inR_self (.tail _ (.head _))) he)

end Go.Proofs.Ytkpfjmibipblhaa
end
section
/-
  The states of zones, the reference's. By an AI agent; no person has read it.
-/
set_option linter.unusedSimpArgs false
set_option linter.unusedVariables false
namespace Go.Proofs.Ytkpfjmibipblhaa
open Go.Aw Go
set_option maxRecDepth 20000
attribute [local irreducible] CJ LJ DJ Tri YV Gives seqK blockK loopK retK RV mergeK OwL.L
end Go.Proofs.Ytkpfjmibipblhaa
end
section
/-
  Statements about chapter 20: the states of zones. By an AI agent; no person has read it.
-/
set_option linter.unusedSimpArgs false
set_option linter.unusedVariables false
namespace Go.Proofs.Ytkpfjmibipblhaa
open Go.Aw Go
set_option maxRecDepth 20000
attribute [local irreducible] CJ LJ DJ Tri YV Gives seqK blockK loopK retK RV mergeK OwL.L
instance {α : Type} : Inhabited (Arr α) := ⟨⟨none, 0, []⟩⟩
theorem two_get {α : Type} {a b : α} {i : Nat} (hi : i < 2) : ∃ x, [a, b][i]? = some x ∧ (x = a ∨ x = b) := by
  rcases Nat.lt_or_ge i 1 with h | h
  · obtain rfl : i = 0 := by omega
    exact ⟨a, rfl, .inl rfl⟩
  · obtain rfl : i = 1 := by omega
    exact ⟨b, rfl, .inr rfl⟩
end Go.Proofs.Ytkpfjmibipblhaa
end
