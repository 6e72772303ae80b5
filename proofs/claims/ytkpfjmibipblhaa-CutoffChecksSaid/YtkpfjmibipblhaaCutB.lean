import Derived.Test.YtkpfjmibipblhaaApp0
import Derived.Test.YtkpfjmibipblhaaSiteD
section
/-
  What measurements say later, the reference's: ref05.Check, ref06.At, ref06.Meet. By an AI agent; no person has read it.
-/
set_option linter.unusedSimpArgs false
set_option linter.unusedVariables false
namespace Go.Proofs.Ytkpfjmibipblhaa
open Go.Aw Go
set_option maxRecDepth 20000
attribute [local irreducible] CJ LJ DJ Tri YV Gives seqK blockK loopK retK RV mergeK OwL.L

theorem ref05in_tri (n lo hi : Int) (L : List Blk) (R : List Sl) :
    Tri Try.prog 102 [.int .i64 n, .int .i64 lo, .int .i64 hi].toArray L R (fun v L' R' => v = .bool (decide (lo ≤ n ∧ n ≤ hi)) ∧ L = L' ∧ R = R') := by
  refine tri_enter 15 Try.call102 Try.func102 rfl rfl rfl ?_
  refine qae ?_
  refine qaz ?_
  refine qam ?_
  refine qaa ?_
  refine qaa ?_
  refine qbx ?_
  refine qah ?_
  apply LJ_and (G := [_, _, _]) (j := 3) (cj := 10) rfl rfl (by rfl) rfl (show _ = Value.bool _ from rfl) rfl
  ·
   intro hg4
   replace hg4 := qb hg4
   refine qaa ?_
   refine qaa ?_
   refine qbx ?_
   exact qai
  intro junk4
  refine qaz ?_
  refine qa0 ?_
  refine q_b (L' := L) (R' := R) ?_
  exact ⟨by refine congrArg Value.bool ?_; rw [Bool.eq_iff_iff]; simp, rfl, rfl⟩
theorem ref05Check_tri (s : XSens) (L : List Blk) (R : List Sl) :
    Tri Try.prog 99 [s.val].toArray L R (fun v L' R' => v = .int .i64 (sensErr s) ∧ L = L' ∧ R = R') := by
  refine tri_enter 46 Try.call99 Try.func99 rfl rfl rfl ?_
  refine qae ?_
  refine qax ?_
  intro b1
  refine qad ?_
  refine qaw ?_
  refine qab ?_
  refine qac ?_
  refine q_l rfl (ref05in_tri _ _ _ _ _) ?_
  refine qb4 ?_
  refine qaf ?_
  refine q_c (fun hc0 => ?_) (fun hc0 => ?_)
  ·
   refine qae ?_
   refine qad ?_
   refine qbh ?_
   refine q_i (L' := L) (R' := R) ?_
   exact ⟨by simp at hc0; rw [sensErr, if_pos (by omega)], rfl, rfl⟩
  refine qbo ?_
  refine qab ?_
  refine qac ?_
  refine q_l rfl (ref05in_tri _ _ _ _ _) ?_
  refine qb4 ?_
  refine qah ?_
  apply LJ_or (G := [_, _, _]) (j := 4) (cj := 11) rfl rfl (by rfl) rfl (show _ = Value.bool _ from rfl) rfl
  ·
   intro hg5
   replace hg5 := qb hg5
   refine qab ?_
   refine qac ?_
   refine qaj ?_
   exact qai
  intro junk5
  refine qah ?_
  apply LJ_or (G := [_, _, _, _]) (j := 9) (cj := 16) rfl rfl (by rfl) rfl (show _ = Value.bool _ from rfl) rfl
  ·
   intro hg10
   replace hg10 := qb hg10
   refine qab ?_
   refine qac ?_
   refine q_l rfl (ref05in_tri _ _ _ _ _) ?_
   refine qb4 ?_
   exact qai
  intro junk10
  refine qah ?_
  apply LJ_or (G := [_, _, _, _]) (j := 15) (cj := 22) rfl rfl (by rfl) rfl (show _ = Value.bool _ from rfl) rfl
  ·
   intro hg16
   replace hg16 := qb hg16
   refine qab ?_
   refine qac ?_
   refine q_l rfl (ref05in_tri _ _ _ _ _) ?_
   refine qb4 ?_
   exact qai
  intro junk16
  refine qah ?_
  apply LJ_or (G := [_, _, _, _]) (j := 21) (cj := 28) rfl rfl (by rfl) rfl (show _ = Value.bool _ from rfl) rfl
  ·
   intro hg22
   replace hg22 := qb hg22
   refine qab ?_
   refine qac ?_
   refine q_l rfl (ref05in_tri _ _ _ _ _) ?_
   refine qb4 ?_
   exact qai
  intro junk22
  refine qah ?_
  apply LJ_or (G := [_, _, _, _]) (j := 27) (cj := 34) rfl rfl (by rfl) rfl (show _ = Value.bool _ from rfl) rfl
  ·
   intro hg28
   replace hg28 := qb hg28
   refine qab ?_
   refine qac ?_
   refine q_l rfl (ref05in_tri _ _ _ _ _) ?_
   refine qb4 ?_
   exact qai
  intro junk28
  refine qah ?_
  apply LJ_or (G := [_, _, _, _]) (j := 33) (cj := 40) rfl rfl (by rfl) rfl (show _ = Value.bool _ from rfl) rfl
  ·
   intro hg34
   replace hg34 := qb hg34
   refine qab ?_
   refine qac ?_
   refine q_l rfl (ref05in_tri _ _ _ _ _) ?_
   refine qb4 ?_
   exact qai
  intro junk34
  refine qaf ?_
  refine q_c (fun hc1 => ?_) (fun hc1 => ?_)
  ·
   refine qae ?_
   refine qad ?_
   refine qbh ?_
   refine q_i (L' := L) (R' := R) ?_
   exact ⟨by simp at hc0 hc1; rw [sensErr, if_neg (by omega), if_neg (by rw [SensOk]; omega)], rfl, rfl⟩
  refine qbv ?_
  refine qad ?_
  refine qa0 ?_
  refine q_i (L' := L) (R' := R) ?_
  exact ⟨by simp at hc0 hc1; rw [sensErr, if_neg (by omega), if_pos (by rw [SensOk]; omega)], rfl, rfl⟩
theorem ref05Floor_tri (a b : Int) (L : List Blk) (R : List Sl) (ha : -1000000000000 ≤ a ∧ a ≤ 1000000000000) (hb : 0 < b ∧ b ≤ 1000000) :
    Tri Try.prog 103 [.int .i64 a, .int .i64 b].toArray L R (fun v L' R' => v = .int .i64 (a / b) ∧ L = L' ∧ R = R') := by
  have hd : -1000000000000 ≤ a.tdiv b ∧ a.tdiv b ≤ 1000000000000 := by
    have h1 := Int.natAbs_tdiv_le_natAbs a b
    omega
  refine tri_enter 16 Try.call103 Try.func103 rfl rfl rfl ?_
  refine qae ?_
  refine qad ?_
  refine qam ?_
  refine qaa ?_
  refine qaa ?_
  refine qdd ?_
  refine qad ?_
  refine qaw ?_
  refine qaa ?_
  refine qaa ?_
  refine qda ?_
  refine qaj ?_
  refine qaf ?_
  refine q_c (fun hc0 => ?_) (fun hc0 => ?_)
  ·
   refine qay ?_
   refine qaa ?_
   refine qa9 ?_
   refine qad ?_
   refine qam ?_
   refine qaa ?_
   refine qad ?_
   refine qa0 ?_
   refine q_i (L' := L) (R' := R) ?_
   exact ⟨by rw [← floor_eq hb.1, if_pos hc0], rfl, rfl⟩
  refine qbv ?_
  refine qaa ?_
  refine qad ?_
  refine qa0 ?_
  refine q_i (L' := L) (R' := R) ?_
  exact ⟨by rw [← floor_eq hb.1, if_neg hc0], rfl, rfl⟩
theorem ref05Ceil_tri (a b : Int) (L : List Blk) (R : List Sl) (ha : -1000000000000 ≤ a ∧ a ≤ 1000000000000) (hb : 0 < b ∧ b ≤ 1000000) :
    Tri Try.prog 104 [.int .i64 a, .int .i64 b].toArray L R (fun v L' R' => v = .int .i64 (-((-a) / b)) ∧ L = L' ∧ R = R') := by
  have hd : -1000000000001 ≤ (-a) / b ∧ (-a) / b ≤ 1000000000001 := by
    have h1 := Int.natAbs_ediv_le_natAbs (-a) b
    omega
  refine tri_enter 10 Try.call104 Try.func104 rfl rfl rfl ?_
  refine qae ?_
  refine qad ?_
  refine qam ?_
  refine qaa ?_
  refine qcq ?_
  refine qaa ?_
  refine q_l rfl (ref05Floor_tri (-a) b _ _ (by omega) hb) ?_
  refine qcq ?_
  refine qad ?_
  refine qa0 ?_
  refine q_i (L' := L) (R' := R) ?_
  exact ⟨rfl, rfl, rfl⟩
theorem gassy_tri (k : Int) (L : List Blk) (R : List Sl) :
    Tri Try.prog 105 [.int .i64 k].toArray L R (fun v L' R' => v = .bool (decide (k = 1 ∨ k = 2)) ∧ L = L' ∧ R = R') := by
  refine tri_enter 9 Try.call105 Try.func105 rfl rfl rfl ?_
  refine qae ?_
  refine qaz ?_
  refine qam ?_
  refine qaa ?_
  refine qbn ?_
  refine qah ?_
  apply LJ_or (G := [_, _]) (j := 2) (cj := 5) rfl rfl (by rfl) rfl (show _ = Value.bool _ from rfl) rfl
  ·
   intro hg3
   replace hg3 := qb hg3
   refine qaa ?_
   refine qbn ?_
   exact qai
  intro junk3
  refine qaz ?_
  refine qa0 ?_
  refine q_b (L' := L) (R' := R) ?_
  exact ⟨by refine congrArg Value.bool ?_; rw [Bool.eq_iff_iff]; simp, rfl, rfl⟩
theorem more_ceil {s : XSens} {m : XMeas} {t : Int} (h : ¬ goneS s m t) : -((-(s.drift * (t - m.time))) / 1000) = moreS s m t := by
  have hb := more_bounds h
  rw [moreS, Int.tdiv_eq_ediv_of_nonneg (by omega)]
  omega
theorem kind_of {s : XSens} {m : XMeas} {t : Int} (h : ¬ goneS s m t) : 1 ≤ s.kind ∧ s.kind ≤ 6 := by
  rw [goneS] at h
  have he : sensErr s = 0 := by omega
  rw [sensErr] at he
  split at he
  · omega
  · omega
theorem refAt_tri (s : XSens) (m : XMeas) (t : Int) (L : List Blk) (R : List Sl) (hm : MeasOk m) (ht : 0 ≤ t ∧ t ≤ 2147483648) :
    Tri Try.prog 67 [s.val, m.val, .int .i64 t].toArray L R (fun v L' R' => v = (atS s m t).val ∧ L = L' ∧ R = R') := by
  rw [MeasOk] at hm
  refine tri_enter 75 Try.call67 Try.func67 rfl rfl rfl ?_
  refine qae ?_
  refine qax ?_
  intro b3
  refine qax ?_
  intro b4
  refine qaq ?_
  intro b6
  refine qco ?_
  refine CJ_drawn tb [0, 1, 2, 3, 4, 5, 6, 7, 8, 9, 10, 11, 12, 13, 14, 15, 16, 17, 18, 19, 20, 21, 22, 23, 24, 25, 26, 27, 28] _ mixed (by kernel_rfl) (List.Sublist.refl _) ?_
  refine DJ_q (yv_loadN (row := [_, _, _, _, _, _, _, _]) tb rfl rfl rfl (by repeat (first | exact zi0 | apply zi1 | apply zi2)) (by rfl) (by rfl)) rfl rfl rfl ?_
  refine q_d rfl (ref05Check_tri s _ _) ?_
  refine DJ_q (yv_neq rfl rfl) rfl rfl rfl ?_
  refine qb2 ?_
  refine DJ_case (k := 12) (show _ = Value.bool _ from rfl) (fun hg3 => ?_) (fun hg3 => ?_)
  ·
   replace hg3 := qb hg3
   have hgo : goneS s m t := .inl (by simpa using hg3)
   iterate 3 refine qap ?_
   refine qbp ?_
   refine qb2 ?_
   iterate 4 refine qap ?_
   refine qbp ?_
   refine qb2 ?_
   iterate 4 refine qap ?_
   refine qbp ?_
   refine qb2 ?_
   iterate 7 refine qap ?_
   refine qbp ?_
   refine qbu ?_
   refine CJ_cond_true rfl ?_
   refine qae ?_
   refine q_l rfl (nothing_tri _ _) ?_
   refine qak ?_
   refine qbh ?_
   refine q_r (L' := L) (R' := R) (res1 rfl (rv_cell (row := [_, _]) tb rfl rfl rfl (by repeat (first | exact zi0 | apply zi1 | apply zi2)) (by rfl) (by rfl))) ?_
   first
   | exact ⟨by rw [atS, if_pos hgo]; try rfl, rfl, rfl⟩
   | (have hgo : goneS s m t := .inr (.inr (.inr (.inr (by omega))))
      exact ⟨by rw [atS, if_pos hgo]; try rfl, rfl, rfl⟩)
  replace hg3 := qb hg3
  refine qal ?_
  refine qat ?_
  refine DJ_q (yv_lss rfl rfl) rfl rfl rfl ?_
  refine qbp ?_
  refine qb2 ?_
  refine DJ_case (k := 17) (show _ = Value.bool _ from rfl) (fun hg8 => ?_) (fun hg8 => ?_)
  ·
   replace hg8 := qb hg8
   have hgo : goneS s m t := .inr (.inl (by simp at hg3 hg8; omega))
   iterate 4 refine qap ?_
   refine qbp ?_
   refine qb2 ?_
   iterate 4 refine qap ?_
   refine qbp ?_
   refine qb2 ?_
   iterate 7 refine qap ?_
   refine qbp ?_
   refine qbu ?_
   refine CJ_cond_true rfl ?_
   refine qae ?_
   refine q_l rfl (nothing_tri _ _) ?_
   refine qak ?_
   refine qbh ?_
   refine q_r (L' := L) (R' := R) (res1 rfl (rv_cell (row := [_, _]) tb rfl rfl rfl (by repeat (first | exact zi0 | apply zi1 | apply zi2)) (by rfl) (by rfl))) ?_
   first
   | exact ⟨by rw [atS, if_pos hgo]; try rfl, rfl, rfl⟩
   | (have hgo : goneS s m t := .inr (.inr (.inr (.inr (by omega))))
      exact ⟨by rw [atS, if_pos hgo]; try rfl, rfl, rfl⟩)
  replace hg8 := qb hg8
  refine qal ?_
  refine qbd ?_
  refine q_d rfl (nothing_tri _ _) ?_
  refine DJ_q (yv_eql_span spanEq rfl rfl) rfl rfl rfl ?_
  refine qbp ?_
  refine qb2 ?_
  refine DJ_case (k := 23) (show _ = Value.bool _ from rfl) (fun hg14 => ?_) (fun hg14 => ?_)
  ·
   replace hg14 := qb hg14
   have hgo : goneS s m t := .inr (.inr (.inl (by rw [span_eq]; simp [nothingS] at hg3 hg8 hg14 ⊢; omega)))
   iterate 4 refine qap ?_
   refine qbp ?_
   refine qb2 ?_
   iterate 7 refine qap ?_
   refine qbp ?_
   refine qbu ?_
   refine CJ_cond_true rfl ?_
   refine qae ?_
   refine q_l rfl (nothing_tri _ _) ?_
   refine qak ?_
   refine qbh ?_
   refine q_r (L' := L) (R' := R) (res1 rfl (rv_cell (row := [_, _]) tb rfl rfl rfl (by repeat (first | exact zi0 | apply zi1 | apply zi2)) (by rfl) (by rfl))) ?_
   first
   | exact ⟨by rw [atS, if_pos hgo]; try rfl, rfl, rfl⟩
   | (have hgo : goneS s m t := .inr (.inr (.inr (.inr (by omega))))
      exact ⟨by rw [atS, if_pos hgo]; try rfl, rfl, rfl⟩)
  replace hg14 := qb hg14
  refine qao ?_
  refine qal ?_
  refine qat ?_
  refine DJ_q (yv_lss rfl rfl) rfl rfl rfl ?_
  refine qbp ?_
  refine qb2 ?_
  refine DJ_case (k := 29) (show _ = Value.bool _ from rfl) (fun hg20 => ?_) (fun hg20 => ?_)
  ·
   replace hg20 := qb hg20
   have hgo : goneS s m t := .inr (.inr (.inr (.inl (by simp [nothingS] at hg3 hg8 hg14 hg20; omega))))
   iterate 7 refine qap ?_
   refine qbp ?_
   refine qbu ?_
   refine CJ_cond_true rfl ?_
   refine qae ?_
   refine q_l rfl (nothing_tri _ _) ?_
   refine qak ?_
   refine qbh ?_
   refine q_r (L' := L) (R' := R) (res1 rfl (rv_cell (row := [_, _]) tb rfl rfl rfl (by repeat (first | exact zi0 | apply zi1 | apply zi2)) (by rfl) (by rfl))) ?_
   first
   | exact ⟨by rw [atS, if_pos hgo]; try rfl, rfl, rfl⟩
   | (have hgo : goneS s m t := .inr (.inr (.inr (.inr (by omega))))
      exact ⟨by rw [atS, if_pos hgo]; try rfl, rfl, rfl⟩)
  replace hg20 := qb hg20
  refine qao ?_
  refine qal ?_
  refine qat ?_
  refine qb7 ?_
  refine qal ?_
  refine qat ?_
  refine DJ_q (yv_gtr rfl rfl) rfl rfl rfl ?_
  refine qbp ?_
  refine qbu ?_
  refine q_c (fun hc0 => ?_) (fun hc0 => ?_)
  ·
   refine qae ?_
   refine q_l rfl (nothing_tri _ _) ?_
   refine qak ?_
   refine qbh ?_
   refine q_r (L' := L) (R' := R) (res1 rfl (rv_cell (row := [_, _]) tb rfl rfl rfl (by repeat (first | exact zi0 | apply zi1 | apply zi2)) (by rfl) (by rfl))) ?_
   first
   | exact ⟨by rw [atS, if_pos hgo]; try rfl, rfl, rfl⟩
   | (have hgo : goneS s m t := .inr (.inr (.inr (.inr (by omega))))
      exact ⟨by rw [atS, if_pos hgo]; try rfl, rfl, rfl⟩)
  have hgo : ¬ goneS s m t := by rw [goneS, span_eq]; simp [nothingS] at hg3 hg8 hg14 hg20 hc0 ⊢; omega
  obtain ⟨hb1, hb2⟩ := more_bounds hgo
  have hkd := kind_of hgo
  have hmc := more_ceil hgo
  refine qbo ?_
  refine qab ?_
  refine qac ?_
  refine q_l rfl (stately_tri _ _ _) ?_
  refine qaf ?_
  refine q_c (fun hc1 => ?_) (fun hc1 => ?_)
  ·
   refine qae ?_
   refine qab ?_
   refine qbe ?_
   refine qak ?_
   refine qbh ?_
   refine q_r (L' := L) (R' := R) (res1 rfl (rv_cell (row := [_, _]) tb rfl rfl rfl (by repeat (first | exact zi0 | apply zi1 | apply zi2)) (by rfl) (by rfl))) ?_
   exact ⟨by rw [atS, if_neg hgo, if_pos (by omega)], rfl, rfl⟩
  refine qbv ?_
  refine qab ?_
  refine qac ?_
  refine qaa ?_
  refine qab ?_
  refine qac ?_
  refine qa9 ?_
  refine qcm ?_
  refine q_l rfl (ref05Ceil_tri (s.drift * (t - m.time)) 1000 _ _ (by omega) (by decide)) ?_
  rw [hmc]
  refine qad ?_
  refine qam ?_
  refine qab ?_
  refine qab ?_
  refine qac ?_
  refine qaa ?_
  refine qa9 ?_
  refine qab ?_
  refine qab ?_
  refine qac ?_
  refine qaa ?_
  refine qar ?_
  refine qcd ?_
  refine qaq ?_
  intro b8
  refine qak ?_
  refine qaw ?_
  refine qab ?_
  refine qac ?_
  refine q_l rfl (gassy_tri _ _ _) ?_
  refine qaf ?_
  refine q_c (fun hc2 => ?_) (fun hc2 => ?_)
  ·
   refine qay ?_
   refine qab ?_
   refine qac ?_
   refine LJ_q (yv_max2 rfl rfl) rfl ?_
   refine qab ?_
   refine qac ?_
   refine LJ_q (yv_max2 rfl rfl) rfl ?_
   refine qab ?_
   refine qcn ?_
   refine qab ?_
   refine qcn ?_
   refine qam ?_
   refine qbe ?_
   refine qak ?_
   refine qa0 ?_
   refine q_r (L' := L) (R' := R) (res1 rfl (rv_cell (row := [_, _]) tb rfl rfl rfl (by repeat (first | exact zi0 | apply zi1 | apply zi2)) (by rfl) (by rfl))) ?_
   exact ⟨by rw [atS, if_neg hgo, if_neg (by omega), if_pos hc2]; try rfl, rfl, rfl⟩
  refine qbv ?_
  refine qbe ?_
  refine qak ?_
  refine qa0 ?_
  refine q_r (L' := L) (R' := R) (res1 rfl (rv_cell (row := [_, _]) tb rfl rfl rfl (by repeat (first | exact zi0 | apply zi1 | apply zi2)) (by rfl) (by rfl))) ?_
  exact ⟨by rw [atS, if_neg hgo, if_neg (by omega), if_neg hc2]; try rfl, rfl, rfl⟩

end Go.Proofs.Ytkpfjmibipblhaa
end
section
/-
  Sites and their errors: cutoff.Check, cutoff.Known, and what is known of a fan. By an AI agent; no person has read it.
-/
set_option linter.unusedSimpArgs false
set_option linter.unusedVariables false
namespace Go.Proofs.Ytkpfjmibipblhaa
open Go.Aw Go
set_option maxRecDepth 20000
attribute [local irreducible] CJ LJ DJ Tri YV Gives seqK blockK loopK retK RV mergeK OwL.L
section
variable {A9 B9 : Prop}
theorem ybsaa (a : A9) (h : A9 → B9 := by exact DJ3_q (by first | exact yv_index_ro tb rfl rfl rfl rfl (by first | assumption | exact zr (by simp)) (i := n.toNat) (by first | rfl | omega | (simp; omega)) (by omega) | exact yv_index tb rfl rfl rfl rfl (i := n.toNat) (by first | rfl | omega | (simp; omega)) (by omega)) rfl rfl rfl rfl) : B9 := h a
theorem ybsab (a : A9) (h : A9 → B9 := by exact LJ_q (yv_loadN (row := [_, _, _, _, _, _, _, _]) tb rfl rfl rfl (by repeat (first | exact zi0 | apply zi1 | apply zi2)) (by rfl) (by rfl)) rfl) : B9 := h a
theorem ybsac (h : B9 := by exact ⟨by rw [siteErr, if_neg (by omega), if_neg (by omega), if_neg (by omega), if_neg (by omega), if_neg (by omega), e], rfl, rfl⟩) : B9 := h
theorem ybsad (a : A9) (h : A9 → B9 := by exact LJ_q (by first | exact yv_index_ro tb rfl rfl rfl rfl (by first | assumption | exact zr (by simp)) (i := n.toNat) (by first | rfl | omega | (simp; omega)) (by omega) | exact yv_index tb rfl rfl rfl rfl (i := n.toNat) (by first | rfl | omega | (simp; omega)) (by omega)) rfl) : B9 := h a
theorem ybsae (a : A9) (h : A9 → B9 := by exact CJ_drawn2 tb [] [0, 1, 2, 3, 4, 5, 6, 7, 8, 9, 10] [11] ([Blk.mk b8 _ _, Blk.mk b4 _ _]) _ mixed (by kernel_rfl) (by repeat (first | exact zs0 _ | exact zs1 _ | apply zs2 | apply zs3 | apply zs4 | apply zs5)) (by (repeat (first | apply List.Sublist.cons (a := Blk.mk b8 _ _) | apply List.Sublist.cons_cons)); exact List.Sublist.refl _)) : B9 := h a
theorem ybsaf (a : A9) (h : A9 → B9 := by exact DJ3_q (by first | exact yv_loadN_ro (row := [_, _, _, _, _, _, _, _]) tb rfl rfl rfl (by first | assumption | exact zr (by simp)) (by assumption) (by rfl) (by rfl) | exact yv_loadN (row := [_, _, _, _, _, _, _, _]) tb rfl rfl rfl (by repeat (first | exact zi0 | apply zi1 | apply zi2)) (by rfl) (by rfl)) rfl rfl rfl rfl) : B9 := h a
theorem ybsag (a : A9) (h : A9 → B9 := by exact DJ3_q (by first | exact yv_loadN_ro (row := [_, _, _, _]) tb rfl rfl rfl (by first | assumption | exact zr (by simp)) (by assumption) (by rfl) (by rfl) | exact yv_loadN (row := [_, _, _, _]) tb rfl rfl rfl (by repeat (first | exact zi0 | apply zi1 | apply zi2)) (by rfl) (by rfl)) rfl rfl rfl rfl) : B9 := h a
end
theorem nzO_none {e : Int} (h : e = 0) : nzO e = none := by rw [nzO, if_pos h]
theorem nzO_some {e : Int} (h : e ≠ 0) : nzO e = some e := by rw [nzO, if_neg h]
abbrev condF (s : XSite) : XCond → Option Int := fun c => nzO (condErr s.sensors.l s.air.mine.roads.l.length c)
abbrev zoneF (s : XSite) : XZone → Option Int := fun z => nzO (zoneErr s.conds.l.length s.air.mine.roads.l.length z)
abbrev persF : Int → Option Int := fun p => if p < 1 ∨ 3 < p then some 19 else none
theorem siteCheck_tri (s : XSite) (L : List Blk) (R : List Sl) (hs : SiteR s R) :
    Tri Try.prog 15 [s.val].toArray L R (fun v L' R' => v = .int .i64 (siteErr s) ∧ L = L' ∧ R = R') := by
  have hsR := hs.sensors
  have hcR := hs.conds
  have hzR := hs.zones
  have hpR := hs.persons
  refine tri_enter 90 Try.call15 Try.func15 rfl rfl rfl ?_
  refine qae ?_
  refine qax ?_
  intro b1
  refine qad ?_
  refine qaw ?_
  refine qab ?_
  refine qa8 ?_
  refine q_l rfl (branchCheck_tri s.air _ _ hs.air) ?_
  refine qad ?_
  refine qam ?_
  refine qaa ?_
  refine qbq ?_
  refine qaf ?_
  refine q_c (fun hc0 => ?_) (fun hc0 => ?_)
  ·
   refine qae ?_
   refine qaa ?_
   refine qad ?_
   refine qbh ?_
   refine q_i (L' := L) (R' := R) ?_
   exact ⟨by rw [siteErr, if_pos hc0], rfl, rfl⟩
  refine qbo ?_
  refine qab ?_
  refine qac ?_
  refine qag ?_
  refine qa5 ?_
  refine qah ?_
  apply LJ_or (G := [_, _, _, _]) (j := 4) (cj := 23) rfl rfl (by rfl) rfl (show _ = Value.bool _ from rfl) rfl
  ·
   intro hg5
   replace hg5 := qb hg5
   refine qab ?_
   refine qac ?_
   refine qag ?_
   refine qa5 ?_
   exact qai
  intro junk5
  refine qah ?_
  apply LJ_or (G := [_, _, _, _]) (j := 10) (cj := 29) rfl rfl (by rfl) rfl (show _ = Value.bool _ from rfl) rfl
  ·
   intro hg11
   replace hg11 := qb hg11
   refine qab ?_
   refine qac ?_
   refine qag ?_
   refine qa5 ?_
   exact qai
  intro junk11
  refine qah ?_
  apply LJ_or (G := [_, _, _, _]) (j := 16) (cj := 35) rfl rfl (by rfl) rfl (show _ = Value.bool _ from rfl) rfl
  ·
   intro hg17
   replace hg17 := qb hg17
   refine qab ?_
   refine qac ?_
   refine qag ?_
   refine qa5 ?_
   exact qai
  intro junk17
  refine qaf ?_
  refine q_c (fun hc1 => ?_) (fun hc1 => ?_)
  ·
   refine qae ?_
   refine qad ?_
   refine qbh ?_
   refine q_i (L' := L) (R' := R) ?_
   exact ⟨by rw [siteErr, if_neg (by omega), if_pos (by omega)], rfl, rfl⟩
  refine qbo ?_
  refine ybsab ?_
  refine q_l rfl (checkSensors_tri s _ _ hsR (by omega)) ?_
  refine qad ?_
  refine qam ?_
  refine qaa ?_
  refine qbq ?_
  refine qaf ?_
  refine q_c (fun hc2 => ?_) (fun hc2 => ?_)
  ·
   refine qae ?_
   refine qaa ?_
   refine qad ?_
   refine qbh ?_
   refine q_i (L' := L) (R' := R) ?_
   exact ⟨by rw [siteErr, if_neg (by omega), if_neg (by omega), if_pos hc2], rfl, rfl⟩
  refine qbo ?_
  refine qab ?_
  refine qac ?_
  refine qag ?_
  refine qaa ?_
  refine qa2 ?_
  refine CJ_forget [(1, Value.pointer _), (47, Value.slice _ _ _), (48, Value.int _ _), (49, Value.int _ _)] (by repeat' (first | exact trivial | refine And.intro rfl ?_)) fun tq0 => ?_
  refine q_s [2, 6, 7, 49, 50, 51, 52, 53, 54, 55, 56, 57, 58, 59] (fun g : FS (condF s) (s.conds.l) => [(49, .int .i64 ((g.1 : Nat) : Int))]) (fun g => (s.conds.l).length - g.1) ⟨0, FS_zero _ _⟩ ?_
  rintro ⟨k0, hk0, hp0⟩ junk
  try dsimp only
  refine qae ?_
  refine qaj ?_
  refine qa4 ?_
  refine q_c (fun hc3 => ?_) (fun hc3 => ?_)
  ·
   obtain ⟨c, hc⟩ := get_some (l := s.conds.l) (k := k0) (by omega)
   refine qbb ?_
   refine LJ_q (by first | exact yv_index_ro tb rfl rfl rfl rfl (by first | assumption | exact zr (by simp)) (i := k0) (by first | rfl | omega | (simp; omega)) (by omega) | exact yv_index tb rfl rfl rfl rfl (i := k0) (by first | rfl | omega | (simp; omega)) (by omega)) rfl ?_
   refine LJ_q (by first | exact yv_loadN_ro (row := [_, _, _, _, _, _]) tb rfl rfl rfl (by first | assumption | exact zr (by simp)) (by assumption) (by rfl) (by rfl) | exact yv_loadN (row := [_, _, _, _, _, _]) tb rfl rfl rfl (by repeat (first | exact zi0 | apply zi1 | apply zi2)) (by rfl) (by rfl)) rfl ?_
   refine qaq ?_
   intro b6
   refine qak ?_
   refine qam ?_
   refine ybsab ?_
   refine LJ_q (yv_loadN (row := [_, _, _, _, _, _]) tb rfl rfl rfl (by repeat (first | exact zi0 | apply zi1 | apply zi2)) (by rfl) (by rfl)) rfl ?_
   refine q_l rfl (checkCond_tri s c _ _ hsR (by omega)) ?_
   refine qad ?_
   refine qam ?_
   refine qaa ?_
   refine qbq ?_
   refine qaf ?_
   refine q_c (fun hc4 => ?_) (fun hc4 => ?_)
   ·
    refine qae ?_
    refine qaa ?_
    refine qad ?_
    refine qbt ?_
    refine q_i (L' := L) (R' := R) ?_
    have e : condsErr s = condErr s.sensors.l s.air.mine.roads.l.length c := by rw [condsErr, FS_some (f := condF s) hp0 hc (nzO_some hc4)]; rfl
    exact ⟨by rw [siteErr, if_neg (by omega), if_neg (by omega), if_neg (by omega), if_pos (by rw [e]; exact hc4), e], rfl, rfl⟩
   refine qbj ?_
   refine qar ?_
   refine qaa ?_
   refine qav ?_
   exact q_k ⟨k0 + 1, FS_next hp0 hc (nzO_none (by omega))⟩
  have hn0 := FS_none hp0 (by omega)
  refine CJ_exit (seqK_exit (loopK_exit (blockK_exit (seqK_normal (CJ_seq (CJ_seq ?_))))))
  have hce : condsErr s = 0 := by rw [condsErr, hn0]; rfl
  refine qay ?_
  refine qab ?_
  refine qac ?_
  refine qag ?_
  refine qaa ?_
  refine qa2 ?_
  refine CJ_forget [(1, Value.pointer _), (61, Value.slice _ _ _), (62, Value.int _ _), (63, Value.int _ _)] (by repeat' (first | exact trivial | refine And.intro rfl ?_)) fun tq1 => ?_
  refine q_s [2, 9, 10, 63, 64, 65, 66, 67, 68, 69, 70, 71, 72, 73] (fun g : FS (zoneF s) (s.zones.l) => [(63, .int .i64 ((g.1 : Nat) : Int))]) (fun g => (s.zones.l).length - g.1) ⟨0, FS_zero _ _⟩ ?_
  rintro ⟨k1, hk1, hp1⟩ junk
  try dsimp only
  refine qae ?_
  refine qaj ?_
  refine qa4 ?_
  refine q_c (fun hc5 => ?_) (fun hc5 => ?_)
  ·
   obtain ⟨z, hz⟩ := get_some (l := s.zones.l) (k := k1) (by omega)
   refine qbb ?_
   refine LJ_q (by first | exact yv_index_ro tb rfl rfl rfl rfl (by first | assumption | exact zr (by simp)) (i := k1) (by first | rfl | omega | (simp; omega)) (by omega) | exact yv_index tb rfl rfl rfl rfl (i := k1) (by first | rfl | omega | (simp; omega)) (by omega)) rfl ?_
   refine qdr ?_
   refine qaq ?_
   intro b9
   refine qak ?_
   refine qam ?_
   refine ybsab ?_
   refine qa8 ?_
   refine q_l rfl (checkZone_tri s z _ _ (InR.rule hzR hz) (InR.zroads hzR hz)) ?_
   refine qad ?_
   refine qam ?_
   refine qaa ?_
   refine qbq ?_
   refine qaf ?_
   refine q_c (fun hc6 => ?_) (fun hc6 => ?_)
   ·
    refine qae ?_
    refine qaa ?_
    refine qad ?_
    refine qbt ?_
    refine q_i (L' := L) (R' := R) ?_
    have e : zonesErr s = zoneErr s.conds.l.length s.air.mine.roads.l.length z := by rw [zonesErr, FS_some (f := zoneF s) hp1 hz (nzO_some hc6)]; rfl
    exact ⟨by rw [siteErr, if_neg (by omega), if_neg (by omega), if_neg (by omega), if_neg (by omega), if_pos (by rw [e]; exact hc6), e], rfl, rfl⟩
   refine qbj ?_
   refine qar ?_
   refine qaa ?_
   refine qav ?_
   exact q_k ⟨k1 + 1, FS_next hp1 hz (nzO_none (by omega))⟩
  have hn1 := FS_none hp1 (by omega)
  refine CJ_exit (seqK_exit (loopK_exit (blockK_exit (seqK_normal (CJ_seq (CJ_seq ?_))))))
  have hze : zonesErr s = 0 := by rw [zonesErr, hn1]; rfl
  refine qay ?_
  refine qab ?_
  refine qac ?_
  refine qag ?_
  refine qaa ?_
  refine qa2 ?_
  refine CJ_forget [(75, Value.slice _ _ _), (76, Value.int _ _), (77, Value.int _ _)] (by repeat' (first | exact trivial | refine And.intro rfl ?_)) fun tq2 => ?_
  refine q_s [2, 12, 77, 78, 79, 80, 81, 82, 83, 84, 85, 86, 87, 88, 89] (fun g : FS (persF) (s.persons.l) => [(77, .int .i64 ((g.1 : Nat) : Int))]) (fun g => (s.persons.l).length - g.1) ⟨0, FS_zero _ _⟩ ?_
  rintro ⟨k2, hk2, hp2⟩ junk
  try dsimp only
  refine qae ?_
  refine qaj ?_
  refine qa4 ?_
  refine q_c (fun hc7 => ?_) (fun hc7 => ?_)
  ·
   obtain ⟨p, hp⟩ := get_some (l := s.persons.l) (k := k2) (by omega)
   refine qbb ?_
   refine LJ_q (by first | exact yv_index_ro tb rfl rfl rfl rfl (by first | assumption | exact zr (by simp)) (i := k2) (by first | rfl | omega | (simp; omega)) (by omega) | exact yv_index tb rfl rfl rfl rfl (i := k2) (by first | rfl | omega | (simp; omega)) (by omega)) rfl ?_
   refine LJ_q (by first | exact yv_loadN_ro (row := [_]) tb rfl rfl rfl (by first | assumption | exact zr (by simp)) (by assumption) (by rfl) (by rfl) | exact yv_loadN (row := [_]) tb rfl rfl rfl (by repeat (first | exact zi0 | apply zi1 | apply zi2)) (by rfl) (by rfl)) rfl ?_
   refine qaq ?_
   intro b12
   refine qak ?_
   refine qam ?_
   refine qab ?_
   refine qac ?_
   refine qaj ?_
   refine qah ?_
   apply LJ_or (G := [_, _, _]) (j := 3) (cj := 84) rfl rfl (by rfl) rfl (show _ = Value.bool _ from rfl) rfl
   ·
    intro hg4
    replace hg4 := qb hg4
    refine qab ?_
    refine qac ?_
    refine qa5 ?_
    exact qai
   intro junk4
   refine qaf ?_
   refine q_c (fun hc8 => ?_) (fun hc8 => ?_)
   ·
    refine qae ?_
    refine qad ?_
    refine qbt ?_
    refine q_i (L' := L) (R' := R) ?_
    have e : personsErr s = 19 := by rw [personsErr, FS_some (f := persF) hp2 hp (show persF p = some 19 from if_pos hc8)]; rfl
    exact ybsac
   refine qbj ?_
   refine qar ?_
   refine qaa ?_
   refine qav ?_
   exact q_k ⟨k2 + 1, FS_next hp2 hp (show persF p = none from if_neg (by omega))⟩
  have hn2 := FS_none hp2 (by omega)
  refine qbk ?_
  refine qad ?_
  refine qa0 ?_
  refine q_i (L' := L) (R' := R) ?_
  have e : personsErr s = 0 := by rw [personsErr, hn2]; rfl
  exact ybsac
theorem known_tri (s : XSite) (m : Arr XMeas) (n t : Int) (L : List Blk) (R : List Sl) (hs : InR (sesl s.sensors) R) (hm : InR (mesl m) R) (hok : ∀ x ∈ m.l, MeasOk x) (ht : 0 ≤ t ∧ t ≤ 2147483648) :
    Tri Try.prog 21 [s.val, m.val, .int .i64 n, .int .i64 t].toArray L R (fun v L' R' => v = (knownS s.sensors.l m.l n t).val ∧ L = L' ∧ R = R') := by
  refine tri_enter 42 Try.call21 Try.func21 rfl rfl rfl ?_
  refine qae ?_
  refine qax ?_
  intro b4
  refine qaq ?_
  intro b8
  refine qaw ?_
  refine qaa ?_
  refine qab ?_
  refine qac ?_
  refine qag ?_
  refine q_l rfl (has_tri n (s.sensors.l.length : Int) _ _) ?_
  refine qb4 ?_
  refine qah ?_
  apply LJ_or (G := [_, _, _, _]) (j := 6) (cj := 15) rfl rfl (by rfl) rfl (show _ = Value.bool _ from rfl) rfl
  ·
   intro hg7
   replace hg7 := qb hg7
   refine qaa ?_
   refine qbm ?_
   refine qag ?_
   refine qbz ?_
   exact qai
  intro junk7
  refine qah ?_
  apply LJ_or (G := [_, _, _, _, _, _, _]) (j := 12) (cj := 21) rfl rfl (by rfl) rfl (show _ = Value.bool _ from rfl) rfl
  ·
   intro hg13
   replace hg13 := qb hg13
   have hmg := get_D (l := m.l) (k := n.toNat) default (by (try simp at hg13); omega)
   refine qbm ?_
   refine qaa ?_
   have hnn : 0 ≤ n ∧ n < m.l.length := by (try simp at hg13); omega
   refine ybsad ?_
   refine qb0 ?_
   refine qa7 ?_
   refine qaa ?_
   refine qbq ?_
   exact qai
  intro junk13
  refine qaf ?_
  refine q_c (fun hc0 => ?_) (fun hc0 => ?_)
  ·
   refine qae ?_
   refine q_l rfl (sensNothing_tri _ _) ?_
   refine qak ?_
   refine qbh ?_
   refine q_r (L' := L) (R' := R) (res1 rfl (rv_cell (row := [_, _]) tb rfl rfl rfl (by repeat (first | exact zi0 | apply zi1 | apply zi2)) (by rfl) (by rfl))) ?_
   exact ⟨by rw [knownS, if_neg (by omega)], rfl, rfl⟩
  have hmg := get_D (l := m.l) (k := n.toNat) default (by omega)
  have hsg := get_D (l := s.sensors.l) (k := n.toNat) default (by omega)
  have hmo := hok _ (List.mem_of_getElem? hmg)
  refine qcl ?_
  refine ybsae ?_
  refine qan ?_
  refine qau ?_
  refine qbf ?_
  refine ybsaa ?_
  refine ybsaf ?_
  refine qct ?_
  refine qbf ?_
  refine ybsaa ?_
  refine ybsag ?_
  refine qbf ?_
  refine DJ3_call rfl (at_tri _ _ t _ _ hmo ht) rfl rfl ?_
  rintro v L' R' ⟨rfl, rfl, rfl⟩
  refine qas ?_
  refine qba ?_
  refine qbg ?_
  refine DJ_nil (seqK_normal (CJ_ret ?_))
  refine q_r (L' := L) (R' := R) (res1 rfl (rv_cell (row := [_, _]) tb rfl rfl rfl (by repeat (first | exact zi0 | apply zi1 | apply zi2)) (by rfl) (by rfl))) ?_
  exact ⟨by rw [knownS, if_pos (by omega)], rfl, rfl⟩
theorem refKnown_tri (s : XSite) (m : Arr XMeas) (n t : Int) (L : List Blk) (R : List Sl) (hs : InR (sesl s.sensors) R) (hm : InR (mesl m) R) (hok : ∀ x ∈ m.l, MeasOk x) (ht : 0 ≤ t ∧ t ≤ 2147483648) :
    Tri Try.prog 22 [s.val, m.val, .int .i64 n, .int .i64 t].toArray L R (fun v L' R' => v = (knownS s.sensors.l m.l n t).val ∧ L = L' ∧ R = R') := by
  refine tri_enter 45 Try.call22 Try.func22 rfl rfl rfl ?_
  refine qae ?_
  refine qax ?_
  intro b4
  refine qaq ?_
  intro b8
  refine qaw ?_
  refine qaa ?_
  refine qaj ?_
  refine qah ?_
  apply LJ_or (G := [_, _, _, _, _]) (j := 2) (cj := 11) rfl rfl (by rfl) rfl (show _ = Value.bool _ from rfl) rfl
  ·
   intro hg3
   replace hg3 := qb hg3
   refine qaa ?_
   refine qab ?_
   refine qac ?_
   refine qag ?_
   refine qbz ?_
   exact qai
  intro junk3
  refine qah ?_
  apply LJ_or (G := [_, _, _, _]) (j := 9) (cj := 18) rfl rfl (by rfl) rfl (show _ = Value.bool _ from rfl) rfl
  ·
   intro hg10
   replace hg10 := qb hg10
   refine qaa ?_
   refine qbm ?_
   refine qag ?_
   refine qbz ?_
   exact qai
  intro junk10
  refine qah ?_
  apply LJ_or (G := [_, _, _, _, _, _, _]) (j := 15) (cj := 24) rfl rfl (by rfl) rfl (show _ = Value.bool _ from rfl) rfl
  ·
   intro hg16
   replace hg16 := qb hg16
   have hmg := get_D (l := m.l) (k := n.toNat) default (by (try simp at hg16); omega)
   refine qbm ?_
   refine qaa ?_
   have hnn : 0 ≤ n ∧ n < m.l.length := by (try simp at hg16); omega
   refine ybsad ?_
   refine qb0 ?_
   refine qa7 ?_
   refine qaa ?_
   refine qbq ?_
   exact qai
  intro junk16
  refine qaf ?_
  refine q_c (fun hc0 => ?_) (fun hc0 => ?_)
  ·
   refine qae ?_
   refine q_l rfl (nothing_tri _ _) ?_
   refine qak ?_
   refine qbh ?_
   refine q_r (L' := L) (R' := R) (res1 rfl (rv_cell (row := [_, _]) tb rfl rfl rfl (by repeat (first | exact zi0 | apply zi1 | apply zi2)) (by rfl) (by rfl))) ?_
   exact ⟨by rw [knownS, if_neg (by omega)], rfl, rfl⟩
  have hmg := get_D (l := m.l) (k := n.toNat) default (by omega)
  have hsg := get_D (l := s.sensors.l) (k := n.toNat) default (by omega)
  have hmo := hok _ (List.mem_of_getElem? hmg)
  refine qcl ?_
  refine ybsae ?_
  refine qan ?_
  refine qau ?_
  refine qbf ?_
  refine ybsaa ?_
  refine ybsaf ?_
  refine qct ?_
  refine qbf ?_
  refine ybsaa ?_
  refine ybsag ?_
  refine qbf ?_
  refine DJ3_call rfl (refAt_tri _ _ t _ _ hmo ht) rfl rfl ?_
  rintro v L' R' ⟨rfl, rfl, rfl⟩
  refine qas ?_
  refine qba ?_
  refine qbg ?_
  refine DJ_nil (seqK_normal (CJ_ret ?_))
  refine q_r (L' := L) (R' := R) (res1 rfl (rv_cell (row := [_, _]) tb rfl rfl rfl (by repeat (first | exact zi0 | apply zi1 | apply zi2)) (by rfl) (by rfl))) ?_
  exact ⟨by rw [knownS, if_pos (by omega)], rfl, rfl⟩
theorem stopped_tri (x : XSpan) (L : List Blk) (R : List Sl) :
    Tri Try.prog 71 [x.val].toArray L R (fun v L' R' => v = .int .i64 (stoppedS x) ∧ L = L' ∧ R = R') := by
  refine tri_enter 27 Try.call71 Try.func71 rfl rfl rfl ?_
  refine qae ?_
  refine qax ?_
  intro b1
  refine qad ?_
  refine LJ_nil (seqK_normal (CJ_seq (CJ_block (CJ_seq (CJ_region ?_)))))
  refine qab ?_
  refine qac ?_
  refine qab ?_
  refine qac ?_
  refine qa5 ?_
  refine qaz ?_
  refine qaf ?_
  refine q_c (fun hc0 => ?_) (fun hc0 => ?_)
  ·
   refine qae ?_
   refine qad ?_
   refine qdb ?_
   refine q_i (L' := L) (R' := R) ?_
   exact ⟨by refine congrArg (Value.int .i64) ?_; rw [stoppedS]; (repeat' split) <;> omega, rfl, rfl⟩
  refine qae ?_
  refine qab ?_
  refine qac ?_
  refine qbn ?_
  refine qah ?_
  apply LJ_and (G := [_, _, _]) (j := 3) (cj := 13) rfl rfl (by rfl) rfl (show _ = Value.bool _ from rfl) rfl
  ·
   intro hg4
   replace hg4 := qb hg4
   refine qab ?_
   refine qac ?_
   refine qbn ?_
   exact qai
  intro junk4
  refine qaz ?_
  refine qaf ?_
  refine q_c (fun hc1 => ?_) (fun hc1 => ?_)
  ·
   refine qae ?_
   refine qad ?_
   refine qdb ?_
   refine q_i (L' := L) (R' := R) ?_
   exact ⟨by refine congrArg (Value.int .i64) ?_; rw [stoppedS]; (repeat' split) <;> omega, rfl, rfl⟩
  refine qae ?_
  refine qab ?_
  refine qac ?_
  refine qa5 ?_
  refine qah ?_
  apply LJ_or (G := [_, _, _]) (j := 3) (cj := 22) rfl rfl (by rfl) rfl (show _ = Value.bool _ from rfl) rfl
  ·
   intro hg4
   replace hg4 := qb hg4
   refine qab ?_
   refine qac ?_
   refine qaj ?_
   exact qai
  intro junk4
  refine qaz ?_
  refine qaf ?_
  refine q_c (fun hc2 => ?_) (fun hc2 => ?_)
  ·
   refine qae ?_
   refine qad ?_
   refine qdb ?_
   refine q_i (L' := L) (R' := R) ?_
   exact ⟨by refine congrArg (Value.int .i64) ?_; rw [stoppedS]; (repeat' split) <;> omega, rfl, rfl⟩
  refine CJ_skip (blockK_normal (seqK_normal (CJ_seq (CJ_region ?_))))
  refine qad ?_
  refine qa0 ?_
  refine q_i (L' := L) (R' := R) ?_
  exact ⟨by refine congrArg (Value.int .i64) ?_; rw [stoppedS]; (repeat' split) <;> omega, rfl, rfl⟩

theorem refStopped_tri (x : XSpan) (L : List Blk) (R : List Sl) :
    Tri Try.prog 110 [x.val].toArray L R (fun v L' R' => v = .int .i64 (stoppedS x) ∧ L = L' ∧ R = R') := by
  refine tri_enter 24 Try.call110 Try.func110 rfl rfl rfl ?_
  refine qae ?_
  refine qax ?_
  intro b1
  refine qad ?_
  refine qaw ?_
  refine qab ?_
  refine qac ?_
  refine qab ?_
  refine qac ?_
  refine qa5 ?_
  refine qaf ?_
  refine q_c (fun hc0 => ?_) (fun hc0 => ?_)
  ·
   refine qae ?_
   refine qad ?_
   refine qbh ?_
   refine q_i (L' := L) (R' := R) ?_
   exact ⟨by refine congrArg (Value.int .i64) ?_; rw [stoppedS]; (repeat' split) <;> omega, rfl, rfl⟩
  refine qbo ?_
  refine qab ?_
  refine qac ?_
  refine qbn ?_
  refine qah ?_
  apply LJ_and (G := [_, _, _]) (j := 3) (cj := 11) rfl rfl (by rfl) rfl (show _ = Value.bool _ from rfl) rfl
  ·
   intro hg4
   replace hg4 := qb hg4
   refine qab ?_
   refine qac ?_
   refine qbn ?_
   exact qai
  intro junk4
  refine qaf ?_
  refine q_c (fun hc1 => ?_) (fun hc1 => ?_)
  ·
   refine qae ?_
   refine qad ?_
   refine qbh ?_
   refine q_i (L' := L) (R' := R) ?_
   exact ⟨by refine congrArg (Value.int .i64) ?_; rw [stoppedS]; (repeat' split) <;> omega, rfl, rfl⟩
  refine qbo ?_
  refine qab ?_
  refine qac ?_
  refine qa5 ?_
  refine qah ?_
  apply LJ_or (G := [_, _, _]) (j := 3) (cj := 19) rfl rfl (by rfl) rfl (show _ = Value.bool _ from rfl) rfl
  ·
   intro hg4
   replace hg4 := qb hg4
   refine qab ?_
   refine qac ?_
   refine qaj ?_
   exact qai
  intro junk4
  refine qaf ?_
  refine q_c (fun hc2 => ?_) (fun hc2 => ?_)
  ·
   refine qae ?_
   refine qad ?_
   refine qbh ?_
   refine q_i (L' := L) (R' := R) ?_
   exact ⟨by refine congrArg (Value.int .i64) ?_; rw [stoppedS]; (repeat' split) <;> omega, rfl, rfl⟩
  refine qbv ?_
  refine qad ?_
  refine qa0 ?_
  refine q_i (L' := L) (R' := R) ?_
  exact ⟨by refine congrArg (Value.int .i64) ?_; rw [stoppedS]; (repeat' split) <;> omega, rfl, rfl⟩

theorem over_tri (c : XCond) (w : XWatch) (x : XSpan) (L : List Blk) (R : List Sl) :
    Tri Try.prog 69 [c.val, w.val, x.val].toArray L R (fun v L' R' => v = .int .i64 (if w.over = false then -1 else if aboveS x c.level.cut = 1 then 1 else 0) ∧ L = L' ∧ R = R') := by
  refine tri_enter 18 Try.call69 Try.func69 rfl rfl rfl ?_
  refine qae ?_
  refine qax ?_
  intro b3
  refine qax ?_
  intro b4
  refine qax ?_
  intro b5
  refine qad ?_
  refine LJ_nil (seqK_normal (CJ_seq (CJ_block (CJ_seq (CJ_region ?_)))))
  refine qab ?_
  refine qac ?_
  refine qb4 ?_
  refine qaz ?_
  refine qaf ?_
  refine q_c (fun hc0 => ?_) (fun hc0 => ?_)
  ·
   refine qae ?_
   refine qad ?_
   refine qdb ?_
   refine q_i (L' := L) (R' := R) ?_
   exact ⟨by rw [if_pos (by simpa using hc0)], rfl, rfl⟩
  refine qae ?_
  refine qbe ?_
  refine qab ?_
  refine qab ?_
  refine qac ?_
  refine q_l rfl (above_tri x c.level.cut _ _) ?_
  refine qbn ?_
  refine qaz ?_
  refine qaf ?_
  refine q_c (fun hc1 => ?_) (fun hc1 => ?_)
  ·
   refine qae ?_
   refine qad ?_
   refine qdb ?_
   refine q_i (L' := L) (R' := R) ?_
   exact ⟨by rw [if_neg (by simpa using hc0), if_pos hc1], rfl, rfl⟩
  refine CJ_skip (blockK_normal (seqK_normal (CJ_seq (CJ_region ?_))))
  refine qad ?_
  refine qa0 ?_
  refine q_i (L' := L) (R' := R) ?_
  exact ⟨by rw [if_neg (by simpa using hc0), if_neg hc1], rfl, rfl⟩
end Go.Proofs.Ytkpfjmibipblhaa
end
