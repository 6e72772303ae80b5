/-
  Thresholds: level.Check, level.Step and the reference's; window.Above. By an AI agent; no person has read it.
-/
import Derived.Test.YtkpfjmibipblhaaSiteS
set_option linter.unusedSimpArgs false
set_option linter.unusedVariables false
namespace Go.Proofs.Ytkpfjmibipblhaa
open Go.Aw Go
set_option maxRecDepth 20000
attribute [local irreducible] CJ LJ DJ Tri YV Gives seqK blockK loopK retK RV mergeK OwL.L
section
variable {A9 B9 : Prop}
theorem ybmaa (a : A9) (h : A9 → B9 := by exact LJ_q (yv_loadN (row := [_, _, _]) tb rfl rfl rfl (by repeat (first | exact zi0 | apply zi1 | apply zi2)) (by rfl) (by rfl)) rfl) : B9 := h a
theorem ybmab (a : A9) (h : A9 → B9 := by exact LJ_q (yv_build (qs := []) (out := [_, _, _]) tb rfl rfl rfl rfl) rfl) : B9 := h a
theorem ybmac (a : A9) (h : A9 → B9 := by exact LJ_store1 (v := Value.bool _) tb rfl rfl rfl rfl (by repeat (first | apply zu0 | apply zu1 | apply zu2)) (by first | exact icell_fit (by omega) | rfl) (by first | exact icell_set | rfl) (by rfl)) : B9 := h a
theorem ybmad (h : B9 := by exact ⟨by rw [hE, stepTo, if_neg h3, if_pos (by simpa using hc4)]; first | rfl | rw [show w.over = false by simpa using hc4], rfl, rfl⟩) : B9 := h
theorem ybmae (h : B9 := by exact ⟨by rw [hE, stepTo, if_neg h3, if_neg (by rw [ho]; decide), if_pos (by omega)]; first | rfl | rw [ho], rfl, rfl⟩) : B9 := h
theorem ybmaf (h : B9 := by exact ⟨by rw [hE, stepTo, if_neg h3, if_neg (by rw [ho]; decide), if_neg h5, if_pos (by first | (rw [if_pos hc6]; omega) | (rw [if_neg hc6]; omega))], rfl, rfl⟩) : B9 := h
theorem ybmag (h : B9 := by exact ⟨by rw [hE, stepTo, if_neg h3, if_neg (by rw [ho]; decide), if_neg h5, if_neg (by first | (rw [if_pos hc6]; omega) | (rw [if_neg hc6]; omega))]; first | (rw [if_pos hc6, ho]; done) | (rw [if_neg hc6, ho]; done), rfl, rfl⟩) : B9 := h
theorem ybmah (h : B9 := by exact ⟨by rw [hE, stepTo, if_neg h3, if_neg (by rw [ho]; decide), if_neg h5, if_pos (by first | (rw [if_pos (by omega)]; omega) | (rw [if_neg (by omega)]; omega))], rfl, rfl⟩) : B9 := h
theorem ybmai (h : B9 := by exact ⟨by rw [hE, stepTo, if_neg h3, if_neg (by rw [ho]; decide), if_neg h5, if_neg (by first | (rw [if_pos (by omega)]; omega) | (rw [if_neg (by omega)]; omega))]; first | (rw [if_pos (by omega), ho]; done) | (rw [if_neg (by omega), ho]; done), rfl, rfl⟩) : B9 := h
end
theorem levelCheck_tri (l : XLevel) (L : List Blk) (R : List Sl) :
    Tri Try.prog 94 [l.val].toArray L R (fun v L' R' => v = .int .i64 (levelErr l) ∧ L = L' ∧ R = R') := by
  refine tri_enter 28 Try.call94 Try.func94 rfl rfl rfl ?_
  refine qae ?_
  refine qax ?_
  intro b1
  refine qad ?_
  refine qaw ?_
  refine qab ?_
  refine qac ?_
  refine qa5 ?_
  refine qah ?_
  apply LJ_or (G := [_, _, _]) (j := 3) (cj := 6) rfl rfl (by rfl) rfl (show _ = Value.bool _ from rfl) rfl
  ·
   intro hg4
   replace hg4 := qb hg4
   refine qab ?_
   refine qac ?_
   refine qaj ?_
   exact qai
  intro junk4
  refine qah ?_
  apply LJ_or (G := [_, _, _, _, _]) (j := 8) (cj := 11) rfl rfl (by rfl) rfl (show _ = Value.bool _ from rfl) rfl
  ·
   intro hg9
   replace hg9 := qb hg9
   refine qab ?_
   refine qac ?_
   refine qab ?_
   refine qac ?_
   refine qbz ?_
   exact qai
  intro junk9
  refine qah ?_
  apply LJ_or (G := [_, _, _]) (j := 15) (cj := 18) rfl rfl (by rfl) rfl (show _ = Value.bool _ from rfl) rfl
  ·
   intro hg16
   replace hg16 := qb hg16
   refine qab ?_
   refine qac ?_
   refine qaj ?_
   exact qai
  intro junk16
  refine qah ?_
  apply LJ_or (G := [_, _, _]) (j := 20) (cj := 23) rfl rfl (by rfl) rfl (show _ = Value.bool _ from rfl) rfl
  ·
   intro hg21
   replace hg21 := qb hg21
   refine qab ?_
   refine qac ?_
   refine qa5 ?_
   exact qai
  intro junk21
  refine qaf ?_
  refine q_c (fun hc0 => ?_) (fun hc0 => ?_)
  ·
   refine qae ?_
   refine qad ?_
   refine qbh ?_
   refine q_i (L' := L) (R' := R) ?_
   exact ⟨by (try simp at hc0); rw [levelErr, if_neg (by rw [LevelOk]; omega)], rfl, rfl⟩
  refine qbv ?_
  refine qad ?_
  refine qa0 ?_
  refine q_i (L' := L) (R' := R) ?_
  exact ⟨by (try simp at hc0); rw [levelErr, if_pos (by rw [LevelOk]; omega)], rfl, rfl⟩

theorem refLevel_tri (l : XLevel) (L : List Blk) (R : List Sl) :
    Tri Try.prog 100 [l.val].toArray L R (fun v L' R' => v = .int .i64 (levelErr l) ∧ L = L' ∧ R = R') := by
  refine tri_enter 28 Try.call100 Try.func100 rfl rfl rfl ?_
  refine qae ?_
  refine qax ?_
  intro b1
  refine qad ?_
  refine qaw ?_
  refine qab ?_
  refine qac ?_
  refine qaj ?_
  refine qah ?_
  apply LJ_or (G := [_, _, _, _, _]) (j := 3) (cj := 6) rfl rfl (by rfl) rfl (show _ = Value.bool _ from rfl) rfl
  ·
   intro hg4
   replace hg4 := qb hg4
   refine qab ?_
   refine qac ?_
   refine qab ?_
   refine qac ?_
   refine qbz ?_
   exact qai
  intro junk4
  refine qah ?_
  apply LJ_or (G := [_, _, _]) (j := 10) (cj := 13) rfl rfl (by rfl) rfl (show _ = Value.bool _ from rfl) rfl
  ·
   intro hg11
   replace hg11 := qb hg11
   refine qab ?_
   refine qac ?_
   refine qa5 ?_
   exact qai
  intro junk11
  refine qah ?_
  apply LJ_or (G := [_, _, _]) (j := 15) (cj := 18) rfl rfl (by rfl) rfl (show _ = Value.bool _ from rfl) rfl
  ·
   intro hg16
   replace hg16 := qb hg16
   refine qab ?_
   refine qac ?_
   refine qaj ?_
   exact qai
  intro junk16
  refine qah ?_
  apply LJ_or (G := [_, _, _]) (j := 20) (cj := 23) rfl rfl (by rfl) rfl (show _ = Value.bool _ from rfl) rfl
  ·
   intro hg21
   replace hg21 := qb hg21
   refine qab ?_
   refine qac ?_
   refine qa5 ?_
   exact qai
  intro junk21
  refine qaf ?_
  refine q_c (fun hc0 => ?_) (fun hc0 => ?_)
  ·
   refine qae ?_
   refine qad ?_
   refine qbh ?_
   refine q_i (L' := L) (R' := R) ?_
   exact ⟨by (try simp at hc0); rw [levelErr, if_neg (by rw [LevelOk]; omega)], rfl, rfl⟩
  refine qbv ?_
  refine qad ?_
  refine qa0 ?_
  refine q_i (L' := L) (R' := R) ?_
  exact ⟨by (try simp at hc0); rw [levelErr, if_pos (by rw [LevelOk]; omega)], rfl, rfl⟩

theorem above_tri (x : XSpan) (n : Int) (L : List Blk) (R : List Sl) :
    Tri Try.prog 70 [x.val, .int .i64 n].toArray L R (fun v L' R' => v = .int .i64 (aboveS x n) ∧ L = L' ∧ R = R') := by
  refine tri_enter 21 Try.call70 Try.func70 rfl rfl rfl ?_
  refine qae ?_
  refine qax ?_
  intro b2
  refine qad ?_
  refine LJ_nil (seqK_normal (CJ_seq (CJ_block (CJ_seq (CJ_region ?_)))))
  refine qab ?_
  refine qac ?_
  refine qab ?_
  refine qac ?_
  refine qa5 ?_
  refine qaz ?_
  refine qaf ?_
  refine q_c (fun hc0 => ?_) (fun hc0 => ?_)
  ·
   refine qae ?_
   refine qad ?_
   refine qdb ?_
   refine q_i (L' := L) (R' := R) ?_
   exact ⟨by rw [aboveS, if_pos hc0], rfl, rfl⟩
  refine qae ?_
  refine qab ?_
  refine qac ?_
  refine qaa ?_
  refine qbz ?_
  refine qaz ?_
  refine qaf ?_
  refine q_c (fun hc1 => ?_) (fun hc1 => ?_)
  ·
   refine qae ?_
   refine qad ?_
   refine qdb ?_
   refine q_i (L' := L) (R' := R) ?_
   exact ⟨by rw [aboveS, if_neg (by omega), if_pos hc1], rfl, rfl⟩
  refine qae ?_
  refine qab ?_
  refine qac ?_
  refine qaa ?_
  refine qaj ?_
  refine qaz ?_
  refine qaf ?_
  refine q_c (fun hc2 => ?_) (fun hc2 => ?_)
  ·
   refine qae ?_
   refine qad ?_
   refine qdb ?_
   refine q_i (L' := L) (R' := R) ?_
   exact ⟨by rw [aboveS, if_neg (by omega), if_neg (by omega), if_pos hc2], rfl, rfl⟩
  refine CJ_skip (blockK_normal (seqK_normal (CJ_seq (CJ_region ?_))))
  refine qad ?_
  refine qa0 ?_
  refine q_i (L' := L) (R' := R) ?_
  exact ⟨by rw [aboveS, if_neg (by omega), if_neg (by omega), if_neg (by omega)], rfl, rfl⟩

theorem refAbove_tri (x : XSpan) (n : Int) (L : List Blk) (R : List Sl) :
    Tri Try.prog 109 [x.val, .int .i64 n].toArray L R (fun v L' R' => v = .int .i64 (aboveS x n) ∧ L = L' ∧ R = R') := by
  refine tri_enter 18 Try.call109 Try.func109 rfl rfl rfl ?_
  refine qae ?_
  refine qax ?_
  intro b2
  refine qad ?_
  refine qaw ?_
  refine qab ?_
  refine qac ?_
  refine qab ?_
  refine qac ?_
  refine qa5 ?_
  refine qaf ?_
  refine q_c (fun hc0 => ?_) (fun hc0 => ?_)
  ·
   refine qae ?_
   refine qad ?_
   refine qbh ?_
   refine q_i (L' := L) (R' := R) ?_
   exact ⟨by rw [aboveS, if_pos hc0], rfl, rfl⟩
  refine qbo ?_
  refine qab ?_
  refine qac ?_
  refine qaa ?_
  refine qbz ?_
  refine qaf ?_
  refine q_c (fun hc1 => ?_) (fun hc1 => ?_)
  ·
   refine qae ?_
   refine qad ?_
   refine qbh ?_
   refine q_i (L' := L) (R' := R) ?_
   exact ⟨by rw [aboveS, if_neg (by omega), if_pos hc1], rfl, rfl⟩
  refine qbo ?_
  refine qab ?_
  refine qac ?_
  refine qaa ?_
  refine qaj ?_
  refine qaf ?_
  refine q_c (fun hc2 => ?_) (fun hc2 => ?_)
  ·
   refine qae ?_
   refine qad ?_
   refine qbh ?_
   refine q_i (L' := L) (R' := R) ?_
   exact ⟨by rw [aboveS, if_neg (by omega), if_neg (by omega), if_pos hc2], rfl, rfl⟩
  refine qbv ?_
  refine qad ?_
  refine qa0 ?_
  refine q_i (L' := L) (R' := R) ?_
  exact ⟨by rw [aboveS, if_neg (by omega), if_neg (by omega), if_neg (by omega)], rfl, rfl⟩

theorem levelErr_iff {l : XLevel} : levelErr l = 0 ↔ LevelOk l := by rw [levelErr]; split <;> simp_all
theorem stepErr_ok {l : XLevel} {w : XWatch} {t : Int} (h1 : LevelOk l) (h2 : ¬ (t < 0 ∨ 2147483648 < t ∨ t < w.last)) (h3 : WatchOk w) : stepErr l w t = 0 := by
  rw [stepErr, if_neg (fun h => h h1), if_neg h2, if_neg (fun h => h h3)]
theorem stepS_of {l : XLevel} {w : XWatch} {x : XSpan} {t : Int} {e : Int} (h : stepErr l w t = e) (he : e ≠ 0) : stepS l w x t = noWatch := by
  rw [stepS, if_neg (by omega)]
theorem stepS_ok {l : XLevel} {w : XWatch} {x : XSpan} {t : Int} (h : stepErr l w t = 0) : stepS l w x t = stepTo l w x t := by
  rw [stepS, if_pos h]
theorem step_tri (l : XLevel) (w : XWatch) (x : XSpan) (t : Int) (L : List Blk) (R : List Sl) :
    Tri Try.prog 68 [l.val, w.val, x.val, .int .i64 t].toArray L R (fun v L' R' => v = .tuple #[(stepS l w x t).val, .int .i64 (stepErr l w t)] ∧ L = L' ∧ R = R') := by
  refine tri_enter 97 Try.call68 Try.func68 rfl rfl rfl ?_
  refine qae ?_
  refine qax ?_
  intro b4
  refine qax ?_
  intro b5
  refine qax ?_
  intro b6
  refine qaq ?_
  intro b8
  refine qad ?_
  refine qaw ?_
  refine ybmaa ?_
  refine q_l rfl (levelCheck_tri l _ _) ?_
  refine qad ?_
  refine qam ?_
  refine qaa ?_
  refine qbq ?_
  refine qaf ?_
  refine q_c (fun hc0 => ?_) (fun hc0 => ?_)
  ·
   refine qae ?_
   refine ybmab ?_
   refine qaa ?_
   refine qak ?_
   refine qad ?_
   refine qbh ?_
   refine q_r (L' := L) (R' := R) (res2 rfl (rv_cell (row := [_, _, _]) tb rfl rfl rfl (by repeat (first | exact zi0 | apply zi1 | apply zi2)) (by rfl) (by rfl)) (rv_tmp (show _ = Value.int _ _ from rfl))) ?_
   have hl : ¬ LevelOk l := fun h => by rw [levelErr_iff.2 h] at hc0; omega
   have hE : stepErr l w t = 1 := by rw [stepErr, if_pos hl]
   exact ⟨by rw [hE, stepS_of hE (by decide), levelErr, if_neg hl]; rfl, rfl, rfl⟩
  have hl : LevelOk l := levelErr_iff.1 (by omega)
  refine qbo ?_
  refine qaa ?_
  refine qaj ?_
  refine qah ?_
  apply LJ_or (G := [_, _]) (j := 2) (cj := 19) rfl rfl (by rfl) rfl (show _ = Value.bool _ from rfl) rfl
  ·
   intro hg3
   replace hg3 := qb hg3
   refine qaa ?_
   refine qa5 ?_
   exact qai
  intro junk3
  refine qah ?_
  apply LJ_or (G := [_, _, _, _]) (j := 6) (cj := 23) rfl rfl (by rfl) rfl (show _ = Value.bool _ from rfl) rfl
  ·
   intro hg7
   replace hg7 := qb hg7
   refine qaa ?_
   refine qab ?_
   refine qac ?_
   refine qaj ?_
   exact qai
  intro junk7
  refine qaf ?_
  refine q_c (fun hc1 => ?_) (fun hc1 => ?_)
  ·
   refine qae ?_
   refine ybmab ?_
   refine qak ?_
   refine qad ?_
   refine qbh ?_
   refine q_r (L' := L) (R' := R) (res2 rfl (rv_cell (row := [_, _, _]) tb rfl rfl rfl (by repeat (first | exact zi0 | apply zi1 | apply zi2)) (by rfl) (by rfl)) (rv_tmp (show _ = Value.int _ _ from rfl))) ?_
   have hE : stepErr l w t = 8 := by rw [stepErr, if_neg (fun h => h hl), if_pos (by (try simp at hc1); omega)]
   exact ⟨by rw [hE, stepS_of hE (by decide)]; rfl, rfl, rfl⟩
  have ht : ¬ (t < 0 ∨ 2147483648 < t ∨ t < w.last) := by (try simp at hc1); omega
  refine qbo ?_
  refine qab ?_
  refine qac ?_
  refine qaj ?_
  refine qah ?_
  apply LJ_or (G := [_, _, _]) (j := 3) (cj := 33) rfl rfl (by rfl) rfl (show _ = Value.bool _ from rfl) rfl
  ·
   intro hg4
   replace hg4 := qb hg4
   refine qab ?_
   refine qac ?_
   refine qa5 ?_
   exact qai
  intro junk4
  refine qah ?_
  apply LJ_or (G := [_, _, _]) (j := 8) (cj := 38) rfl rfl (by rfl) rfl (show _ = Value.bool _ from rfl) rfl
  ·
   intro hg9
   replace hg9 := qb hg9
   refine qab ?_
   refine qac ?_
   refine qaj ?_
   exact qai
  intro junk9
  refine qah ?_
  apply LJ_or (G := [_, _, _, _, _]) (j := 13) (cj := 43) rfl rfl (by rfl) rfl (show _ = Value.bool _ from rfl) rfl
  ·
   intro hg14
   replace hg14 := qb hg14
   refine qab ?_
   refine qac ?_
   refine qab ?_
   refine qac ?_
   refine qa5 ?_
   exact qai
  intro junk14
  refine qah ?_
  apply LJ_or (G := [_, _, _, _, _, _, _, _]) (j := 20) (cj := 50) rfl rfl (by rfl) rfl (show _ = Value.bool _ from rfl) rfl
  ·
   intro hg21
   replace hg21 := qb hg21
   refine qab ?_
   refine qac ?_
   refine qbq ?_
   refine qah ?_
   apply LJ_and (G := [_, _, _]) (j := 24) (cj := 54) rfl rfl (by rfl) rfl (show _ = Value.bool _ from rfl) rfl
   ·
    intro hg25
    replace hg25 := qb hg25
    refine qab ?_
    refine qac ?_
    refine qb4 ?_
    exact qai
   intro junk25
   exact qai
  intro junk21
  refine qaf ?_
  refine q_c (fun hc2 => ?_) (fun hc2 => ?_)
  ·
   refine qae ?_
   refine ybmab ?_
   refine qak ?_
   refine qad ?_
   refine qbh ?_
   refine q_r (L' := L) (R' := R) (res2 rfl (rv_cell (row := [_, _, _]) tb rfl rfl rfl (by repeat (first | exact zi0 | apply zi1 | apply zi2)) (by rfl) (by rfl)) (rv_tmp (show _ = Value.int _ _ from rfl))) ?_
   have hE : stepErr l w t = 10 := by
     rw [stepErr, if_neg (fun h => h hl), if_neg ht, if_pos]
     rw [WatchOk]
     cases ho : w.over <;> simp [ho] at hc2 ⊢ <;> omega
   exact ⟨by rw [hE, stepS_of hE (by decide)]; rfl, rfl, rfl⟩
  have hE : stepErr l w t = 0 := stepErr_ok hl ht (by
    rw [WatchOk]
    cases ho : w.over <;> simp [ho] at hc2 ⊢ <;> omega)
  rw [stepS_ok hE]
  refine qbv ?_
  refine qaa ?_
  refine qab ?_
  refine qcn ?_
  refine LJ_nil (seqK_normal (CJ_seq (CJ_block (CJ_seq (CJ_region ?_)))))
  refine qbe ?_
  refine qab ?_
  refine qac ?_
  refine q_l rfl (above_tri x l.cut _ _) ?_
  refine qbq ?_
  refine qaz ?_
  refine qaf ?_
  refine q_c (fun hc3 => ?_) (fun hc3 => ?_)
  ·
   refine qay ?_
   refine qab ?_
   refine ybmac ?_
   refine qab ?_
   refine qcn ?_
   refine LJ_nil (blockK_normal (seqK_normal (CJ_seq (CJ_region ?_))))
   refine ybmaa ?_
   refine qak ?_
   refine qad ?_
   refine qa0 ?_
   refine q_r (L' := L) (R' := R) (res2 rfl (rv_cell (row := [_, _, _]) tb rfl rfl rfl (by repeat (first | exact zi0 | apply zi1 | apply zi2)) (by rfl) (by rfl)) (rv_tmp (show _ = Value.int _ _ from rfl))) ?_
   exact ⟨by rw [hE, stepTo, if_pos hc3], rfl, rfl⟩
  have h3 : ¬ aboveS x l.cut ≠ -1 := hc3
  refine qae ?_
  refine qab ?_
  refine qac ?_
  refine qb4 ?_
  refine qaz ?_
  refine qaf ?_
  refine q_c (fun hc4 => ?_) (fun hc4 => ?_)
  ·
   refine CJ_skip (blockK_normal (seqK_normal (CJ_seq (CJ_region ?_))))
   refine ybmaa ?_
   refine qak ?_
   refine qad ?_
   refine qa0 ?_
   refine q_r (L' := L) (R' := R) (res2 rfl (rv_cell (row := [_, _, _]) tb rfl rfl rfl (by repeat (first | exact zi0 | apply zi1 | apply zi2)) (by rfl) (by rfl)) (rv_tmp (show _ = Value.int _ _ from rfl))) ?_
   exact ybmad
  have ho : w.over = true := by simpa using hc4
  refine qae ?_
  refine qab ?_
  refine qac ?_
  refine qab ?_
  refine qac ?_
  refine qa5 ?_
  refine qaz ?_
  refine qaf ?_
  refine q_c (fun hc5 => ?_) (fun hc5 => ?_)
  ·
   refine qay ?_
   refine qab ?_
   refine qcn ?_
   refine LJ_nil (blockK_normal (seqK_normal (CJ_seq (CJ_region ?_))))
   refine ybmaa ?_
   refine qak ?_
   refine qad ?_
   refine qa0 ?_
   refine q_r (L' := L) (R' := R) (res2 rfl (rv_cell (row := [_, _, _]) tb rfl rfl rfl (by repeat (first | exact zi0 | apply zi1 | apply zi2)) (by rfl) (by rfl)) (rv_tmp (show _ = Value.int _ _ from rfl))) ?_
   exact ybmae
  have h5 : ¬ l.clear < x.high := by omega
  refine qbi ?_
  refine qab ?_
  refine qac ?_
  refine qaj ?_
  refine qaf ?_
  refine q_c (fun hc6 => ?_) (fun hc6 => ?_)
  ·
   refine qay ?_
   refine qaa ?_
   refine qab ?_
   refine qcn ?_
   refine qam ?_
   refine qaa ?_
   refine qab ?_
   refine qac ?_
   refine qa9 ?_
   refine qab ?_
   refine qac ?_
   refine qbz ?_
   refine qaf ?_
   refine q_c (fun hc7 => ?_) (fun hc7 => ?_)
   ·
    refine qay ?_
    refine qab ?_
    refine ybmac ?_
    refine qab ?_
    refine qcn ?_
    refine LJ_nil (blockK_normal (seqK_normal (CJ_seq (CJ_region ?_))))
    refine ybmaa ?_
    refine qak ?_
    refine qad ?_
    refine qa0 ?_
    refine q_r (L' := L) (R' := R) (res2 rfl (rv_cell (row := [_, _, _]) tb rfl rfl rfl (by repeat (first | exact zi0 | apply zi1 | apply zi2)) (by rfl) (by rfl)) (rv_tmp (show _ = Value.int _ _ from rfl))) ?_
    exact ybmaf
   refine CJ_skip (blockK_normal (seqK_normal (CJ_seq (CJ_region ?_))))
   refine ybmaa ?_
   refine qak ?_
   refine qad ?_
   refine qa0 ?_
   refine q_r (L' := L) (R' := R) (res2 rfl (rv_cell (row := [_, _, _]) tb rfl rfl rfl (by repeat (first | exact zi0 | apply zi1 | apply zi2)) (by rfl) (by rfl)) (rv_tmp (show _ = Value.int _ _ from rfl))) ?_
   exact ybmag
  refine qbv ?_
  refine qaa ?_
  refine qab ?_
  refine qac ?_
  refine qa9 ?_
  refine qab ?_
  refine qac ?_
  refine qbz ?_
  refine qaf ?_
  refine q_c (fun hc7 => ?_) (fun hc7 => ?_)
  ·
   refine qay ?_
   refine qab ?_
   refine ybmac ?_
   refine qab ?_
   refine qcn ?_
   refine LJ_nil (blockK_normal (seqK_normal (CJ_seq (CJ_region ?_))))
   refine ybmaa ?_
   refine qak ?_
   refine qad ?_
   refine qa0 ?_
   refine q_r (L' := L) (R' := R) (res2 rfl (rv_cell (row := [_, _, _]) tb rfl rfl rfl (by repeat (first | exact zi0 | apply zi1 | apply zi2)) (by rfl) (by rfl)) (rv_tmp (show _ = Value.int _ _ from rfl))) ?_
   exact ybmaf
  refine CJ_skip (blockK_normal (seqK_normal (CJ_seq (CJ_region ?_))))
  refine ybmaa ?_
  refine qak ?_
  refine qad ?_
  refine qa0 ?_
  refine q_r (L' := L) (R' := R) (res2 rfl (rv_cell (row := [_, _, _]) tb rfl rfl rfl (by repeat (first | exact zi0 | apply zi1 | apply zi2)) (by rfl) (by rfl)) (rv_tmp (show _ = Value.int _ _ from rfl))) ?_
  exact ybmag
theorem refStep_tri (l : XLevel) (w : XWatch) (x : XSpan) (t : Int) (L : List Blk) (R : List Sl) :
    Tri Try.prog 111 [l.val, w.val, x.val, .int .i64 t].toArray L R (fun v L' R' => v = .tuple #[(stepS l w x t).val, .int .i64 (stepErr l w t)] ∧ L = L' ∧ R = R') := by
  refine tri_enter 92 Try.call111 Try.func111 rfl rfl rfl ?_
  refine qae ?_
  refine qax ?_
  intro b4
  refine qax ?_
  intro b5
  refine qax ?_
  intro b6
  refine qaq ?_
  intro b8
  refine qad ?_
  refine qaw ?_
  refine ybmaa ?_
  refine q_l rfl (refLevel_tri l _ _) ?_
  refine qad ?_
  refine qam ?_
  refine qaa ?_
  refine qbq ?_
  refine qaf ?_
  refine q_c (fun hc0 => ?_) (fun hc0 => ?_)
  ·
   refine qae ?_
   refine ybmab ?_
   refine qaa ?_
   refine qak ?_
   refine qad ?_
   refine qbh ?_
   refine q_r (L' := L) (R' := R) (res2 rfl (rv_cell (row := [_, _, _]) tb rfl rfl rfl (by repeat (first | exact zi0 | apply zi1 | apply zi2)) (by rfl) (by rfl)) (rv_tmp (show _ = Value.int _ _ from rfl))) ?_
   have hl : ¬ LevelOk l := fun h => by rw [levelErr_iff.2 h] at hc0; omega
   have hE : stepErr l w t = 1 := by rw [stepErr, if_pos hl]
   exact ⟨by rw [hE, stepS_of hE (by decide), levelErr, if_neg hl]; rfl, rfl, rfl⟩
  have hl : LevelOk l := levelErr_iff.1 (by omega)
  refine qbo ?_
  refine qaa ?_
  refine qaj ?_
  refine qah ?_
  apply LJ_or (G := [_, _]) (j := 2) (cj := 19) rfl rfl (by rfl) rfl (show _ = Value.bool _ from rfl) rfl
  ·
   intro hg3
   replace hg3 := qb hg3
   refine qaa ?_
   refine qa5 ?_
   exact qai
  intro junk3
  refine qah ?_
  apply LJ_or (G := [_, _, _, _]) (j := 6) (cj := 23) rfl rfl (by rfl) rfl (show _ = Value.bool _ from rfl) rfl
  ·
   intro hg7
   replace hg7 := qb hg7
   refine qaa ?_
   refine qab ?_
   refine qac ?_
   refine qaj ?_
   exact qai
  intro junk7
  refine qaf ?_
  refine q_c (fun hc1 => ?_) (fun hc1 => ?_)
  ·
   refine qae ?_
   refine ybmab ?_
   refine qak ?_
   refine qad ?_
   refine qbh ?_
   refine q_r (L' := L) (R' := R) (res2 rfl (rv_cell (row := [_, _, _]) tb rfl rfl rfl (by repeat (first | exact zi0 | apply zi1 | apply zi2)) (by rfl) (by rfl)) (rv_tmp (show _ = Value.int _ _ from rfl))) ?_
   have hE : stepErr l w t = 8 := by rw [stepErr, if_neg (fun h => h hl), if_pos (by (try simp at hc1); omega)]
   exact ⟨by rw [hE, stepS_of hE (by decide)]; rfl, rfl, rfl⟩
  have ht : ¬ (t < 0 ∨ 2147483648 < t ∨ t < w.last) := by (try simp at hc1); omega
  refine qbo ?_
  refine qab ?_
  refine qac ?_
  refine qaj ?_
  refine qah ?_
  apply LJ_or (G := [_, _, _]) (j := 3) (cj := 33) rfl rfl (by rfl) rfl (show _ = Value.bool _ from rfl) rfl
  ·
   intro hg4
   replace hg4 := qb hg4
   refine qab ?_
   refine qac ?_
   refine qaj ?_
   exact qai
  intro junk4
  refine qah ?_
  apply LJ_or (G := [_, _, _, _, _]) (j := 8) (cj := 38) rfl rfl (by rfl) rfl (show _ = Value.bool _ from rfl) rfl
  ·
   intro hg9
   replace hg9 := qb hg9
   refine qab ?_
   refine qac ?_
   refine qab ?_
   refine qac ?_
   refine qa5 ?_
   exact qai
  intro junk9
  refine qah ?_
  apply LJ_or (G := [_, _, _, _, _, _, _, _]) (j := 15) (cj := 45) rfl rfl (by rfl) rfl (show _ = Value.bool _ from rfl) rfl
  ·
   intro hg16
   replace hg16 := qb hg16
   refine qab ?_
   refine qac ?_
   refine qbq ?_
   refine qah ?_
   apply LJ_and (G := [_, _, _]) (j := 19) (cj := 49) rfl rfl (by rfl) rfl (show _ = Value.bool _ from rfl) rfl
   ·
    intro hg20
    replace hg20 := qb hg20
    refine qab ?_
    refine qac ?_
    refine qb4 ?_
    exact qai
   intro junk20
   exact qai
  intro junk16
  refine qaf ?_
  refine q_c (fun hc2 => ?_) (fun hc2 => ?_)
  ·
   refine qae ?_
   refine ybmab ?_
   refine qak ?_
   refine qad ?_
   refine qbh ?_
   refine q_r (L' := L) (R' := R) (res2 rfl (rv_cell (row := [_, _, _]) tb rfl rfl rfl (by repeat (first | exact zi0 | apply zi1 | apply zi2)) (by rfl) (by rfl)) (rv_tmp (show _ = Value.int _ _ from rfl))) ?_
   have hE : stepErr l w t = 10 := by
     rw [stepErr, if_neg (fun h => h hl), if_neg ht, if_pos]
     rw [WatchOk]
     cases ho : w.over <;> simp [ho] at hc2 ⊢ <;> omega
   exact ⟨by rw [hE, stepS_of hE (by decide)]; rfl, rfl, rfl⟩
  have hW : WatchOk w := by
    rw [WatchOk]
    cases ho : w.over <;> simp [ho] at hc2 ⊢ <;> omega
  have hE : stepErr l w t = 0 := stepErr_ok hl ht hW
  have hsn := hW.2.1
  rw [stepS_ok hE]
  refine qbv ?_
  refine qaa ?_
  refine qab ?_
  refine qcn ?_
  refine qaw ?_
  refine qbe ?_
  refine qab ?_
  refine qac ?_
  refine q_l rfl (refAbove_tri x l.cut _ _) ?_
  refine qbq ?_
  refine qaf ?_
  refine q_c (fun hc3 => ?_) (fun hc3 => ?_)
  ·
   refine qae ?_
   refine qab ?_
   refine ybmac ?_
   refine qab ?_
   refine qcn ?_
   refine qam ?_
   refine ybmaa ?_
   refine qak ?_
   refine qad ?_
   refine qbh ?_
   refine q_r (L' := L) (R' := R) (res2 rfl (rv_cell (row := [_, _, _]) tb rfl rfl rfl (by repeat (first | exact zi0 | apply zi1 | apply zi2)) (by rfl) (by rfl)) (rv_tmp (show _ = Value.int _ _ from rfl))) ?_
   exact ⟨by rw [hE, stepTo, if_pos hc3], rfl, rfl⟩
  have h3 : ¬ aboveS x l.cut ≠ -1 := hc3
  refine qbo ?_
  refine qab ?_
  refine qac ?_
  refine qb4 ?_
  refine qaf ?_
  refine q_c (fun hc4 => ?_) (fun hc4 => ?_)
  ·
   refine qae ?_
   refine ybmaa ?_
   refine qak ?_
   refine qad ?_
   refine qbh ?_
   refine q_r (L' := L) (R' := R) (res2 rfl (rv_cell (row := [_, _, _]) tb rfl rfl rfl (by repeat (first | exact zi0 | apply zi1 | apply zi2)) (by rfl) (by rfl)) (rv_tmp (show _ = Value.int _ _ from rfl))) ?_
   exact ybmad
  have ho : w.over = true := by simpa using hc4
  refine qbo ?_
  refine qab ?_
  refine qac ?_
  refine qab ?_
  refine qac ?_
  refine qa5 ?_
  refine qaf ?_
  refine q_c (fun hc5 => ?_) (fun hc5 => ?_)
  ·
   refine qae ?_
   refine qab ?_
   refine qcn ?_
   refine qam ?_
   refine ybmaa ?_
   refine qak ?_
   refine qad ?_
   refine qbh ?_
   refine q_r (L' := L) (R' := R) (res2 rfl (rv_cell (row := [_, _, _]) tb rfl rfl rfl (by repeat (first | exact zi0 | apply zi1 | apply zi2)) (by rfl) (by rfl)) (rv_tmp (show _ = Value.int _ _ from rfl))) ?_
   exact ybmae
  have h5 : ¬ l.clear < x.high := by omega
  refine qbo ?_
  refine qab ?_
  refine qac ?_
  refine qbn ?_
  refine qaf ?_
  refine q_c (fun hc6 => ?_) (fun hc6 => ?_)
  ·
   refine qay ?_
   refine qaa ?_
   refine qab ?_
   refine qcn ?_
   refine qaw ?_
   refine qaa ?_
   refine qab ?_
   refine qac ?_
   refine qa9 ?_
   refine qab ?_
   refine qac ?_
   refine qbz ?_
   refine qaf ?_
   refine q_c (fun hc7 => ?_) (fun hc7 => ?_)
   ·
    refine qay ?_
    refine qab ?_
    refine ybmac ?_
    refine qab ?_
    refine qcn ?_
    refine qam ?_
    refine ybmaa ?_
    refine qak ?_
    refine qad ?_
    refine qa0 ?_
    refine q_r (L' := L) (R' := R) (res2 rfl (rv_cell (row := [_, _, _]) tb rfl rfl rfl (by repeat (first | exact zi0 | apply zi1 | apply zi2)) (by rfl) (by rfl)) (rv_tmp (show _ = Value.int _ _ from rfl))) ?_
    exact ybmah
   refine qbv ?_
   refine ybmaa ?_
   refine qak ?_
   refine qad ?_
   refine qa0 ?_
   refine q_r (L' := L) (R' := R) (res2 rfl (rv_cell (row := [_, _, _]) tb rfl rfl rfl (by repeat (first | exact zi0 | apply zi1 | apply zi2)) (by rfl) (by rfl)) (rv_tmp (show _ = Value.int _ _ from rfl))) ?_
   exact ybmai
  refine qbo ?_
  refine qaa ?_
  refine qab ?_
  refine qac ?_
  refine qa9 ?_
  refine qab ?_
  refine qac ?_
  refine qbz ?_
  refine qaf ?_
  refine q_c (fun hc7 => ?_) (fun hc7 => ?_)
  ·
   refine qay ?_
   refine qab ?_
   refine ybmac ?_
   refine qab ?_
   refine qcn ?_
   refine qam ?_
   refine ybmaa ?_
   refine qak ?_
   refine qad ?_
   refine qa0 ?_
   refine q_r (L' := L) (R' := R) (res2 rfl (rv_cell (row := [_, _, _]) tb rfl rfl rfl (by repeat (first | exact zi0 | apply zi1 | apply zi2)) (by rfl) (by rfl)) (rv_tmp (show _ = Value.int _ _ from rfl))) ?_
   exact ybmah
  refine qbv ?_
  refine ybmaa ?_
  refine qak ?_
  refine qad ?_
  refine qa0 ?_
  refine q_r (L' := L) (R' := R) (res2 rfl (rv_cell (row := [_, _, _]) tb rfl rfl rfl (by repeat (first | exact zi0 | apply zi1 | apply zi2)) (by rfl) (by rfl)) (rv_tmp (show _ = Value.int _ _ from rfl))) ?_
  exact ybmai
theorem refBegin_tri (L : List Blk) (R : List Sl) :
    Tri Try.prog 62 ([] : List Value).toArray L R (fun v L' R' => v = XWatch.val ⟨true, -1, 0⟩ ∧ L = L' ∧ R = R') := by
  refine tri_enter 2 Try.call62 Try.func62 rfl rfl rfl ?_
  refine qae ?_
  refine qaq ?_
  intro b0
  refine qam ?_
  refine LJ_q (yv_build (qs := [(0, (Value.bool _).cells.toList), (1, (Value.int _ _).cells.toList)]) (out := [_, _, _]) tb rfl rfl rfl rfl) rfl ?_
  refine qak ?_
  refine qa0 ?_
  refine q_r (L' := L) (R' := R) (res1 rfl (rv_cell (row := [_, _, _]) tb rfl rfl rfl (by repeat (first | exact zi0 | apply zi1 | apply zi2)) (by rfl) (by rfl))) ?_
  exact ⟨rfl, rfl, rfl⟩
end Go.Proofs.Ytkpfjmibipblhaa
