/-
  What measurements say later, the reference's: ref05.Check, ref06.At, ref06.Meet. By an AI agent; no person has read it.
-/
import Derived.Test.YtlgjgigciapkfaaDraw13
set_option linter.unusedSimpArgs false
set_option linter.unusedVariables false
namespace Go.Proofs.Ytlgjgigciapkfaa
open Go.Aw Go
set_option maxRecDepth 20000
attribute [local irreducible] CJ LJ DJ Tri YV Gives seqK blockK loopK retK RV mergeK OwL.L

theorem ref05in_tri (n lo hi : Int) (L : List Blk) (R : List Sl) :
    Tri Try.prog 119 [.int .i64 n, .int .i64 lo, .int .i64 hi].toArray L R (fun v L' R' => v = .bool (decide (lo ≤ n ∧ n ≤ hi)) ∧ L = L' ∧ R = R') := by
  refine tri_enter 15 Try.call119 Try.func119 rfl rfl rfl ?_
  refine qae ?_
  refine qaz ?_
  refine qam ?_
  refine qaa ?_
  refine qaa ?_
  refine qbx ?_
  refine qah ?_
  apply LJ_and (G := [_, _, _]) (j := 3) (cj := 10) rfl rfl (by rfl) rfl (show _ = Value.bool _ from rfl) rfl
  ·
   intro hg4
   replace hg4 := qb hg4
   refine qaa ?_
   refine qaa ?_
   refine qbx ?_
   exact qai
  intro junk4
  refine qaz ?_
  refine qa0 ?_
  refine q_b (L' := L) (R' := R) ?_
  exact ⟨by refine congrArg Value.bool ?_; rw [Bool.eq_iff_iff]; simp, rfl, rfl⟩
theorem ref05Check_tri (s : XSens) (L : List Blk) (R : List Sl) :
    Tri Try.prog 116 [s.val].toArray L R (fun v L' R' => v = .int .i64 (sensErr s) ∧ L = L' ∧ R = R') := by
  refine tri_enter 46 Try.call116 Try.func116 rfl rfl rfl ?_
  refine qae ?_
  refine qax ?_
  intro b1
  refine qad ?_
  refine qaw ?_
  refine qab ?_
  refine qac ?_
  refine q_l rfl (ref05in_tri _ _ _ _ _) ?_
  refine qb4 ?_
  refine qaf ?_
  refine q_c (fun hc0 => ?_) (fun hc0 => ?_)
  ·
   refine qae ?_
   refine qad ?_
   refine qbh ?_
   refine q_i (L' := L) (R' := R) ?_
   exact ⟨by simp at hc0; rw [sensErr, if_pos (by omega)], rfl, rfl⟩
  ·
   refine qbo ?_
   refine qab ?_
   refine qac ?_
   refine q_l rfl (ref05in_tri _ _ _ _ _) ?_
   refine qb4 ?_
   refine qah ?_
   apply LJ_or (G := [_, _, _]) (j := 4) (cj := 11) rfl rfl (by rfl) rfl (show _ = Value.bool _ from rfl) rfl
   ·
    intro hg5
    replace hg5 := qb hg5
    refine qab ?_
    refine qac ?_
    refine qaj ?_
    exact qai
   intro junk5
   refine qah ?_
   apply LJ_or (G := [_, _, _, _]) (j := 9) (cj := 16) rfl rfl (by rfl) rfl (show _ = Value.bool _ from rfl) rfl
   ·
    intro hg10
    replace hg10 := qb hg10
    refine qab ?_
    refine qac ?_
    refine q_l rfl (ref05in_tri _ _ _ _ _) ?_
    refine qb4 ?_
    exact qai
   intro junk10
   refine qah ?_
   apply LJ_or (G := [_, _, _, _]) (j := 15) (cj := 22) rfl rfl (by rfl) rfl (show _ = Value.bool _ from rfl) rfl
   ·
    intro hg16
    replace hg16 := qb hg16
    refine qab ?_
    refine qac ?_
    refine q_l rfl (ref05in_tri _ _ _ _ _) ?_
    refine qb4 ?_
    exact qai
   intro junk16
   refine qah ?_
   apply LJ_or (G := [_, _, _, _]) (j := 21) (cj := 28) rfl rfl (by rfl) rfl (show _ = Value.bool _ from rfl) rfl
   ·
    intro hg22
    replace hg22 := qb hg22
    refine qab ?_
    refine qac ?_
    refine q_l rfl (ref05in_tri _ _ _ _ _) ?_
    refine qb4 ?_
    exact qai
   intro junk22
   refine qah ?_
   apply LJ_or (G := [_, _, _, _]) (j := 27) (cj := 34) rfl rfl (by rfl) rfl (show _ = Value.bool _ from rfl) rfl
   ·
    intro hg28
    replace hg28 := qb hg28
    refine qab ?_
    refine qac ?_
    refine q_l rfl (ref05in_tri _ _ _ _ _) ?_
    refine qb4 ?_
    exact qai
   intro junk28
   refine qah ?_
   apply LJ_or (G := [_, _, _, _]) (j := 33) (cj := 40) rfl rfl (by rfl) rfl (show _ = Value.bool _ from rfl) rfl
   ·
    intro hg34
    replace hg34 := qb hg34
    refine qab ?_
    refine qac ?_
    refine q_l rfl (ref05in_tri _ _ _ _ _) ?_
    refine qb4 ?_
    exact qai
   intro junk34
   refine qaf ?_
   refine q_c (fun hc1 => ?_) (fun hc1 => ?_)
   ·
    refine qae ?_
    refine qad ?_
    refine qbh ?_
    refine q_i (L' := L) (R' := R) ?_
    exact ⟨by simp at hc0 hc1; rw [sensErr, if_neg (by omega), if_neg (by rw [SensOk]; omega)], rfl, rfl⟩
   ·
    refine qbv ?_
    refine qad ?_
    refine qa0 ?_
    refine q_i (L' := L) (R' := R) ?_
    exact ⟨by simp at hc0 hc1; rw [sensErr, if_neg (by omega), if_pos (by rw [SensOk]; omega)], rfl, rfl⟩
theorem ref05Floor_tri (a b : Int) (L : List Blk) (R : List Sl) (ha : -1000000000000 ≤ a ∧ a ≤ 1000000000000) (hb : 0 < b ∧ b ≤ 1000000) :
    Tri Try.prog 120 [.int .i64 a, .int .i64 b].toArray L R (fun v L' R' => v = .int .i64 (a / b) ∧ L = L' ∧ R = R') := by
  have hd : -1000000000000 ≤ a.tdiv b ∧ a.tdiv b ≤ 1000000000000 := by
    have h1 := Int.natAbs_tdiv_le_natAbs a b
    omega
  refine tri_enter 16 Try.call120 Try.func120 rfl rfl rfl ?_
  refine qae ?_
  refine qad ?_
  refine qam ?_
  refine qaa ?_
  refine qaa ?_
  refine qdd ?_
  refine qad ?_
  refine qaw ?_
  refine qaa ?_
  refine qaa ?_
  refine qda ?_
  refine qaj ?_
  refine qaf ?_
  refine q_c (fun hc0 => ?_) (fun hc0 => ?_)
  ·
   refine qay ?_
   refine qaa ?_
   refine qa9 ?_
   refine qad ?_
   refine qam ?_
   refine qaa ?_
   refine qad ?_
   refine qa0 ?_
   refine q_i (L' := L) (R' := R) ?_
   exact ⟨by rw [← floor_eq hb.1, if_pos hc0], rfl, rfl⟩
  ·
   refine qbv ?_
   refine qaa ?_
   refine qad ?_
   refine qa0 ?_
   refine q_i (L' := L) (R' := R) ?_
   exact ⟨by rw [← floor_eq hb.1, if_neg hc0], rfl, rfl⟩
theorem ref05Ceil_tri (a b : Int) (L : List Blk) (R : List Sl) (ha : -1000000000000 ≤ a ∧ a ≤ 1000000000000) (hb : 0 < b ∧ b ≤ 1000000) :
    Tri Try.prog 121 [.int .i64 a, .int .i64 b].toArray L R (fun v L' R' => v = .int .i64 (-((-a) / b)) ∧ L = L' ∧ R = R') := by
  have hd : -1000000000001 ≤ (-a) / b ∧ (-a) / b ≤ 1000000000001 := by
    have h1 := Int.natAbs_ediv_le_natAbs (-a) b
    omega
  refine tri_enter 10 Try.call121 Try.func121 rfl rfl rfl ?_
  refine qae ?_
  refine qad ?_
  refine qam ?_
  refine qaa ?_
  refine qcq ?_
  refine qaa ?_
  refine q_l rfl (ref05Floor_tri (-a) b _ _ (by omega) hb) ?_
  refine qcq ?_
  refine qad ?_
  refine qa0 ?_
  refine q_i (L' := L) (R' := R) ?_
  exact ⟨rfl, rfl, rfl⟩
theorem gassy_tri (k : Int) (L : List Blk) (R : List Sl) :
    Tri Try.prog 122 [.int .i64 k].toArray L R (fun v L' R' => v = .bool (decide (k = 1 ∨ k = 2)) ∧ L = L' ∧ R = R') := by
  refine tri_enter 9 Try.call122 Try.func122 rfl rfl rfl ?_
  refine qae ?_
  refine qaz ?_
  refine qam ?_
  refine qaa ?_
  refine qbn ?_
  refine qah ?_
  apply LJ_or (G := [_, _]) (j := 2) (cj := 5) rfl rfl (by rfl) rfl (show _ = Value.bool _ from rfl) rfl
  ·
   intro hg3
   replace hg3 := qb hg3
   refine qaa ?_
   refine qbn ?_
   exact qai
  intro junk3
  refine qaz ?_
  refine qa0 ?_
  refine q_b (L' := L) (R' := R) ?_
  exact ⟨by refine congrArg Value.bool ?_; rw [Bool.eq_iff_iff]; simp, rfl, rfl⟩
theorem more_ceil {s : XSens} {m : XMeas} {t : Int} (h : ¬ goneS s m t) : -((-(s.drift * (t - m.time))) / 1000) = moreS s m t := by
  have hb := more_bounds h
  rw [moreS, Int.tdiv_eq_ediv_of_nonneg (by omega)]
  omega
theorem kind_of {s : XSens} {m : XMeas} {t : Int} (h : ¬ goneS s m t) : 1 ≤ s.kind ∧ s.kind ≤ 6 := by
  rw [goneS] at h
  have he : sensErr s = 0 := by omega
  rw [sensErr] at he
  split at he
  · omega
  · omega
theorem refAt_tri (s : XSens) (m : XMeas) (t : Int) (L : List Blk) (R : List Sl) (hm : MeasOk m) (ht : 0 ≤ t ∧ t ≤ 2147483648) :
    Tri Try.prog 77 [s.val, m.val, .int .i64 t].toArray L R (fun v L' R' => v = (atS s m t).val ∧ L = L' ∧ R = R') := by
  rw [MeasOk] at hm
  refine tri_enter 75 Try.call77 Try.func77 rfl rfl rfl ?_
  refine qae ?_
  refine qax ?_
  intro b3
  refine qax ?_
  intro b4
  refine qaq ?_
  intro b6
  refine qco ?_
  refine CJ_drawn tb [0, 1, 2, 3, 4, 5, 6, 7, 8, 9, 10, 11, 12, 13, 14, 15, 16, 17, 18, 19, 20, 21, 22, 23, 24, 25, 26, 27, 28] _ mixed (by kernel_rfl) (List.Sublist.refl _) ?_
  refine DJ_q (yv_loadN (row := [_, _, _, _, _, _, _, _]) tb rfl rfl rfl (by repeat (first | exact zi0 | apply zi1 | apply zi2)) (by rfl) (by rfl)) rfl rfl rfl ?_
  refine q_d rfl (ref05Check_tri s _ _) ?_
  refine DJ_q (yv_neq rfl rfl) rfl rfl rfl ?_
  refine qb2 ?_
  refine DJ_case (k := 12) (show _ = Value.bool _ from rfl) (fun hg3 => ?_) (fun hg3 => ?_)
  ·
   replace hg3 := qb hg3
   have hgo : goneS s m t := .inl (by simpa using hg3)
   refine qap ?_
   refine qap ?_
   refine qap ?_
   refine qbp ?_
   refine qb2 ?_
   refine qap ?_
   refine qap ?_
   refine qap ?_
   refine qap ?_
   refine qbp ?_
   refine qb2 ?_
   refine qap ?_
   refine qap ?_
   refine qap ?_
   refine qap ?_
   refine qbp ?_
   refine qb2 ?_
   refine qap ?_
   refine qap ?_
   refine qap ?_
   refine qap ?_
   refine qap ?_
   refine qap ?_
   refine qap ?_
   refine qbp ?_
   refine qbu ?_
   refine CJ_cond_true rfl ?_
   refine qae ?_
   refine q_l rfl (nothing_tri _ _) ?_
   refine qak ?_
   refine qbh ?_
   refine q_r (L' := L) (R' := R) (res1 rfl (rv_cell (row := [_, _]) tb rfl rfl rfl (by repeat (first | exact zi0 | apply zi1 | apply zi2)) (by rfl) (by rfl))) ?_
   first
   | exact ⟨by rw [atS, if_pos hgo]; try rfl, rfl, rfl⟩
   | (have hgo : goneS s m t := .inr (.inr (.inr (.inr (by omega))))
      exact ⟨by rw [atS, if_pos hgo]; try rfl, rfl, rfl⟩)
  ·
   replace hg3 := qb hg3
   refine qal ?_
   refine qat ?_
   refine DJ_q (yv_lss rfl rfl) rfl rfl rfl ?_
   refine qbp ?_
   refine qb2 ?_
   refine DJ_case (k := 17) (show _ = Value.bool _ from rfl) (fun hg8 => ?_) (fun hg8 => ?_)
   ·
    replace hg8 := qb hg8
    have hgo : goneS s m t := .inr (.inl (by simp at hg3 hg8; omega))
    refine qap ?_
    refine qap ?_
    refine qap ?_
    refine qap ?_
    refine qbp ?_
    refine qb2 ?_
    refine qap ?_
    refine qap ?_
    refine qap ?_
    refine qap ?_
    refine qbp ?_
    refine qb2 ?_
    refine qap ?_
    refine qap ?_
    refine qap ?_
    refine qap ?_
    refine qap ?_
    refine qap ?_
    refine qap ?_
    refine qbp ?_
    refine qbu ?_
    refine CJ_cond_true rfl ?_
    refine qae ?_
    refine q_l rfl (nothing_tri _ _) ?_
    refine qak ?_
    refine qbh ?_
    refine q_r (L' := L) (R' := R) (res1 rfl (rv_cell (row := [_, _]) tb rfl rfl rfl (by repeat (first | exact zi0 | apply zi1 | apply zi2)) (by rfl) (by rfl))) ?_
    first
    | exact ⟨by rw [atS, if_pos hgo]; try rfl, rfl, rfl⟩
    | (have hgo : goneS s m t := .inr (.inr (.inr (.inr (by omega))))
       exact ⟨by rw [atS, if_pos hgo]; try rfl, rfl, rfl⟩)
   ·
    replace hg8 := qb hg8
    refine qal ?_
    refine qbd ?_
    refine q_d rfl (nothing_tri _ _) ?_
    refine DJ_q (yv_eql_span spanEq rfl rfl) rfl rfl rfl ?_
    refine qbp ?_
    refine qb2 ?_
    refine DJ_case (k := 23) (show _ = Value.bool _ from rfl) (fun hg14 => ?_) (fun hg14 => ?_)
    ·
     replace hg14 := qb hg14
     have hgo : goneS s m t := .inr (.inr (.inl (by rw [span_eq]; simp [nothingS] at hg3 hg8 hg14 ⊢; omega)))
     refine qap ?_
     refine qap ?_
     refine qap ?_
     refine qap ?_
     refine qbp ?_
     refine qb2 ?_
     refine qap ?_
     refine qap ?_
     refine qap ?_
     refine qap ?_
     refine qap ?_
     refine qap ?_
     refine qap ?_
     refine qbp ?_
     refine qbu ?_
     refine CJ_cond_true rfl ?_
     refine qae ?_
     refine q_l rfl (nothing_tri _ _) ?_
     refine qak ?_
     refine qbh ?_
     refine q_r (L' := L) (R' := R) (res1 rfl (rv_cell (row := [_, _]) tb rfl rfl rfl (by repeat (first | exact zi0 | apply zi1 | apply zi2)) (by rfl) (by rfl))) ?_
     first
     | exact ⟨by rw [atS, if_pos hgo]; try rfl, rfl, rfl⟩
     | (have hgo : goneS s m t := .inr (.inr (.inr (.inr (by omega))))
        exact ⟨by rw [atS, if_pos hgo]; try rfl, rfl, rfl⟩)
    ·
     replace hg14 := qb hg14
     refine qao ?_
     refine qal ?_
     refine qat ?_
     refine DJ_q (yv_lss rfl rfl) rfl rfl rfl ?_
     refine qbp ?_
     refine qb2 ?_
     refine DJ_case (k := 29) (show _ = Value.bool _ from rfl) (fun hg20 => ?_) (fun hg20 => ?_)
     ·
      replace hg20 := qb hg20
      have hgo : goneS s m t := .inr (.inr (.inr (.inl (by simp [nothingS] at hg3 hg8 hg14 hg20; omega))))
      refine qap ?_
      refine qap ?_
      refine qap ?_
      refine qap ?_
      refine qap ?_
      refine qap ?_
      refine qap ?_
      refine qbp ?_
      refine qbu ?_
      refine CJ_cond_true rfl ?_
      refine qae ?_
      refine q_l rfl (nothing_tri _ _) ?_
      refine qak ?_
      refine qbh ?_
      refine q_r (L' := L) (R' := R) (res1 rfl (rv_cell (row := [_, _]) tb rfl rfl rfl (by repeat (first | exact zi0 | apply zi1 | apply zi2)) (by rfl) (by rfl))) ?_
      first
      | exact ⟨by rw [atS, if_pos hgo]; try rfl, rfl, rfl⟩
      | (have hgo : goneS s m t := .inr (.inr (.inr (.inr (by omega))))
         exact ⟨by rw [atS, if_pos hgo]; try rfl, rfl, rfl⟩)
     ·
      replace hg20 := qb hg20
      refine qao ?_
      refine qal ?_
      refine qat ?_
      refine qb7 ?_
      refine qal ?_
      refine qat ?_
      refine DJ_q (yv_gtr rfl rfl) rfl rfl rfl ?_
      refine qbp ?_
      refine qbu ?_
      refine q_c (fun hc0 => ?_) (fun hc0 => ?_)
      ·
       refine qae ?_
       refine q_l rfl (nothing_tri _ _) ?_
       refine qak ?_
       refine qbh ?_
       refine q_r (L' := L) (R' := R) (res1 rfl (rv_cell (row := [_, _]) tb rfl rfl rfl (by repeat (first | exact zi0 | apply zi1 | apply zi2)) (by rfl) (by rfl))) ?_
       first
       | exact ⟨by rw [atS, if_pos hgo]; try rfl, rfl, rfl⟩
       | (have hgo : goneS s m t := .inr (.inr (.inr (.inr (by omega))))
          exact ⟨by rw [atS, if_pos hgo]; try rfl, rfl, rfl⟩)
      ·
       have hgo : ¬ goneS s m t := by rw [goneS, span_eq]; simp [nothingS] at hg3 hg8 hg14 hg20 hc0 ⊢; omega
       obtain ⟨hb1, hb2⟩ := more_bounds hgo
       have hkd := kind_of hgo
       have hmc := more_ceil hgo
       refine qbo ?_
       refine qab ?_
       refine qac ?_
       refine q_l rfl (stately_tri _ _ _) ?_
       refine qaf ?_
       refine q_c (fun hc1 => ?_) (fun hc1 => ?_)
       ·
        refine qae ?_
        refine qab ?_
        refine qbe ?_
        refine qak ?_
        refine qbh ?_
        refine q_r (L' := L) (R' := R) (res1 rfl (rv_cell (row := [_, _]) tb rfl rfl rfl (by repeat (first | exact zi0 | apply zi1 | apply zi2)) (by rfl) (by rfl))) ?_
        exact ⟨by rw [atS, if_neg hgo, if_pos (by omega)], rfl, rfl⟩
       ·
        refine qbv ?_
        refine qab ?_
        refine qac ?_
        refine qaa ?_
        refine qab ?_
        refine qac ?_
        refine qa9 ?_
        refine qcm ?_
        refine q_l rfl (ref05Ceil_tri (s.drift * (t - m.time)) 1000 _ _ (by omega) (by decide)) ?_
        rw [hmc]
        refine qad ?_
        refine qam ?_
        refine qab ?_
        refine qab ?_
        refine qac ?_
        refine qaa ?_
        refine qa9 ?_
        refine qab ?_
        refine qab ?_
        refine qac ?_
        refine qaa ?_
        refine qar ?_
        refine qcd ?_
        refine qaq ?_
        intro b8
        refine qak ?_
        refine qaw ?_
        refine qab ?_
        refine qac ?_
        refine q_l rfl (gassy_tri _ _ _) ?_
        refine qaf ?_
        refine q_c (fun hc2 => ?_) (fun hc2 => ?_)
        ·
         refine qay ?_
         refine qab ?_
         refine qac ?_
         refine LJ_q (yv_max2 rfl rfl) rfl ?_
         refine qab ?_
         refine qac ?_
         refine LJ_q (yv_max2 rfl rfl) rfl ?_
         refine qab ?_
         refine qcn ?_
         refine qab ?_
         refine qcn ?_
         refine qam ?_
         refine qbe ?_
         refine qak ?_
         refine qa0 ?_
         refine q_r (L' := L) (R' := R) (res1 rfl (rv_cell (row := [_, _]) tb rfl rfl rfl (by repeat (first | exact zi0 | apply zi1 | apply zi2)) (by rfl) (by rfl))) ?_
         exact ⟨by rw [atS, if_neg hgo, if_neg (by omega), if_pos hc2]; try rfl, rfl, rfl⟩
        ·
         refine qbv ?_
         refine qbe ?_
         refine qak ?_
         refine qa0 ?_
         refine q_r (L' := L) (R' := R) (res1 rfl (rv_cell (row := [_, _]) tb rfl rfl rfl (by repeat (first | exact zi0 | apply zi1 | apply zi2)) (by rfl) (by rfl))) ?_
         exact ⟨by rw [atS, if_neg hgo, if_neg (by omega), if_neg hc2]; try rfl, rfl, rfl⟩

theorem meetTo_one {l : List XSpan} {x : XSpan} (h : l[0]? = some x) : meetTo l x 1 = x := by
  rw [meetTo_succ (k := 0) h]
  show (⟨max x.low x.low, min x.high x.high⟩ : XSpan) = x
  rw [Int.max_self, Int.min_self]
/-- what all spans have in common -/
def meetL (l : List XSpan) : XSpan := meetTo l (l.getD 0 default) l.length
theorem refMeet_tri (p : Arr XSpan) (L : List Blk) (R : List Sl) (hp : InR (spsl p) R) (hn : 1 ≤ p.l.length ∧ p.l.length ≤ 1000) :
    Tri Try.prog 96 [p.val].toArray L R (fun v L' R' => ∃ y : XSpan, v = .tuple #[y.val, .bool (decide ((meetL p.l).low ≤ (meetL p.l).high))] ∧ L = L' ∧ R = R') := by
  have hp0 := get_D (l := p.l) (k := 0) default (by omega)
  obtain ⟨x, hx⟩ : ∃ x, x = p.l.getD 0 default := ⟨_, rfl⟩
  rw [← hx] at hp0
  refine tri_enter 44 Try.call96 Try.func96 rfl rfl rfl ?_
  refine qae ?_
  refine qaq ?_
  intro b2
  refine qaz ?_
  refine qaw ?_
  refine qbm ?_
  refine qag ?_
  refine qbn ?_
  refine qaf ?_
  refine q_c (fun hc0 => ?_) (fun hc0 => ?_)
  ·
   refine qae ?_
   refine q_l rfl (nothing_tri _ _) ?_
   refine qak ?_
   refine qaz ?_
   refine qbh ?_
   refine q_r (L' := L) (R' := R) (res2 rfl (rv_cell (row := [_, _]) tb rfl rfl rfl (by repeat (first | exact zi0 | apply zi1 | apply zi2)) (by rfl) (by rfl)) (rv_tmp (show _ = Value.bool _ from rfl))) ?_
   exact absurd hc0 (by omega)
  ·
   refine qbv ?_
   refine qbm ?_
   refine qdt ?_
   refine qdl ?_
   refine qaq ?_
   intro b4
   refine qak ?_
   refine qaw ?_
   refine qad ?_
   refine qa2 ?_
   refine CJ_forget [(0, Value.slice _ _ _), (2, Value.pointer _), (4, Value.pointer _), (5, Value.int _ _)] (by repeat' (first | exact trivial | refine And.intro rfl ?_)) fun tq0 => ?_
   have hm1 := meetTo_one hp0
   refine CJ_loop [5, 13, 14, 15, 16, 17, 18, 19, 20, 21, 22, 23, 24, 25, 26, 27, 28, 29, 30, 31, 32, 33, 34, 35, 36] ((⟨fun g => [(5, .int .i64 ((g.1 : Nat) : Int))], fun g => ⟨b4, (meetTo p.l x g.1).cells, 59⟩ :: ⟨b2, [.int .i64 0, .int .i64 0], 59⟩ :: L, fun _ => R, fun g => p.l.length - g.1⟩ : Head {g : Nat // 1 ≤ g ∧ g ≤ p.l.length})) (⟨1, by omega, by omega⟩) (by repeat' (first | exact trivial | refine And.intro rfl ?_)) (by dsimp only; rw [hm1]; exact List.Sublist.refl _) (allR_self _) ?_
   rintro ⟨k, hk1, hk⟩ junk
   try dsimp only
   refine qbi ?_
   refine qaa ?_
   refine qbm ?_
   refine qag ?_
   refine qaj ?_
   refine qaf ?_
   refine q_c (fun hc1 => ?_) (fun hc1 => ?_)
   ·
    have h1 := get_D (l := p.l) (k := k) default (by omega)
    have hms := meetTo_succ (z := x) h1
    refine CJ_skip (seqK_normal (CJ_seq (CJ_block ?_)))
    refine CJ_drawn2 tb [29, 30, 31, 32, 33, 34] [0, 1, 2, 3, 4, 5, 6, 7, 8, 9, 10, 11, 12, 13, 14, 15, 16] [17, 18, 19] (_) _ mixed (by kernel_rfl) (by repeat (first | exact zs0 _ | exact zs1 _ | apply zs2 | apply zs3 | apply zs4 | apply zs5)) (by (repeat (first | apply List.Sublist.cons (a := Blk.mk b4 _ _) | apply List.Sublist.cons_cons)); exact List.Sublist.refl _) ?_
    refine qan ?_
    refine qau ?_
    refine qct ?_
    refine qbf ?_
    refine DJ3_q (by first | exact yv_index_ro tb rfl rfl rfl rfl (by first | assumption | exact zr (by simp)) (i := k) (by first | rfl | omega | (simp; omega)) (by omega) | exact yv_index tb rfl rfl rfl rfl (i := k) (by first | rfl | omega | (simp; omega)) (by omega)) rfl rfl rfl rfl ?_
    refine qcv ?_
    refine qci ?_
    refine DJ3_q (yv_max2 rfl rfl) rfl rfl rfl rfl ?_
    refine qan ?_
    refine qau ?_
    refine DJ3_ql (yv_move (show _ = Value.slice _ _ _ from rfl)) rfl rfl rfl rfl ?_
    refine DJ3_ql (yv_move (show _ = Value.int _ _ from rfl)) rfl rfl rfl rfl ?_
    refine DJ3_ql (by first | exact yv_index_ro tb rfl rfl rfl rfl (by first | assumption | exact zr (by simp)) rfl (by omega) | exact yv_index tb rfl rfl rfl rfl rfl (by omega)) rfl rfl rfl rfl ?_
    refine DJ3_ql (yv_field_eo tb rfl rfl rfl) rfl rfl rfl rfl ?_
    refine DJ3_ql (by first | exact yv_load1_ro tb rfl rfl rfl (by first | assumption | exact zr (by simp)) (by assumption) (by rfl) | exact yv_load1 tb rfl rfl rfl (by repeat (first | exact zi0 | apply zi1 | apply zi2)) (by rfl) | exact yv_load1 tb rfl rfl rfl (by repeat (first | exact zi0 | apply zi1 | apply zi2)) (icell_get (by assumption)) | exact yv_load1 tb rfl rfl rfl (by repeat (first | exact zi0 | apply zi1 | apply zi2)) (rcell_get (fun _ => rfl) (by assumption) rfl)) rfl rfl rfl rfl ?_
    refine DJ3_ql (yv_min2 rfl rfl) rfl rfl rfl rfl ?_
    refine qan ?_
    refine qba ?_
    refine qb6 ?_
    refine qal ?_
    refine qb6 ?_
    refine qby ?_
    refine qaa ?_
    refine qar ?_
    refine qad ?_
    refine qav ?_
    exact loopK_mk ⟨k + 1, by omega, by omega⟩ (by repeat (first | exact Off.refl | apply Off.upd rfl | apply Off.havoc rfl | apply Off.updL rfl | apply Off.left rfl)) (by repeat' (first | exact trivial | refine And.intro rfl ?_)) (by dsimp only; rw [hms]; exact zs0 _) (allR_self _) (by dsimp only; omega)
   ·
    obtain rfl : k = p.l.length := by omega
    have hmm : meetTo p.l x p.l.length = meetL p.l := by rw [meetL, hx]
    rw [hmm]
    refine qcf ?_
    refine qab ?_
    refine qac ?_
    refine qab ?_
    refine qac ?_
    refine qa5 ?_
    refine qaf ?_
    refine q_c (fun hc2 => ?_) (fun hc2 => ?_)
    ·
     refine qae ?_
     refine q_l rfl (nothing_tri _ _) ?_
     refine qak ?_
     refine qaz ?_
     refine qbh ?_
     refine q_r (L' := L) (R' := R) (res2 rfl (rv_cell (row := [_, _]) tb rfl rfl rfl (by repeat (first | exact zi0 | apply zi1 | apply zi2)) (by rfl) (by rfl)) (rv_tmp (show _ = Value.bool _ from rfl))) ?_
     exact ⟨nothingS, by rw [decide_eq_false (by omega)]; try rfl, rfl, rfl⟩
    ·
     refine qbv ?_
     refine qbe ?_
     refine qak ?_
     refine qaz ?_
     refine qa0 ?_
     refine q_r (L' := L) (R' := R) (res2 rfl (rv_cell (row := [_, _]) tb rfl rfl rfl (by repeat (first | exact zi0 | apply zi1 | apply zi2)) (by rfl) (by rfl)) (rv_tmp (show _ = Value.bool _ from rfl))) ?_
     exact ⟨meetL p.l, by rw [decide_eq_true (by omega)]; try rfl, rfl, rfl⟩
end Go.Proofs.Ytlgjgigciapkfaa
