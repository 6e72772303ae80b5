/-
  Rules: rule.part, rule.right, rule.Check and the reference's. By an AI agent; no person has read it.
-/
import Derived.Test.YtkpfjmibipblhaaRuleP
set_option linter.unusedSimpArgs false
set_option linter.unusedVariables false
namespace Go.Proofs.Ytkpfjmibipblhaa
open Go.Aw Go
set_option maxRecDepth 20000
attribute [local irreducible] CJ LJ DJ Tri YV Gives seqK blockK loopK retK RV mergeK OwL.L
section
variable {A9 B9 : Prop}
theorem ybgaa (a : A9) (h : A9 → B9 := by exact DJ_q (yv_assign (show _ = Value.bool _ from rfl)) rfl rfl rfl) : B9 := h a
theorem ybgab (h : B9 := by exact ⟨i, 1, _, rfl, ⟨by omega, fun h => by rw [hpf, if_pos (by first | (cases h; done) | (have h' := of_decide_eq_true h; omega) | (have h' := of_decide_eq_false h; omega) | omega)], fun h => by rw [hpf, if_neg (by first | (cases h; done) | (have h' := of_decide_eq_true h; omega) | (have h' := of_decide_eq_false h; omega) | omega)]⟩, rfl, rfl⟩) : B9 := h
theorem ybgac (a : A9) (h : A9 → B9 := by exact LJ_call rfl (ih (i - 1) _ (by omega) (by omega) (by omega)) rfl) : B9 := h a
theorem ybgad (h : B9 := by exact ⟨f, max q r + 1, b2, rfl, ⟨by omega, fun h => by rw [hpf, hP2.yes h], fun h => by rw [hpf, hP2.no h]⟩, rfl, rfl⟩) : B9 := h
theorem ybgae (h : B9 := by exact ⟨0, 0, false, rfl, ⟨by omega, (fun h => by cases h), fun _ => by rw [partF, if_neg hc0, ← hx, if_neg hc1, if_neg hc2, if_neg (by omega)]⟩, rfl, rfl⟩) : B9 := h
end
structure PartR (l : List XNode) (n : Nat) (i f d : Int) (b : Bool) : Prop where
  bnd : 0 ≤ d ∧ d ≤ n
  yes : b = true → partF l n i = some (f, d)
  no : b = false → partF l n i = none
theorem partF_neg {l : List XNode} {i : Int} (h : i < 0) : ∀ n, partF l n i = none
  | 0 => rfl
  | n + 1 => by rw [partF, if_pos h]
theorem partF_k2 {l : List XNode} {n : Nat} {i : Int} {x : XNode} (h0 : ¬ i < 0) (hx : x = l.getD i.toNat default) (h1 : ¬ x.kind = 1) (h2 : x.kind = 2) :
    partF l (n + 1) i = match partF l n (i - 1) with
      | none => none
      | some (f, d) => if x.cond = 0 ∧ x.right = 0 ∧ x.left = i - 1 then some (f, d + 1) else none := by
  rw [partF, if_neg h0, ← hx, if_neg h1]
  exact if_pos h2
theorem partF_k3 {l : List XNode} {n : Nat} {i : Int} {x : XNode} (h0 : ¬ i < 0) (hx : x = l.getD i.toNat default) (h1 : ¬ x.kind = 1) (h2 : ¬ x.kind = 2) (h3 : x.kind = 3 ∨ x.kind = 4) :
    partF l (n + 1) i = match partF l n (i - 1) with
      | none => none
      | some (m, r) => if x.cond = 0 ∧ x.right = i - 1 ∧ x.left = m - 1 then
          match partF l n (m - 1) with
          | none => none
          | some (f, q) => some (f, max q r + 1) else none := by
  rw [partF, if_neg h0, ← hx, if_neg h1, if_neg h2]
  exact if_pos h3
theorem rlPart_neg (l : Arr XNode) (n : Nat) (i : Int) (L : List Blk) (R : List Sl) (hi : i < 0) :
    Tri Try.prog 135 [l.val, .int .i64 i].toArray L R (fun v L' R' => ∃ (f d : Int) (b : Bool), v = .tuple #[.int .i64 f, .int .i64 d, .bool b] ∧ PartR l.l n i f d b ∧ L = L' ∧ R = R') := by
  refine tri_enter 122 Try.call135 Try.func135 rfl rfl rfl ?_
  refine qae ?_
  refine qad ?_
  refine qad ?_
  refine qaz ?_
  refine qaw ?_
  refine qaa ?_
  refine qaj ?_
  refine qaf ?_
  refine q_c (fun hc0 => ?_) (fun hc0 => ?_)
  ·
   refine qae ?_
   refine qad ?_
   refine qad ?_
   refine qaz ?_
   refine qbh ?_
   refine q_r (L' := L) (R' := R) (res3 rfl (rv_tmp (show _ = Value.int _ _ from rfl)) (rv_tmp (show _ = Value.int _ _ from rfl)) (rv_tmp (show _ = Value.bool _ from rfl))) ?_
   exact ⟨0, 0, false, rfl, ⟨by omega, (fun h => by cases h), fun _ => partF_neg hi n⟩, rfl, rfl⟩
  (exfalso; omega)
theorem rlPart_step (l : Arr XNode) (n : Nat) (R : List Sl) (hl : InR (ndsl l) R) (hn : n ≤ 64)
    (ih : ∀ (i : Int) (L : List Blk), i < n → i < l.l.length → -1 ≤ i → Tri Try.prog 135 [l.val, .int .i64 i].toArray L R (fun v L' R' => ∃ (f d : Int) (b : Bool), v = .tuple #[.int .i64 f, .int .i64 d, .bool b] ∧ PartR l.l n i f d b ∧ L = L' ∧ R = R'))
    (i : Int) (L : List Blk) (hi : i < n + 1) (hil : i < l.l.length) (hi1 : -1 ≤ i) :
    Tri Try.prog 135 [l.val, .int .i64 i].toArray L R (fun v L' R' => ∃ (f d : Int) (b : Bool), v = .tuple #[.int .i64 f, .int .i64 d, .bool b] ∧ PartR l.l (n + 1) i f d b ∧ L = L' ∧ R = R') := by
  refine tri_enter 122 Try.call135 Try.func135 rfl rfl rfl ?_
  refine qae ?_
  refine qad ?_
  refine qad ?_
  refine qaz ?_
  refine qaw ?_
  refine qaa ?_
  refine qaj ?_
  refine qaf ?_
  refine q_c (fun hc0 => ?_) (fun hc0 => ?_)
  ·
   refine qae ?_
   refine qad ?_
   refine qad ?_
   refine qaz ?_
   refine qbh ?_
   refine q_r (L' := L) (R' := R) (res3 rfl (rv_tmp (show _ = Value.int _ _ from rfl)) (rv_tmp (show _ = Value.int _ _ from rfl)) (rv_tmp (show _ = Value.bool _ from rfl))) ?_
   exact ⟨0, 0, false, rfl, ⟨by omega, (fun h => by cases h), fun _ => partF_neg hc0 _⟩, rfl, rfl⟩
  have hxg := get_D (l := l.l) (k := i.toNat) default (by omega)
  obtain ⟨x, hx⟩ : ∃ x, x = l.l.getD i.toNat default := ⟨_, rfl⟩
  rw [← hx] at hxg
  refine qbv ?_
  refine qbm ?_
  refine qaa ?_
  refine LJ_q (by first | exact yv_index_ro tb rfl rfl rfl rfl (by first | assumption | exact zr (by simp)) (i := i.toNat) (by first | rfl | omega | (simp; omega)) (by omega) | exact yv_index tb rfl rfl rfl rfl (i := i.toNat) (by first | rfl | omega | (simp; omega)) (by omega)) rfl ?_
  refine qdr ?_
  refine qaq ?_
  intro b7
  refine qak ?_
  refine qaw ?_
  refine qab ?_
  refine qac ?_
  refine LJ_nil (seqK_normal (CJ_block (CJ_seq (CJ_region ?_))))
  refine qbn ?_
  refine qaz ?_
  refine qaf ?_
  refine q_c (fun hc1 => ?_) (fun hc1 => ?_)
  ·
   refine CJ_seq ?_
   refine CJ_drawn tb [0, 1, 2, 3, 4, 5, 6, 7, 8, 9, 10, 11, 12, 13, 14, 15, 16, 17, 18, 19, 20, 21] ([Blk.mk b7 _ _]) mixed (by kernel_rfl) (by repeat (first | exact zs0 _ | exact zs1 _ | apply zs2 | apply zs3 | apply zs4 | apply zs5)) ?_
   refine qao ?_
   refine qal ?_
   refine qat ?_
   refine DJ_q (yv_eql rfl rfl) rfl rfl rfl ?_
   refine qb2 ?_
   refine DJ_case (k := 30) (show _ = Value.bool _ from rfl) (fun hg4 => ?_) (fun hg4 => ?_)
   ·
    replace hg4 := qb hg4
    refine qal ?_
    refine qat ?_
    refine DJ_q (yv_eql rfl rfl) rfl rfl rfl ?_
    refine qbp ?_
    refine qb2 ?_
    refine DJ_case (k := 35) (show _ = Value.bool _ from rfl) (fun hg9 => ?_) (fun hg9 => ?_)
    ·
     replace hg9 := qb hg9
     refine qal ?_
     refine qat ?_
     refine DJ_q (yv_geq rfl rfl) rfl rfl rfl ?_
     refine qbp ?_
     refine qb2 ?_
     refine DJ_case (k := 40) (show _ = Value.bool _ from rfl) (fun hg14 => ?_) (fun hg14 => ?_)
     ·
      replace hg14 := qb hg14
      refine qal ?_
      refine qat ?_
      refine DJ_q (yv_lss rfl rfl) rfl rfl rfl ?_
      refine qbp ?_
      refine qcg ?_
      refine qcg ?_
      refine ybgaa ?_
      refine DJ_nil (seqK_normal (CJ_ret (blockK_ret (seqK_ret ?_))))
      refine q_r (L' := L) (R' := R) (res3 rfl (rv_tmp (show _ = Value.int _ _ from rfl)) (rv_tmp (show _ = Value.int _ _ from rfl)) (rv_tmp (show _ = Value.bool _ from rfl))) ?_
      have hpf : partF l.l (n + 1) i = if x.left = 0 ∧ x.right = 0 ∧ 0 ≤ x.cond ∧ x.cond < 64 then some (i, 1) else none := by rw [partF, if_neg hc0, ← hx, if_pos hc1]
      exact ybgab
     replace hg14 := qb hg14
     iterate 3 refine qap ?_
     refine qbp ?_
     refine qcg ?_
     refine qcg ?_
     refine ybgaa ?_
     refine DJ_nil (seqK_normal (CJ_ret (blockK_ret (seqK_ret ?_))))
     refine q_r (L' := L) (R' := R) (res3 rfl (rv_tmp (show _ = Value.int _ _ from rfl)) (rv_tmp (show _ = Value.int _ _ from rfl)) (rv_tmp (show _ = Value.bool _ from rfl))) ?_
     have hpf : partF l.l (n + 1) i = if x.left = 0 ∧ x.right = 0 ∧ 0 ≤ x.cond ∧ x.cond < 64 then some (i, 1) else none := by rw [partF, if_neg hc0, ← hx, if_pos hc1]
     exact ybgab
    replace hg9 := qb hg9
    iterate 3 refine qap ?_
    refine qbp ?_
    refine qb2 ?_
    iterate 3 refine qap ?_
    refine qbp ?_
    refine qcg ?_
    refine qcg ?_
    refine ybgaa ?_
    refine DJ_nil (seqK_normal (CJ_ret (blockK_ret (seqK_ret ?_))))
    refine q_r (L' := L) (R' := R) (res3 rfl (rv_tmp (show _ = Value.int _ _ from rfl)) (rv_tmp (show _ = Value.int _ _ from rfl)) (rv_tmp (show _ = Value.bool _ from rfl))) ?_
    have hpf : partF l.l (n + 1) i = if x.left = 0 ∧ x.right = 0 ∧ 0 ≤ x.cond ∧ x.cond < 64 then some (i, 1) else none := by rw [partF, if_neg hc0, ← hx, if_pos hc1]
    exact ybgab
   replace hg4 := qb hg4
   iterate 3 refine qap ?_
   refine qbp ?_
   refine qb2 ?_
   iterate 3 refine qap ?_
   refine qbp ?_
   refine qb2 ?_
   iterate 3 refine qap ?_
   refine qbp ?_
   refine qcg ?_
   refine qcg ?_
   refine ybgaa ?_
   refine DJ_nil (seqK_normal (CJ_ret (blockK_ret (seqK_ret ?_))))
   refine q_r (L' := L) (R' := R) (res3 rfl (rv_tmp (show _ = Value.int _ _ from rfl)) (rv_tmp (show _ = Value.int _ _ from rfl)) (rv_tmp (show _ = Value.bool _ from rfl))) ?_
   have hpf : partF l.l (n + 1) i = if x.left = 0 ∧ x.right = 0 ∧ 0 ≤ x.cond ∧ x.cond < 64 then some (i, 1) else none := by rw [partF, if_neg hc0, ← hx, if_pos hc1]
   exact ybgab
  refine qae ?_
  refine qbn ?_
  refine qaz ?_
  refine qaf ?_
  refine q_c (fun hc2 => ?_) (fun hc2 => ?_)
  ·
   refine qae ?_
   refine qbm ?_
   refine qaa ?_
   refine qa9 ?_
   refine ybgac ?_
   rintro v L' R' ⟨f, d, b, rfl, hP, rfl, rfl⟩
   have hPb := hP.bnd
   refine LJ_q (yv_move rfl) rfl ?_
   iterate 3 refine qbs ?_
   refine qad ?_
   refine qad ?_
   refine qaz ?_
   refine qa4 ?_
   refine CJ_drawn tb [0, 1, 2, 3, 4, 5, 6, 7, 8, 9, 10, 11, 12, 13, 14, 15, 16, 17, 18, 19, 20, 21, 22, 23] ([Blk.mk b7 _ _]) mixed (by kernel_rfl) (by repeat (first | exact zs0 _ | exact zs1 _ | apply zs2 | apply zs3 | apply zs4 | apply zs5)) ?_
   refine qao ?_
   refine qao ?_
   refine qc2 ?_
   refine qb2 ?_
   refine qb2 ?_
   refine DJ_case (k := 59) (show _ = Value.bool _ from rfl) (fun hg4 => ?_) (fun hg4 => ?_)
   ·
    replace hg4 := qb hg4
    refine qal ?_
    refine qat ?_
    refine DJ_q (yv_eql rfl rfl) rfl rfl rfl ?_
    refine qbp ?_
    refine qb2 ?_
    refine DJ_case (k := 64) (show _ = Value.bool _ from rfl) (fun hg9 => ?_) (fun hg9 => ?_)
    ·
     replace hg9 := qb hg9
     refine qal ?_
     refine qat ?_
     refine DJ_q (yv_eql rfl rfl) rfl rfl rfl ?_
     refine qbp ?_
     refine qb2 ?_
     refine DJ_case (k := 69) (show _ = Value.bool _ from rfl) (fun hg14 => ?_) (fun hg14 => ?_)
     ·
      replace hg14 := qb hg14
      refine qal ?_
      refine qat ?_
      refine qao ?_
      refine qb7 ?_
      refine DJ_q (yv_eql rfl rfl) rfl rfl rfl ?_
      refine qbp ?_
      refine qcg ?_
      refine qcg ?_
      refine ybgaa ?_
      refine DJ_nil (seqK_normal (CJ_ret (blockK_ret (seqK_ret ?_))))
      refine q_r (L' := L) (R' := R) (res3 rfl (rv_tmp (show _ = Value.int _ _ from rfl)) (rv_tmp (show _ = Value.int _ _ from rfl)) (rv_tmp (show _ = Value.bool _ from rfl))) ?_
      have hpf := partF_k2 (n := n) hc0 hx hc1 hc2
      refine ⟨f, d + 1, _, rfl, ⟨by omega, fun h => ?_, fun h => ?_⟩, rfl, rfl⟩
      · cases b with
        | false => first | (cases h; done) | (simp at hg4; done)
        | true => rw [hpf, hP.yes rfl]; dsimp only; rw [if_pos (by first | (cases h; done) | (have h' := of_decide_eq_true h; omega) | (have h' := of_decide_eq_false h; omega) | omega)]
      · cases b with
        | false => rw [hpf, hP.no rfl]
        | true => first | (simp at hg4; done) | (rw [hpf, hP.yes rfl]; dsimp only; rw [if_neg (by first | (cases h; done) | (have h' := of_decide_eq_true h; omega) | (have h' := of_decide_eq_false h; omega) | omega)])
     replace hg14 := qb hg14
     iterate 5 refine qap ?_
     refine qbp ?_
     refine qcg ?_
     refine qcg ?_
     refine ybgaa ?_
     refine DJ_nil (seqK_normal (CJ_ret (blockK_ret (seqK_ret ?_))))
     refine q_r (L' := L) (R' := R) (res3 rfl (rv_tmp (show _ = Value.int _ _ from rfl)) (rv_tmp (show _ = Value.int _ _ from rfl)) (rv_tmp (show _ = Value.bool _ from rfl))) ?_
     have hpf := partF_k2 (n := n) hc0 hx hc1 hc2
     refine ⟨f, d + 1, _, rfl, ⟨by omega, fun h => ?_, fun h => ?_⟩, rfl, rfl⟩
     · cases b with
       | false => first | (cases h; done) | (simp at hg4; done)
       | true => rw [hpf, hP.yes rfl]; dsimp only; rw [if_pos (by first | (cases h; done) | (have h' := of_decide_eq_true h; omega) | (have h' := of_decide_eq_false h; omega) | omega)]
     · cases b with
       | false => rw [hpf, hP.no rfl]
       | true => first | (simp at hg4; done) | (rw [hpf, hP.yes rfl]; dsimp only; rw [if_neg (by first | (cases h; done) | (have h' := of_decide_eq_true h; omega) | (have h' := of_decide_eq_false h; omega) | omega)])
    replace hg9 := qb hg9
    iterate 3 refine qap ?_
    refine qbp ?_
    refine qb2 ?_
    iterate 5 refine qap ?_
    refine qbp ?_
    refine qcg ?_
    refine qcg ?_
    refine ybgaa ?_
    refine DJ_nil (seqK_normal (CJ_ret (blockK_ret (seqK_ret ?_))))
    refine q_r (L' := L) (R' := R) (res3 rfl (rv_tmp (show _ = Value.int _ _ from rfl)) (rv_tmp (show _ = Value.int _ _ from rfl)) (rv_tmp (show _ = Value.bool _ from rfl))) ?_
    have hpf := partF_k2 (n := n) hc0 hx hc1 hc2
    refine ⟨f, d + 1, _, rfl, ⟨by omega, fun h => ?_, fun h => ?_⟩, rfl, rfl⟩
    · cases b with
      | false => first | (cases h; done) | (simp at hg4; done)
      | true => rw [hpf, hP.yes rfl]; dsimp only; rw [if_pos (by first | (cases h; done) | (have h' := of_decide_eq_true h; omega) | (have h' := of_decide_eq_false h; omega) | omega)]
    · cases b with
      | false => rw [hpf, hP.no rfl]
      | true => first | (simp at hg4; done) | (rw [hpf, hP.yes rfl]; dsimp only; rw [if_neg (by first | (cases h; done) | (have h' := of_decide_eq_true h; omega) | (have h' := of_decide_eq_false h; omega) | omega)])
   replace hg4 := qb hg4
   iterate 3 refine qap ?_
   refine qbp ?_
   refine qb2 ?_
   iterate 3 refine qap ?_
   refine qbp ?_
   refine qb2 ?_
   iterate 5 refine qap ?_
   refine qbp ?_
   refine qcg ?_
   refine qcg ?_
   refine ybgaa ?_
   refine DJ_nil (seqK_normal (CJ_ret (blockK_ret (seqK_ret ?_))))
   refine q_r (L' := L) (R' := R) (res3 rfl (rv_tmp (show _ = Value.int _ _ from rfl)) (rv_tmp (show _ = Value.int _ _ from rfl)) (rv_tmp (show _ = Value.bool _ from rfl))) ?_
   have hpf := partF_k2 (n := n) hc0 hx hc1 hc2
   refine ⟨f, d + 1, _, rfl, ⟨by omega, fun h => ?_, fun h => ?_⟩, rfl, rfl⟩
   · cases b with
     | false => first | (cases h; done) | (simp at hg4; done)
     | true => rw [hpf, hP.yes rfl]; dsimp only; rw [if_pos (by first | (cases h; done) | (have h' := of_decide_eq_true h; omega) | (have h' := of_decide_eq_false h; omega) | omega)]
   · cases b with
     | false => rw [hpf, hP.no rfl]
     | true => first | (simp at hg4; done) | (rw [hpf, hP.yes rfl]; dsimp only; rw [if_neg (by first | (cases h; done) | (have h' := of_decide_eq_true h; omega) | (have h' := of_decide_eq_false h; omega) | omega)])
  refine qbi ?_
  refine qbn ?_
  refine qaz ?_
  refine qaf ?_
  refine q_c (fun hc3 => ?_) (fun hc3 => ?_)
  ·
   refine CJ_skip (seqK_normal ?_)
   refine q_c (fun hc4 => ?_) (fun hc4 => ?_)
   ·
    refine qae ?_
    refine qbm ?_
    refine qaa ?_
    refine qa9 ?_
    refine ybgac ?_
    rintro v L' R' ⟨m, r, b, rfl, hP, rfl, rfl⟩
    have hPb := hP.bnd
    have hpf := partF_k3 (n := n) hc0 hx hc1 hc2 (by first | exact .inl hc3 | exact .inr hc4)
    refine LJ_q (yv_move rfl) rfl ?_
    iterate 3 refine qbs ?_
    refine qad ?_
    refine qad ?_
    refine qaz ?_
    refine qaw ?_
    refine qah ?_
    refine qb4 ?_
    refine qah ?_
    apply LJ_or (G := [_, _, _]) (j := 2) (cj := 89) rfl rfl (by rfl) rfl (show _ = Value.bool _ from rfl) rfl
    ·
     intro hg3
     replace hg3 := qb hg3
     refine qab ?_
     refine qac ?_
     refine qbq ?_
     exact qai
    intro junk3
    refine qah ?_
    apply LJ_or (G := [_, _, _, _, _]) (j := 7) (cj := 94) rfl rfl (by rfl) rfl (show _ = Value.bool _ from rfl) rfl
    ·
     intro hg8
     replace hg8 := qb hg8
     refine qab ?_
     refine qac ?_
     refine qaa ?_
     refine qa9 ?_
     refine qbq ?_
     exact qai
    intro junk8
    refine qah ?_
    apply LJ_or (G := [_, _, _, _, _]) (j := 14) (cj := 101) rfl rfl (by rfl) rfl (show _ = Value.bool _ from rfl) rfl
    ·
     intro hg15
     replace hg15 := qb hg15
     have hbt : b = true := by cases b with | true => rfl | false => simp at hg15
     have hmb := (partF_ok _ _ _ _ (hP.yes hbt)).1
     refine qab ?_
     refine qac ?_
     refine qaa ?_
     refine qa9 ?_
     refine qbq ?_
     exact qai
    intro junk15
    refine qaf ?_
    refine q_c (fun hc5 => ?_) (fun hc5 => ?_)
    ·
     refine qae ?_
     refine qad ?_
     refine qad ?_
     refine qaz ?_
     refine LJ_nil (seqK_normal (CJ_ret (seqK_ret (blockK_ret (seqK_ret ?_)))))
     refine q_r (L' := L) (R' := R) (res3 rfl (rv_tmp (show _ = Value.int _ _ from rfl)) (rv_tmp (show _ = Value.int _ _ from rfl)) (rv_tmp (show _ = Value.bool _ from rfl))) ?_
     refine ⟨0, 0, false, rfl, ⟨by omega, (fun h => by cases h), fun _ => ?_⟩, rfl, rfl⟩
     cases b with
     | false => rw [hpf, hP.no rfl]
     | true => rw [hpf, hP.yes rfl]; dsimp only; rw [if_neg (by simp at hc5; omega)]
    have hbt : b = true := by cases b with | true => rfl | false => simp at hc5
    have hmb := (partF_ok _ _ _ _ (hP.yes hbt)).1
    rw [hP.yes hbt] at hpf
    dsimp only at hpf
    rw [if_pos (by rw [hbt] at hc5; simp at hc5; omega)] at hpf
    refine qbv ?_
    refine qbm ?_
    refine qaa ?_
    refine qa9 ?_
    refine LJ_call rfl (ih (m - 1) _ (by omega) (by omega) (by omega)) rfl ?_
    rintro v L' R' ⟨f, q, b2, rfl, hP2, rfl, rfl⟩
    have hPb2 := hP2.bnd
    refine LJ_q (yv_move rfl) rfl ?_
    iterate 3 refine qbs ?_
    refine qad ?_
    refine qad ?_
    refine qaz ?_
    refine qam ?_
    iterate 3 refine qaa ?_
    refine LJ_q (yv_max2 rfl rfl) rfl ?_
    refine qar ?_
    refine qah ?_
    refine qad ?_
    refine qad ?_
    refine qaz ?_
    refine qdb ?_
    refine q_r (L' := L) (R' := R) (res3 rfl (rv_tmp (show _ = Value.int _ _ from rfl)) (rv_tmp (show _ = Value.int _ _ from rfl)) (rv_tmp (show _ = Value.bool _ from rfl))) ?_
    exact ybgad
   refine CJ_skip (blockK_normal (seqK_normal (CJ_seq (CJ_region ?_))))
   refine qad ?_
   refine qad ?_
   refine qaz ?_
   refine qa0 ?_
   refine q_r (L' := L) (R' := R) (res3 rfl (rv_tmp (show _ = Value.int _ _ from rfl)) (rv_tmp (show _ = Value.int _ _ from rfl)) (rv_tmp (show _ = Value.bool _ from rfl))) ?_
   exact ybgae
  refine qay ?_
  refine qbn ?_
  refine qaz ?_
  refine qaf ?_
  refine q_c (fun hc4 => ?_) (fun hc4 => ?_)
  ·
   refine qae ?_
   refine qbm ?_
   refine qaa ?_
   refine qa9 ?_
   refine ybgac ?_
   rintro v L' R' ⟨m, r, b, rfl, hP, rfl, rfl⟩
   have hPb := hP.bnd
   have hpf := partF_k3 (n := n) hc0 hx hc1 hc2 (by first | exact .inl hc3 | exact .inr hc4)
   refine LJ_q (yv_move rfl) rfl ?_
   iterate 3 refine qbs ?_
   refine qad ?_
   refine qad ?_
   refine qaz ?_
   refine qaw ?_
   refine qah ?_
   refine qb4 ?_
   refine qah ?_
   apply LJ_or (G := [_, _, _]) (j := 2) (cj := 89) rfl rfl (by rfl) rfl (show _ = Value.bool _ from rfl) rfl
   ·
    intro hg3
    replace hg3 := qb hg3
    refine qab ?_
    refine qac ?_
    refine qbq ?_
    exact qai
   intro junk3
   refine qah ?_
   apply LJ_or (G := [_, _, _, _, _]) (j := 7) (cj := 94) rfl rfl (by rfl) rfl (show _ = Value.bool _ from rfl) rfl
   ·
    intro hg8
    replace hg8 := qb hg8
    refine qab ?_
    refine qac ?_
    refine qaa ?_
    refine qa9 ?_
    refine qbq ?_
    exact qai
   intro junk8
   refine qah ?_
   apply LJ_or (G := [_, _, _, _, _]) (j := 14) (cj := 101) rfl rfl (by rfl) rfl (show _ = Value.bool _ from rfl) rfl
   ·
    intro hg15
    replace hg15 := qb hg15
    have hbt : b = true := by cases b with | true => rfl | false => simp at hg15
    have hmb := (partF_ok _ _ _ _ (hP.yes hbt)).1
    refine qab ?_
    refine qac ?_
    refine qaa ?_
    refine qa9 ?_
    refine qbq ?_
    exact qai
   intro junk15
   refine qaf ?_
   refine q_c (fun hc5 => ?_) (fun hc5 => ?_)
   ·
    refine qae ?_
    refine qad ?_
    refine qad ?_
    refine qaz ?_
    refine LJ_nil (seqK_normal (CJ_ret (seqK_ret (blockK_ret (seqK_ret ?_)))))
    refine q_r (L' := L) (R' := R) (res3 rfl (rv_tmp (show _ = Value.int _ _ from rfl)) (rv_tmp (show _ = Value.int _ _ from rfl)) (rv_tmp (show _ = Value.bool _ from rfl))) ?_
    refine ⟨0, 0, false, rfl, ⟨by omega, (fun h => by cases h), fun _ => ?_⟩, rfl, rfl⟩
    cases b with
    | false => rw [hpf, hP.no rfl]
    | true => rw [hpf, hP.yes rfl]; dsimp only; rw [if_neg (by simp at hc5; omega)]
   have hbt : b = true := by cases b with | true => rfl | false => simp at hc5
   have hmb := (partF_ok _ _ _ _ (hP.yes hbt)).1
   rw [hP.yes hbt] at hpf
   dsimp only at hpf
   rw [if_pos (by rw [hbt] at hc5; simp at hc5; omega)] at hpf
   refine qbv ?_
   refine qbm ?_
   refine qaa ?_
   refine qa9 ?_
   refine LJ_call rfl (ih (m - 1) _ (by omega) (by omega) (by omega)) rfl ?_
   rintro v L' R' ⟨f, q, b2, rfl, hP2, rfl, rfl⟩
   have hPb2 := hP2.bnd
   refine LJ_q (yv_move rfl) rfl ?_
   iterate 3 refine qbs ?_
   refine qad ?_
   refine qad ?_
   refine qaz ?_
   refine qam ?_
   iterate 3 refine qaa ?_
   refine LJ_q (yv_max2 rfl rfl) rfl ?_
   refine qar ?_
   refine qah ?_
   refine qad ?_
   refine qad ?_
   refine qaz ?_
   refine qdb ?_
   refine q_r (L' := L) (R' := R) (res3 rfl (rv_tmp (show _ = Value.int _ _ from rfl)) (rv_tmp (show _ = Value.int _ _ from rfl)) (rv_tmp (show _ = Value.bool _ from rfl))) ?_
   exact ybgad
  refine CJ_skip (blockK_normal (seqK_normal (CJ_seq (CJ_region ?_))))
  refine qad ?_
  refine qad ?_
  refine qaz ?_
  refine qa0 ?_
  refine q_r (L' := L) (R' := R) (res3 rfl (rv_tmp (show _ = Value.int _ _ from rfl)) (rv_tmp (show _ = Value.int _ _ from rfl)) (rv_tmp (show _ = Value.bool _ from rfl))) ?_
  exact ybgae
theorem rlPart_tri (l : Arr XNode) (R : List Sl) (hl : InR (ndsl l) R) : ∀ (n : Nat), n ≤ 64 → ∀ (i : Int) (L : List Blk), i < n → i < l.l.length → -1 ≤ i →
    Tri Try.prog 135 [l.val, .int .i64 i].toArray L R (fun v L' R' => ∃ (f d : Int) (b : Bool), v = .tuple #[.int .i64 f, .int .i64 d, .bool b] ∧ PartR l.l n i f d b ∧ L = L' ∧ R = R')
  | 0, _, i, L, hi, _, _ => rlPart_neg l 0 i L R (by omega)
  | n + 1, hn, i, L, hi, hil, hi1 => rlPart_step l n R hl (by omega) (fun i L h1 h2 h3 => rlPart_tri l R hl n (by omega) i L h1 h2 h3) i L hi hil hi1
theorem rlRight_tri (l : Arr XNode) (L : List Blk) (R : List Sl) (hl : InR (ndsl l) R) :
    Tri Try.prog 119 [l.val].toArray L R (fun v L' R' => v = .bool (rightR l.l) ∧ L = L' ∧ R = R') := by
  refine tri_enter 32 Try.call119 Try.func119 rfl rfl rfl ?_
  refine qae ?_
  refine qaz ?_
  refine qaw ?_
  refine qbm ?_
  refine qag ?_
  refine qaj ?_
  refine qah ?_
  apply LJ_or (G := [_, _, _]) (j := 3) (cj := 9) rfl rfl (by rfl) rfl (show _ = Value.bool _ from rfl) rfl
  ·
   intro hg4
   replace hg4 := qb hg4
   refine qbm ?_
   refine qag ?_
   refine qa5 ?_
   exact qai
  intro junk4
  refine qaf ?_
  refine q_c (fun hc0 => ?_) (fun hc0 => ?_)
  ·
   refine qae ?_
   refine qaz ?_
   refine qbh ?_
   refine q_b (L' := L) (R' := R) ?_
   exact ⟨by rw [rightR, decide_eq_false (by omega)]; rfl, rfl, rfl⟩
  refine qbv ?_
  refine qbm ?_
  refine qbm ?_
  refine qag ?_
  refine qa9 ?_
  refine LJ_call rfl (rlPart_tri l _ hl l.l.length (by omega) _ _ (by omega) (by omega) (by omega)) rfl ?_
  rintro v L' R' ⟨f, d, b, rfl, hP, rfl, rfl⟩
  refine LJ_q (yv_move rfl) rfl ?_
  iterate 3 refine qbs ?_
  refine qad ?_
  refine qad ?_
  refine qaz ?_
  refine qam ?_
  refine qah ?_
  refine qah ?_
  apply LJ_and (G := [_, _]) (j := 1) (cj := 24) rfl rfl (by rfl) rfl (show _ = Value.bool _ from rfl) rfl
  ·
   intro hg2
   replace hg2 := qb hg2
   refine qaa ?_
   refine qbn ?_
   exact qai
  intro junk2
  refine qah ?_
  apply LJ_and (G := [_, _]) (j := 5) (cj := 28) rfl rfl (by rfl) rfl (show _ = Value.bool _ from rfl) rfl
  ·
   intro hg6
   replace hg6 := qb hg6
   refine qaa ?_
   refine qbx ?_
   exact qai
  intro junk6
  refine qaz ?_
  refine qa0 ?_
  refine q_b (L' := L) (R' := R) ?_
  refine ⟨?_, rfl, rfl⟩
  rw [rightR, show decide (1 ≤ l.l.length ∧ l.l.length ≤ 64) = true from decide_eq_true (by omega)]
  cases b with
  | false => rw [hP.no rfl]; rfl
  | true =>
    rw [hP.yes rfl]
    refine congrArg Value.bool ?_
    rw [Bool.eq_iff_iff]
    simp
theorem ruleErr_of {l : List XNode} {n : Nat} (h : rightR l = true) (k : Nat) (hk : k < l.length) (h1 : (l.getD k default).kind = 1) (h2 : (n : Int) ≤ (l.getD k default).cond) : ruleErr l n = 1 := by
  rw [ruleErr, if_neg (by rw [h]; decide), if_pos ⟨_, List.mem_of_getElem? (get_D default hk), h1, h2⟩]
theorem ruleErr_none {l : List XNode} {n : Nat} (h : rightR l = true) (hk : ∀ k : Nat, k < l.length → ¬ ((l.getD k default).kind = 1 ∧ (n : Int) ≤ (l.getD k default).cond)) : ruleErr l n = 0 := by
  rw [ruleErr, if_neg (by rw [h]; decide), if_neg]
  rintro ⟨x, hx, h1, h2⟩
  obtain ⟨k, hk', rfl⟩ := List.mem_iff_getElem.1 hx
  have e : l.getD k default = l[k] := by rw [List.getD_eq_getElem?_getD, List.getElem?_eq_getElem hk']; rfl
  exact hk k hk' (by rw [e]; exact ⟨h1, h2⟩)
theorem rlCheck_tri (l : Arr XNode) (n : Nat) (L : List Blk) (R : List Sl) (hl : InR (ndsl l) R) :
    Tri Try.prog 95 [l.val, .int .i64 (n : Int)].toArray L R (fun v L' R' => v = .int .i64 (ruleErr l.l n) ∧ L = L' ∧ R = R') := by
  refine tri_enter 26 Try.call95 Try.func95 rfl rfl rfl ?_
  refine qae ?_
  refine qad ?_
  refine qaw ?_
  refine qbm ?_
  refine q_l rfl (rlRight_tri l _ _ hl) ?_
  refine qb4 ?_
  refine qaf ?_
  refine q_c (fun hc0 => ?_) (fun hc0 => ?_)
  ·
   refine qae ?_
   refine qad ?_
   refine qbh ?_
   refine q_i (L' := L) (R' := R) ?_
   exact ⟨by rw [ruleErr, if_pos (by simpa using hc0)], rfl, rfl⟩
  have hr : rightR l.l = true := by simpa using hc0
  have hln := (rightR_iff.1 hr).1
  refine qbo ?_
  refine qbm ?_
  refine qag ?_
  refine qaa ?_
  refine qa2 ?_
  refine CJ_forget [(1, Value.int _ _), (10, Value.slice _ _ _), (11, Value.int _ _), (12, Value.int _ _)] (by repeat' (first | exact trivial | refine And.intro rfl ?_)) fun tq0 => ?_
  refine q_s [4, 6, 12, 13, 14, 15, 16, 17, 18, 19, 20, 21, 22, 23, 24, 25] (fun g : {k : Nat // k ≤ l.l.length ∧ ∀ j : Nat, j < k → ¬ ((l.l.getD j default).kind = 1 ∧ (n : Int) ≤ (l.l.getD j default).cond)} => [(12, .int .i64 ((g.1 : Nat) : Int))]) (fun g => l.l.length - g.1) (⟨0, by omega, fun j hj => by omega⟩) ?_
  rintro ⟨k, hk, hal⟩ junk
  try dsimp only
  refine qae ?_
  refine qaj ?_
  refine qa4 ?_
  refine q_c (fun hc1 => ?_) (fun hc1 => ?_)
  ·
   have h1 := get_D (l := l.l) (k := k) default (by omega)
   refine qbb ?_
   refine LJ_q (by first | exact yv_index_ro tb rfl rfl rfl rfl (by first | assumption | exact zr (by simp)) (i := k) (by first | rfl | omega | (simp; omega)) (by omega) | exact yv_index tb rfl rfl rfl rfl (i := k) (by first | rfl | omega | (simp; omega)) (by omega)) rfl ?_
   refine qdr ?_
   refine qaq ?_
   intro b6
   refine qak ?_
   refine qam ?_
   refine qab ?_
   refine qac ?_
   refine qbn ?_
   refine qah ?_
   apply LJ_and (G := [_, _, _, _]) (j := 3) (cj := 19) rfl rfl (by rfl) rfl (show _ = Value.bool _ from rfl) rfl
   ·
    intro hg4
    replace hg4 := qb hg4
    refine qab ?_
    refine qac ?_
    refine qaa ?_
    refine qbz ?_
    exact qai
   intro junk4
   refine qaf ?_
   refine q_c (fun hc2 => ?_) (fun hc2 => ?_)
   ·
    refine qae ?_
    refine qad ?_
    refine qbt ?_
    refine q_i (L' := L) (R' := R) ?_
    exact ⟨by rw [ruleErr_of hr k (by omega) hc2.1 hc2.2], rfl, rfl⟩
   refine qbj ?_
   refine qar ?_
   refine qaa ?_
   refine qav ?_
   exact loopK_mk (⟨k + 1, by omega, fun j hj => by
   rcases Nat.lt_or_ge j k with h | h
   · exact hal j h
   · obtain rfl : j = k := by omega
     omega⟩) (by repeat (first | exact Off.refl | apply Off.upd rfl | apply Off.havoc rfl | apply Off.updL rfl | apply Off.left rfl)) (by repeat' (first | exact trivial | refine And.intro rfl ?_)) (by repeat (first | exact zs0 _ | exact zs1 _ | apply zs2 | apply zs3 | apply zs4 | apply zs5)) (allR_self _) (by dsimp only; omega)
  refine qbk ?_
  refine qad ?_
  refine qa0 ?_
  refine q_i (L' := L) (R' := R) ?_
  exact ⟨by rw [ruleErr_none hr (fun j hj => hal j (by omega))], rfl, rfl⟩
end Go.Proofs.Ytkpfjmibipblhaa
