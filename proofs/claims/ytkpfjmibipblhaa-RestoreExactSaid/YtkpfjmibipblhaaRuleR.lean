/-
  Rules, the reference's: part, Right, Check, value, Eval. By an AI agent; no person has read it.
-/
import Derived.Test.YtkpfjmibipblhaaEval
set_option linter.unusedSimpArgs false
set_option linter.unusedVariables false
namespace Go.Proofs.Ytkpfjmibipblhaa
open Go.Aw Go
set_option maxRecDepth 20000
attribute [local irreducible] CJ LJ DJ Tri YV Gives seqK blockK loopK retK RV mergeK OwL.L
section
variable {A9 B9 : Prop}
theorem ybmaa (a : A9) (h : A9 → B9 := by exact LJ_call rfl (ih (i - 1) _ (by omega) (by omega) (by omega)) rfl) : B9 := h a
theorem ybmab (h : B9 := by exact ⟨-1, 0, rfl, partQ_none (by omega) (by rw [partF, if_neg h0, ← hx, if_neg hc1, if_neg hc3, if_neg (by omega)]), rfl, rfl⟩) : B9 := h
theorem ybmac (a : A9) (h : A9 → B9 := by exact LJ_q (by first | exact yv_index_ro tb rfl rfl rfl rfl (by first | assumption | exact zr (by simp)) (i := k) (by first | rfl | omega | (simp; omega)) (by omega) | exact yv_index tb rfl rfl rfl rfl (i := k) (by first | rfl | omega | (simp; omega)) (by omega)) rfl) : B9 := h a
end
structure PartQ (l : List XNode) (n : Nat) (i f d : Int) : Prop where
  bnd : 0 ≤ d ∧ d ≤ n
  yes : ∀ a b, partF l n i = some (a, b) → f = a ∧ d = b
  no : partF l n i = none → f = -1
theorem partQ_none {l : List XNode} {n : Nat} {i : Int} {d : Int} (hd : 0 ≤ d ∧ d ≤ n) (h : partF l n i = none) : PartQ l n i (-1) d := ⟨hd, (fun a b hh => by rw [h] at hh; cases hh), fun _ => rfl⟩
theorem partQ_some {l : List XNode} {n : Nat} {i f d : Int} (h : partF l n i = some (f, d)) : PartQ l n i f d :=
  ⟨by have := (partF_ok _ _ _ _ h).2.1; omega, (fun a b hh => by rw [h] at hh; cases hh; exact ⟨rfl, rfl⟩), fun hh => by rw [h] at hh; cases hh⟩
theorem refPart_neg (l : Arr XNode) (n : Nat) (i : Int) (L : List Blk) (R : List Sl) (hi : i < 0) :
    Tri Try.prog 137 [l.val, .int .i64 i].toArray L R (fun v L' R' => ∃ f d : Int, v = .tuple #[.int .i64 f, .int .i64 d] ∧ PartQ l.l n i f d ∧ L = L' ∧ R = R') := by
  refine tri_enter 116 Try.call137 Try.func137 rfl rfl rfl ?_
  refine qae ?_
  refine qad ?_
  refine qad ?_
  refine qaw ?_
  refine qaa ?_
  refine qaj ?_
  refine qah ?_
  apply LJ_or (G := [_, _, _, _]) (j := 2) (cj := 15) rfl rfl (by rfl) rfl (show _ = Value.bool _ from rfl) rfl
  ·
   intro hg3
   replace hg3 := qb hg3
   refine qaa ?_
   refine qbm ?_
   refine qag ?_
   refine qbz ?_
   exact qai
  intro junk3
  refine qaf ?_
  refine q_c (fun hc0 => ?_) (fun hc0 => ?_)
  ·
   refine qae ?_
   refine qad ?_
   refine qad ?_
   refine qbh ?_
   refine q_r (L' := L) (R' := R) (res2 rfl (rv_tmp (show _ = Value.int _ _ from rfl)) (rv_tmp (show _ = Value.int _ _ from rfl))) ?_
   exact ⟨-1, 0, rfl, partQ_none (by omega) (partF_neg hi n), rfl, rfl⟩
  (exfalso; omega)
theorem refPart_step (l : Arr XNode) (n : Nat) (R : List Sl) (hl : InR (ndsl l) R) (hn : n ≤ 64)
    (ih : ∀ (i : Int) (L : List Blk), i < n → i < l.l.length → -1 ≤ i → Tri Try.prog 137 [l.val, .int .i64 i].toArray L R (fun v L' R' => ∃ f d : Int, v = .tuple #[.int .i64 f, .int .i64 d] ∧ PartQ l.l n i f d ∧ L = L' ∧ R = R'))
    (i : Int) (L : List Blk) (hi : i < n + 1) (hil : i < l.l.length) (hi1 : -1 ≤ i) :
    Tri Try.prog 137 [l.val, .int .i64 i].toArray L R (fun v L' R' => ∃ f d : Int, v = .tuple #[.int .i64 f, .int .i64 d] ∧ PartQ l.l (n + 1) i f d ∧ L = L' ∧ R = R') := by
  refine tri_enter 116 Try.call137 Try.func137 rfl rfl rfl ?_
  refine qae ?_
  refine qad ?_
  refine qad ?_
  refine qaw ?_
  refine qaa ?_
  refine qaj ?_
  refine qah ?_
  apply LJ_or (G := [_, _, _, _]) (j := 2) (cj := 15) rfl rfl (by rfl) rfl (show _ = Value.bool _ from rfl) rfl
  ·
   intro hg3
   replace hg3 := qb hg3
   refine qaa ?_
   refine qbm ?_
   refine qag ?_
   refine qbz ?_
   exact qai
  intro junk3
  refine qaf ?_
  refine q_c (fun hc0 => ?_) (fun hc0 => ?_)
  ·
   refine qae ?_
   refine qad ?_
   refine qad ?_
   refine qbh ?_
   refine q_r (L' := L) (R' := R) (res2 rfl (rv_tmp (show _ = Value.int _ _ from rfl)) (rv_tmp (show _ = Value.int _ _ from rfl))) ?_
   exact ⟨-1, 0, rfl, partQ_none (by omega) (partF_neg (by omega) _), rfl, rfl⟩
  have hxg := get_D (l := l.l) (k := i.toNat) default (by omega)
  obtain ⟨x, hx⟩ : ∃ x, x = l.l.getD i.toNat default := ⟨_, rfl⟩
  rw [← hx] at hxg
  have h0 : ¬ i < 0 := by omega
  refine qbv ?_
  refine qbm ?_
  refine qaa ?_
  refine LJ_q (by first | exact yv_index_ro tb rfl rfl rfl rfl (by first | assumption | exact zr (by simp)) (i := i.toNat) (by first | rfl | omega | (simp; omega)) (by omega) | exact yv_index tb rfl rfl rfl rfl (i := i.toNat) (by first | rfl | omega | (simp; omega)) (by omega)) rfl ?_
  refine qdr ?_
  refine qaq ?_
  intro b6
  refine qak ?_
  refine qaw ?_
  refine qab ?_
  refine qac ?_
  refine LJ_nil (seqK_normal (CJ_block (CJ_seq (CJ_region ?_))))
  refine qbn ?_
  refine qaz ?_
  refine qaf ?_
  refine q_c (fun hc1 => ?_) (fun hc1 => ?_)
  ·
   have hpf : partF l.l (n + 1) i = if x.left = 0 ∧ x.right = 0 ∧ 0 ≤ x.cond ∧ x.cond < 64 then some (i, 1) else none := by rw [partF, if_neg h0, ← hx, if_pos hc1]
   refine qbi ?_
   refine qab ?_
   refine qac ?_
   refine qaj ?_
   refine qah ?_
   apply LJ_or (G := [_, _, _]) (j := 3) (cj := 32) rfl rfl (by rfl) rfl (show _ = Value.bool _ from rfl) rfl
   ·
    intro hg4
    replace hg4 := qb hg4
    refine qab ?_
    refine qac ?_
    refine qbz ?_
    exact qai
   intro junk4
   refine qah ?_
   apply LJ_or (G := [_, _, _]) (j := 8) (cj := 37) rfl rfl (by rfl) rfl (show _ = Value.bool _ from rfl) rfl
   ·
    intro hg9
    replace hg9 := qb hg9
    refine qab ?_
    refine qac ?_
    refine qbq ?_
    exact qai
   intro junk9
   refine qah ?_
   apply LJ_or (G := [_, _, _]) (j := 13) (cj := 42) rfl rfl (by rfl) rfl (show _ = Value.bool _ from rfl) rfl
   ·
    intro hg14
    replace hg14 := qb hg14
    refine qab ?_
    refine qac ?_
    refine qbq ?_
    exact qai
   intro junk14
   refine qaf ?_
   refine q_c (fun hc2 => ?_) (fun hc2 => ?_)
   ·
    refine qae ?_
    refine qad ?_
    refine qad ?_
    refine LJ_nil (seqK_normal (CJ_ret (seqK_ret (blockK_ret (seqK_ret ?_)))))
    refine q_r (L' := L) (R' := R) (res2 rfl (rv_tmp (show _ = Value.int _ _ from rfl)) (rv_tmp (show _ = Value.int _ _ from rfl))) ?_
    exact ⟨-1, 0, rfl, partQ_none (by omega) (by rw [hpf, if_neg (by omega)]), rfl, rfl⟩
   refine qbv ?_
   refine qaa ?_
   refine qad ?_
   refine qad ?_
   refine qdb ?_
   refine q_r (L' := L) (R' := R) (res2 rfl (rv_tmp (show _ = Value.int _ _ from rfl)) (rv_tmp (show _ = Value.int _ _ from rfl))) ?_
   exact ⟨i, 1, rfl, partQ_some (by rw [hpf, if_pos (by omega)]), rfl, rfl⟩
  refine qae ?_
  refine qbn ?_
  refine qaz ?_
  refine qaf ?_
  refine q_c (fun hc3 => ?_) (fun hc3 => ?_)
  ·
   have hpf := partF_k2 (n := n) h0 hx hc1 hc3
   refine qbi ?_
   refine qab ?_
   refine qac ?_
   refine qbq ?_
   refine qah ?_
   apply LJ_or (G := [_, _, _]) (j := 3) (cj := 53) rfl rfl (by rfl) rfl (show _ = Value.bool _ from rfl) rfl
   ·
    intro hg4
    replace hg4 := qb hg4
    refine qab ?_
    refine qac ?_
    refine qbq ?_
    exact qai
   intro junk4
   refine qah ?_
   apply LJ_or (G := [_, _, _, _, _]) (j := 8) (cj := 58) rfl rfl (by rfl) rfl (show _ = Value.bool _ from rfl) rfl
   ·
    intro hg9
    replace hg9 := qb hg9
    refine qab ?_
    refine qac ?_
    refine qaa ?_
    refine qa9 ?_
    refine qbq ?_
    exact qai
   intro junk9
   refine qaf ?_
   refine q_c (fun hc4 => ?_) (fun hc4 => ?_)
   ·
    refine qae ?_
    refine qad ?_
    refine qad ?_
    refine LJ_nil (seqK_normal (CJ_ret (seqK_ret (blockK_ret (seqK_ret ?_)))))
    refine q_r (L' := L) (R' := R) (res2 rfl (rv_tmp (show _ = Value.int _ _ from rfl)) (rv_tmp (show _ = Value.int _ _ from rfl))) ?_
    refine ⟨-1, 0, rfl, partQ_none (by omega) ?_, rfl, rfl⟩
    rw [hpf]
    cases partF l.l n (i - 1) with
    | none => rfl
    | some z => obtain ⟨a, b⟩ := z; exact if_neg (by omega)
   refine qbv ?_
   refine qbm ?_
   refine qaa ?_
   refine qa9 ?_
   refine ybmaa ?_
   rintro v L' R' ⟨f, d, rfl, hP, rfl, rfl⟩
   have hPb := hP.bnd
   refine LJ_q (yv_move rfl) rfl ?_
   refine qbs ?_
   refine qbs ?_
   refine qad ?_
   refine qad ?_
   refine qam ?_
   refine qaa ?_
   refine qaa ?_
   refine qar ?_
   refine qad ?_
   refine qad ?_
   refine qdb ?_
   refine q_r (L' := L) (R' := R) (res2 rfl (rv_tmp (show _ = Value.int _ _ from rfl)) (rv_tmp (show _ = Value.int _ _ from rfl))) ?_
   refine ⟨f, d + 1, rfl, ?_, rfl, rfl⟩
   cases hq : partF l.l n (i - 1) with
   | none => rw [hP.no hq]; exact partQ_none (by omega) (by rw [hpf, hq])
   | some z =>
     obtain ⟨a, b⟩ := z
     obtain ⟨rfl, rfl⟩ := hP.yes _ _ hq
     exact partQ_some (by rw [hpf, hq]; exact if_pos (by omega))
  refine qbi ?_
  refine qbn ?_
  refine qaz ?_
  refine qaf ?_
  refine q_c (fun hc5 => ?_) (fun hc5 => ?_)
  ·
   refine CJ_skip (seqK_normal ?_)
   refine q_c (fun hc6 => ?_) (fun hc6 => ?_)
   ·
    have hpf := partF_k3 (n := n) h0 hx hc1 hc3 (by first | exact .inl hc5 | exact .inr hc6)
    refine qbi ?_
    refine qab ?_
    refine qac ?_
    refine qbq ?_
    refine qah ?_
    apply LJ_or (G := [_, _, _, _, _]) (j := 3) (cj := 81) rfl rfl (by rfl) rfl (show _ = Value.bool _ from rfl) rfl
    ·
     intro hg4
     replace hg4 := qb hg4
     refine qab ?_
     refine qac ?_
     refine qaa ?_
     refine qa9 ?_
     refine qbq ?_
     exact qai
    intro junk4
    refine qaf ?_
    refine q_c (fun hc7 => ?_) (fun hc7 => ?_)
    ·
     refine qae ?_
     refine qad ?_
     refine qad ?_
     refine LJ_nil (seqK_normal (CJ_ret (seqK_ret (blockK_ret (seqK_ret ?_)))))
     refine q_r (L' := L) (R' := R) (res2 rfl (rv_tmp (show _ = Value.int _ _ from rfl)) (rv_tmp (show _ = Value.int _ _ from rfl))) ?_
     refine ⟨-1, 0, rfl, partQ_none (by omega) ?_, rfl, rfl⟩
     rw [hpf]
     cases partF l.l n (i - 1) with
     | none => rfl
     | some z => obtain ⟨a, b⟩ := z; exact if_neg (by omega)
    refine qbv ?_
    refine qbm ?_
    refine qaa ?_
    refine qa9 ?_
    refine ybmaa ?_
    rintro v L' R' ⟨m, r, rfl, hP, rfl, rfl⟩
    have hPb := hP.bnd
    have hmb : -1 ≤ m ∧ m ≤ i - 1 := by
      cases hq : partF l.l n (i - 1) with
      | none => rw [hP.no hq]; omega
      | some z =>
        obtain ⟨a, b⟩ := z
        have := (hP.yes _ _ hq).1
        have := (partF_ok _ _ _ _ hq).1
        omega
    refine LJ_q (yv_move rfl) rfl ?_
    refine qbs ?_
    refine qbs ?_
    refine qad ?_
    refine qad ?_
    refine qaw ?_
    refine qaa ?_
    refine qaj ?_
    refine qah ?_
    apply LJ_or (G := [_, _, _, _, _]) (j := 2) (cj := 97) rfl rfl (by rfl) rfl (show _ = Value.bool _ from rfl) rfl
    ·
     intro hg3
     replace hg3 := qb hg3
     refine qab ?_
     refine qac ?_
     refine qaa ?_
     refine qa9 ?_
     refine qbq ?_
     exact qai
    intro junk3
    refine qaf ?_
    refine q_c (fun hc8 => ?_) (fun hc8 => ?_)
    ·
     refine qae ?_
     refine qad ?_
     refine qad ?_
     refine LJ_nil (seqK_normal (CJ_ret (seqK_ret (blockK_ret (seqK_ret ?_)))))
     refine q_r (L' := L) (R' := R) (res2 rfl (rv_tmp (show _ = Value.int _ _ from rfl)) (rv_tmp (show _ = Value.int _ _ from rfl))) ?_
     refine ⟨-1, 0, rfl, partQ_none (by omega) ?_, rfl, rfl⟩
     rw [hpf]
     cases hq : partF l.l n (i - 1) with
     | none => rfl
     | some z =>
       obtain ⟨a, b⟩ := z
       obtain ⟨rfl, rfl⟩ := hP.yes _ _ hq
       dsimp only
       split
       · rw [partF_neg (by omega)]
       · rfl
    have hq : partF l.l n (i - 1) = some (m, r) := by
      cases hq : partF l.l n (i - 1) with
      | none => have := hP.no hq; omega
      | some z =>
        obtain ⟨a, b⟩ := z
        obtain ⟨rfl, rfl⟩ := hP.yes _ _ hq
        rfl
    rw [hq] at hpf
    dsimp only at hpf
    rw [if_pos (by omega)] at hpf
    refine qbv ?_
    refine qbm ?_
    refine qaa ?_
    refine qa9 ?_
    refine LJ_call rfl (ih (m - 1) _ (by omega) (by omega) (by omega)) rfl ?_
    rintro v L' R' ⟨f, q, rfl, hP2, rfl, rfl⟩
    have hPb2 := hP2.bnd
    refine LJ_q (yv_move rfl) rfl ?_
    refine qbs ?_
    refine qbs ?_
    refine qad ?_
    refine qad ?_
    refine qam ?_
    iterate 3 refine qaa ?_
    refine LJ_q (yv_max2 rfl rfl) rfl ?_
    refine qar ?_
    refine qad ?_
    refine qad ?_
    refine qdb ?_
    refine q_r (L' := L) (R' := R) (res2 rfl (rv_tmp (show _ = Value.int _ _ from rfl)) (rv_tmp (show _ = Value.int _ _ from rfl))) ?_
    refine ⟨f, max q r + 1, rfl, ?_, rfl, rfl⟩
    cases hq2 : partF l.l n (m - 1) with
    | none => rw [hP2.no hq2]; exact partQ_none (by omega) (by rw [hpf, hq2])
    | some z =>
      obtain ⟨a, b⟩ := z
      obtain ⟨rfl, rfl⟩ := hP2.yes _ _ hq2
      exact partQ_some (by rw [hpf, hq2])
   refine CJ_skip (blockK_normal (seqK_normal (CJ_seq (CJ_region ?_))))
   refine qad ?_
   refine qad ?_
   refine qa0 ?_
   refine q_r (L' := L) (R' := R) (res2 rfl (rv_tmp (show _ = Value.int _ _ from rfl)) (rv_tmp (show _ = Value.int _ _ from rfl))) ?_
   exact ybmab
  refine qay ?_
  refine qbn ?_
  refine qaz ?_
  refine qaf ?_
  refine q_c (fun hc6 => ?_) (fun hc6 => ?_)
  ·
   have hpf := partF_k3 (n := n) h0 hx hc1 hc3 (by first | exact .inl hc5 | exact .inr hc6)
   refine qbi ?_
   refine qab ?_
   refine qac ?_
   refine qbq ?_
   refine qah ?_
   apply LJ_or (G := [_, _, _, _, _]) (j := 3) (cj := 81) rfl rfl (by rfl) rfl (show _ = Value.bool _ from rfl) rfl
   ·
    intro hg4
    replace hg4 := qb hg4
    refine qab ?_
    refine qac ?_
    refine qaa ?_
    refine qa9 ?_
    refine qbq ?_
    exact qai
   intro junk4
   refine qaf ?_
   refine q_c (fun hc7 => ?_) (fun hc7 => ?_)
   ·
    refine qae ?_
    refine qad ?_
    refine qad ?_
    refine LJ_nil (seqK_normal (CJ_ret (seqK_ret (blockK_ret (seqK_ret ?_)))))
    refine q_r (L' := L) (R' := R) (res2 rfl (rv_tmp (show _ = Value.int _ _ from rfl)) (rv_tmp (show _ = Value.int _ _ from rfl))) ?_
    refine ⟨-1, 0, rfl, partQ_none (by omega) ?_, rfl, rfl⟩
    rw [hpf]
    cases partF l.l n (i - 1) with
    | none => rfl
    | some z => obtain ⟨a, b⟩ := z; exact if_neg (by omega)
   refine qbv ?_
   refine qbm ?_
   refine qaa ?_
   refine qa9 ?_
   refine ybmaa ?_
   rintro v L' R' ⟨m, r, rfl, hP, rfl, rfl⟩
   have hPb := hP.bnd
   have hmb : -1 ≤ m ∧ m ≤ i - 1 := by
     cases hq : partF l.l n (i - 1) with
     | none => rw [hP.no hq]; omega
     | some z =>
       obtain ⟨a, b⟩ := z
       have := (hP.yes _ _ hq).1
       have := (partF_ok _ _ _ _ hq).1
       omega
   refine LJ_q (yv_move rfl) rfl ?_
   refine qbs ?_
   refine qbs ?_
   refine qad ?_
   refine qad ?_
   refine qaw ?_
   refine qaa ?_
   refine qaj ?_
   refine qah ?_
   apply LJ_or (G := [_, _, _, _, _]) (j := 2) (cj := 97) rfl rfl (by rfl) rfl (show _ = Value.bool _ from rfl) rfl
   ·
    intro hg3
    replace hg3 := qb hg3
    refine qab ?_
    refine qac ?_
    refine qaa ?_
    refine qa9 ?_
    refine qbq ?_
    exact qai
   intro junk3
   refine qaf ?_
   refine q_c (fun hc8 => ?_) (fun hc8 => ?_)
   ·
    refine qae ?_
    refine qad ?_
    refine qad ?_
    refine LJ_nil (seqK_normal (CJ_ret (seqK_ret (blockK_ret (seqK_ret ?_)))))
    refine q_r (L' := L) (R' := R) (res2 rfl (rv_tmp (show _ = Value.int _ _ from rfl)) (rv_tmp (show _ = Value.int _ _ from rfl))) ?_
    refine ⟨-1, 0, rfl, partQ_none (by omega) ?_, rfl, rfl⟩
    rw [hpf]
    cases hq : partF l.l n (i - 1) with
    | none => rfl
    | some z =>
      obtain ⟨a, b⟩ := z
      obtain ⟨rfl, rfl⟩ := hP.yes _ _ hq
      dsimp only
      split
      · rw [partF_neg (by omega)]
      · rfl
   have hq : partF l.l n (i - 1) = some (m, r) := by
     cases hq : partF l.l n (i - 1) with
     | none => have := hP.no hq; omega
     | some z =>
       obtain ⟨a, b⟩ := z
       obtain ⟨rfl, rfl⟩ := hP.yes _ _ hq
       rfl
   rw [hq] at hpf
   dsimp only at hpf
   rw [if_pos (by omega)] at hpf
   refine qbv ?_
   refine qbm ?_
   refine qaa ?_
   refine qa9 ?_
   refine LJ_call rfl (ih (m - 1) _ (by omega) (by omega) (by omega)) rfl ?_
   rintro v L' R' ⟨f, q, rfl, hP2, rfl, rfl⟩
   have hPb2 := hP2.bnd
   refine LJ_q (yv_move rfl) rfl ?_
   refine qbs ?_
   refine qbs ?_
   refine qad ?_
   refine qad ?_
   refine qam ?_
   iterate 3 refine qaa ?_
   refine LJ_q (yv_max2 rfl rfl) rfl ?_
   refine qar ?_
   refine qad ?_
   refine qad ?_
   refine qdb ?_
   refine q_r (L' := L) (R' := R) (res2 rfl (rv_tmp (show _ = Value.int _ _ from rfl)) (rv_tmp (show _ = Value.int _ _ from rfl))) ?_
   refine ⟨f, max q r + 1, rfl, ?_, rfl, rfl⟩
   cases hq2 : partF l.l n (m - 1) with
   | none => rw [hP2.no hq2]; exact partQ_none (by omega) (by rw [hpf, hq2])
   | some z =>
     obtain ⟨a, b⟩ := z
     obtain ⟨rfl, rfl⟩ := hP2.yes _ _ hq2
     exact partQ_some (by rw [hpf, hq2])
  refine CJ_skip (blockK_normal (seqK_normal (CJ_seq (CJ_region ?_))))
  refine qad ?_
  refine qad ?_
  refine qa0 ?_
  refine q_r (L' := L) (R' := R) (res2 rfl (rv_tmp (show _ = Value.int _ _ from rfl)) (rv_tmp (show _ = Value.int _ _ from rfl))) ?_
  exact ybmab
theorem refPart_tri (l : Arr XNode) (R : List Sl) (hl : InR (ndsl l) R) : ∀ (n : Nat), n ≤ 64 → ∀ (i : Int) (L : List Blk), i < n → i < l.l.length → -1 ≤ i →
    Tri Try.prog 137 [l.val, .int .i64 i].toArray L R (fun v L' R' => ∃ f d : Int, v = .tuple #[.int .i64 f, .int .i64 d] ∧ PartQ l.l n i f d ∧ L = L' ∧ R = R')
  | 0, _, i, L, hi, _, _ => refPart_neg l 0 i L R (by omega)
  | n + 1, hn, i, L, hi, hil, hi1 => refPart_step l n R hl (by omega) (fun i L h1 h2 h3 => refPart_tri l R hl n (by omega) i L h1 h2 h3) i L hi hil hi1
theorem refRightL_tri (l : Arr XNode) (L : List Blk) (R : List Sl) (hl : InR (ndsl l) R) :
    Tri Try.prog 127 [l.val].toArray L R (fun v L' R' => v = .bool (rightR l.l) ∧ L = L' ∧ R = R') := by
  refine tri_enter 27 Try.call127 Try.func127 rfl rfl rfl ?_
  refine qae ?_
  refine qaz ?_
  refine qaw ?_
  refine qbm ?_
  refine qag ?_
  refine qaj ?_
  refine qah ?_
  apply LJ_or (G := [_, _, _]) (j := 3) (cj := 8) rfl rfl (by rfl) rfl (show _ = Value.bool _ from rfl) rfl
  ·
   intro hg4
   replace hg4 := qb hg4
   refine qbm ?_
   refine qag ?_
   refine qa5 ?_
   exact qai
  intro junk4
  refine qaf ?_
  refine q_c (fun hc0 => ?_) (fun hc0 => ?_)
  ·
   refine qae ?_
   refine qaz ?_
   refine qbh ?_
   refine q_b (L' := L) (R' := R) ?_
   exact ⟨by rw [rightR, decide_eq_false (by omega)]; rfl, rfl, rfl⟩
  refine qbv ?_
  refine qbm ?_
  refine qbm ?_
  refine qag ?_
  refine qa9 ?_
  refine LJ_call rfl (refPart_tri l _ hl l.l.length (by omega) _ _ (by omega) (by omega) (by omega)) rfl ?_
  rintro v L' R' ⟨f, d, rfl, hP, rfl, rfl⟩
  refine LJ_q (yv_move rfl) rfl ?_
  refine qbs ?_
  refine qbs ?_
  refine qad ?_
  refine qad ?_
  refine qam ?_
  refine qaa ?_
  refine qbn ?_
  refine qah ?_
  apply LJ_and (G := [_, _]) (j := 2) (cj := 23) rfl rfl (by rfl) rfl (show _ = Value.bool _ from rfl) rfl
  ·
   intro hg3
   replace hg3 := qb hg3
   refine qaa ?_
   refine qbx ?_
   exact qai
  intro junk3
  refine qaz ?_
  refine qa0 ?_
  refine q_b (L' := L) (R' := R) ?_
  refine ⟨?_, rfl, rfl⟩
  rw [rightR, show decide (1 ≤ l.l.length ∧ l.l.length ≤ 64) = true from decide_eq_true (by omega)]
  refine congrArg Value.bool ?_
  cases hq : partF l.l l.l.length ((l.l.length : Int) - 1) with
  | none => rw [hP.no hq]; rfl
  | some z =>
    obtain ⟨a, b⟩ := z
    obtain ⟨rfl, rfl⟩ := hP.yes _ _ hq
    rw [Bool.eq_iff_iff]
    simp
theorem refRuleCheck_tri (l : Arr XNode) (n : Nat) (L : List Blk) (R : List Sl) (hl : InR (ndsl l) R) :
    Tri Try.prog 101 [l.val, .int .i64 (n : Int)].toArray L R (fun v L' R' => v = .int .i64 (ruleErr l.l n) ∧ L = L' ∧ R = R') := by
  refine tri_enter 30 Try.call101 Try.func101 rfl rfl rfl ?_
  refine qae ?_
  refine qad ?_
  refine qaw ?_
  refine qbm ?_
  refine q_l rfl (refRightL_tri l _ _ hl) ?_
  refine qb4 ?_
  refine qaf ?_
  refine q_c (fun hc0 => ?_) (fun hc0 => ?_)
  ·
   refine qae ?_
   refine qad ?_
   refine qbh ?_
   refine q_i (L' := L) (R' := R) ?_
   exact ⟨by rw [ruleErr, if_pos (by simpa using hc0)], rfl, rfl⟩
  have hr : rightR l.l = true := by simpa using hc0
  have hln := (rightR_iff.1 hr).1
  refine qbo ?_
  refine qad ?_
  refine qa2 ?_
  refine CJ_forget [(0, Value.slice _ _ _), (1, Value.int _ _), (5, Value.int _ _)] (by repeat' (first | exact trivial | refine And.intro rfl ?_)) fun tq0 => ?_
  refine q_s [4, 5, 9, 10, 11, 12, 13, 14, 15, 16, 17, 18, 19, 20, 21, 22, 23, 24, 25, 26, 27, 28, 29] (fun g : {k : Nat // k ≤ l.l.length ∧ ∀ j : Nat, j < k → ¬ ((l.l.getD j default).kind = 1 ∧ (n : Int) ≤ (l.l.getD j default).cond)} => [(5, .int .i64 ((g.1 : Nat) : Int))]) (fun g => l.l.length - g.1) (⟨0, by omega, fun j hj => by omega⟩) ?_
  rintro ⟨k, hk, hal⟩ junk
  try dsimp only
  refine qbi ?_
  refine qaa ?_
  refine qbm ?_
  refine qag ?_
  refine qaj ?_
  refine qaf ?_
  refine q_c (fun hc1 => ?_) (fun hc1 => ?_)
  ·
   have h1 := get_D (l := l.l) (k := k) default (by omega)
   refine qbb ?_
   refine qbm ?_
   refine qaa ?_
   refine ybmac ?_
   refine qb0 ?_
   refine qa7 ?_
   refine qbn ?_
   refine qah ?_
   apply LJ_and (G := [_, _, _, _, _, _, _]) (j := 6) (cj := 21) rfl rfl (by rfl) rfl (show _ = Value.bool _ from rfl) rfl
   ·
    intro hg7
    replace hg7 := qb hg7
    refine qbm ?_
    refine qaa ?_
    refine ybmac ?_
    refine qb0 ?_
    refine qa7 ?_
    refine qaa ?_
    refine qbz ?_
    exact qai
   intro junk7
   refine qaf ?_
   refine q_c (fun hc2 => ?_) (fun hc2 => ?_)
   ·
    refine qae ?_
    refine qad ?_
    refine qbt ?_
    refine q_i (L' := L) (R' := R) ?_
    exact ⟨by rw [ruleErr_of hr k (by omega) hc2.1 hc2.2], rfl, rfl⟩
   refine qbj ?_
   refine qaa ?_
   refine qar ?_
   refine qad ?_
   refine qav ?_
   exact loopK_mk (⟨k + 1, by omega, fun j hj => by
   rcases Nat.lt_or_ge j k with h | h
   · exact hal j h
   · obtain rfl : j = k := by omega
     omega⟩) (by repeat (first | exact Off.refl | apply Off.upd rfl | apply Off.havoc rfl | apply Off.updL rfl | apply Off.left rfl)) (by repeat' (first | exact trivial | refine And.intro rfl ?_)) (by repeat (first | exact zs0 _ | exact zs1 _ | apply zs2 | apply zs3 | apply zs4 | apply zs5)) (allR_self _) (by dsimp only; omega)
  refine qbk ?_
  refine qad ?_
  refine qa0 ?_
  refine q_i (L' := L) (R' := R) ?_
  exact ⟨by rw [ruleErr_none hr (fun j hj => hal j (by omega))], rfl, rfl⟩
end Go.Proofs.Ytkpfjmibipblhaa
