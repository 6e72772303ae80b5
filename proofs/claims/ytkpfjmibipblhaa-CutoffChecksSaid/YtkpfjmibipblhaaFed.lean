/-
  Faces and their air: airflow.Fed and the reference's. By an AI agent; no person has read it.
-/
import Derived.Test.YtkpfjmibipblhaaSpans
set_option linter.unusedSimpArgs false
set_option linter.unusedVariables false
namespace Go.Proofs.Ytkpfjmibipblhaa
open Go.Aw Go
set_option maxRecDepth 20000
attribute [local irreducible] CJ LJ DJ Tri YV Gives seqK blockK loopK retK RV mergeK OwL.L

section
variable {A9 B9 : Prop}
theorem ya7aa (a : A9) (h : A9 → B9 := by exact LJ_g (gives_append1 (f := icell) (a := _) tb rfl rfl rfl rfl (w2) (by repeat (first | apply OSeg.cons | exact OSeg.here | exact OSeg.last | exact OSeg.at (by assumption) | apply OSeg.app)) (shown_own (by repeat (first | exact zi0 | apply zi1 | apply zi2)) rfl rfl) rfl (by first | omega | (simp only [List.length_cons, List.length_nil, List.length_append]; omega))) rfl) : B9 := h a
theorem ya7ab (a : A9) (h : A9 → B9 := by exact DJ_q (yv_move (show _ = Value.slice _ _ _ from rfl)) rfl rfl rfl) : B9 := h a
theorem ya7ac (a : A9) (h : A9 → B9 := by exact LJ_q (by first | exact yv_index_ro tb rfl rfl rfl rfl (by first | assumption | exact zr (by simp)) (i := k) (by first | rfl | omega | (simp; omega)) (by omega) | exact yv_index tb rfl rfl rfl rfl (i := k) (by first | rfl | omega | (simp; omega)) (by omega)) rfl) : B9 := h a
theorem ya7ad (a : A9) (h : A9 → B9 := by exact DJ_q (by first | exact yv_index_ro tb rfl rfl rfl rfl (by first | assumption | exact zr (by simp)) (i := f.road.toNat) (by first | rfl | omega | (simp; omega)) (by omega) | exact yv_index tb rfl rfl rfl rfl (i := f.road.toNat) (by first | rfl | omega | (simp; omega)) (by omega)) rfl rfl rfl) : B9 := h a
end
structure XFace where
  road : Int
  need : Int
  deriving Inhabited
def XFace.cells (s : XFace) : List Value := [.int .i64 s.road, .int .i64 s.need]
abbrev fcsl (x : Arr XFace) : Sl := x.sl 2 XFace.cells []

structure WrTo {α : Type} (n : Nat) (z : α) (g : Nat → α) (i : Nat) (l : List α) : Prop where
  len : l.length = n
  don : ∀ j : Nat, j < i → l[j]? = some (g j)
  non : ∀ j : Nat, i ≤ j → j < n → l[j]? = some z
theorem WrTo.zero {α : Type} {n : Nat} {z : α} {g : Nat → α} : WrTo n z g 0 (List.replicate n z) := ⟨by simp, fun j hj => by omega, fun j _ hj => by rw [List.getElem?_replicate, if_pos hj]⟩
theorem WrTo.next {α : Type} {n : Nat} {z : α} {g : Nat → α} {i : Nat} {l : List α} (h : WrTo n z g i l) (hi : i < n) {x : α} (hx : x = g i) : WrTo n z g (i + 1) (l.set i x) := by
  have hl := h.len
  refine ⟨by simp [hl], fun j hj => ?_, fun j h1 h2 => ?_⟩
  · rw [List.getElem?_set]
    split
    · rename_i e; rw [if_pos (by omega), hx, e]
    · exact h.don j (by omega)
  · rw [List.getElem?_set_ne (by omega)]
    exact h.non j (by omega) h2
theorem WrTo.stay {α : Type} {n : Nat} {z : α} {g : Nat → α} {i : Nat} {l : List α} (h : WrTo n z g i l) (hi : i < n) (hx : z = g i) : WrTo n z g (i + 1) l := by
  refine ⟨h.len, fun j hj => ?_, fun j h1 h2 => h.non j (by omega) h2⟩
  rcases Nat.lt_or_ge j i with h1 | h1
  · exact h.don j h1
  · obtain rfl : j = i := by omega
    rw [h.non j (Nat.le_refl _) hi, hx]
theorem WrTo.done {α : Type} {n : Nat} {z : α} {g : Nat → α} {l : List α} (h : WrTo n z g n l) : l = (List.range n).map g := by
  have hl := h.len
  refine List.ext_getElem? fun j => ?_
  rcases Nat.lt_or_ge j n with hj | hj
  · rw [h.don j hj, List.getElem?_map, List.getElem?_range hj]; rfl
  · rw [List.getElem?_eq_none (by omega), List.getElem?_eq_none (by simp; omega)]

def fedS (x : XSpan) (need : Int) : Int :=
  if x.high < x.low then 0 else if (need ≤ 0 ∨ need ≤ x.low) ∨ x.high ≤ -need then 1 else if -need < x.low ∧ x.high < need then -1 else 0
def fedAt (fl : List XSpan) (f : XFace) : Int := if 0 ≤ f.road ∧ f.road < fl.length then fedS (fl.getD f.road.toNat default) f.need else 0
def fedL (fl : List XSpan) (fc : List XFace) : List Int := (List.range fc.length).map fun k => fedAt fl (fc.getD k default)
def FacesOk (fc : List XFace) : Prop := ∀ f ∈ fc, -4611686018427387904 ≤ f.need ∧ f.need ≤ 4611686018427387904

theorem fed_tri (x : XSpan) (need : Int) (L : List Blk) (R : List Sl) (hn : -4611686018427387904 ≤ need ∧ need ≤ 4611686018427387904) :
    Tri Try.prog 107 [x.val, .int .i64 need].toArray L R (fun v L' R' => v = .int .i64 (fedS x need) ∧ L = L' ∧ R = R') := by
  refine tri_enter 39 Try.call107 Try.func107 rfl rfl rfl ?_
  refine qae ?_
  refine qax ?_
  intro b2
  refine qad ?_
  refine LJ_nil (seqK_normal (CJ_seq (CJ_block (CJ_seq (CJ_region ?_)))))
  refine qab ?_
  refine qac ?_
  refine qab ?_
  refine qac ?_
  refine qa5 ?_
  refine qaz ?_
  refine qaf ?_
  refine q_c (fun hc0 => ?_) (fun hc0 => ?_)
  ·
   refine qae ?_
   refine qad ?_
   refine qdb ?_
   refine q_i (L' := L) (R' := R) ?_
   exact ⟨by rw [fedS, if_pos hc0], rfl, rfl⟩
  refine qae ?_
  refine qaa ?_
  refine qbx ?_
  refine qah ?_
  apply LJ_or (G := [_, _, _, _]) (j := 2) (cj := 14) rfl rfl (by rfl) rfl (show _ = Value.bool _ from rfl) rfl
  ·
   intro hg3
   replace hg3 := qb hg3
   refine qab ?_
   refine qac ?_
   refine qaa ?_
   refine qbz ?_
   exact qai
  intro junk3
  refine qah ?_
  apply LJ_or (G := [_, _, _, _, _]) (j := 8) (cj := 20) rfl rfl (by rfl) rfl (show _ = Value.bool _ from rfl) rfl
  ·
   intro hg9
   replace hg9 := qb hg9
   refine qab ?_
   refine qac ?_
   refine qaa ?_
   refine qcq ?_
   refine qbx ?_
   exact qai
  intro junk9
  refine qaz ?_
  refine qaf ?_
  refine q_c (fun hc1 => ?_) (fun hc1 => ?_)
  ·
   refine qae ?_
   refine qad ?_
   refine qdb ?_
   refine q_i (L' := L) (R' := R) ?_
   exact ⟨by rw [fedS, if_neg (by omega), if_pos (by omega)], rfl, rfl⟩
  refine qae ?_
  refine qab ?_
  refine qac ?_
  refine qaa ?_
  refine qcq ?_
  refine qa5 ?_
  refine qah ?_
  apply LJ_and (G := [_, _, _, _]) (j := 5) (cj := 33) rfl rfl (by rfl) rfl (show _ = Value.bool _ from rfl) rfl
  ·
   intro hg6
   replace hg6 := qb hg6
   refine qab ?_
   refine qac ?_
   refine qaa ?_
   refine qaj ?_
   exact qai
  intro junk6
  refine qaz ?_
  refine qaf ?_
  refine q_c (fun hc2 => ?_) (fun hc2 => ?_)
  ·
   refine qae ?_
   refine qad ?_
   refine qdb ?_
   refine q_i (L' := L) (R' := R) ?_
   exact ⟨by rw [fedS, if_neg (by omega), if_neg (by omega), if_pos (by omega)], rfl, rfl⟩
  refine CJ_skip (blockK_normal (seqK_normal (CJ_seq (CJ_region ?_))))
  refine qad ?_
  refine qa0 ?_
  refine q_i (L' := L) (R' := R) ?_
  exact ⟨by rw [fedS, if_neg (by omega), if_neg (by omega), if_neg (by omega)], rfl, rfl⟩

theorem fedL_tri (fl : Arr XSpan) (fc : Arr XFace) (L : List Blk) (R : List Sl) (hfl : InR (spsl fl) R) (hfc : InR (fcsl fc) R) (hn : FacesOk fc.l) (hlen : fc.l.length ≤ 1000) (hflen : fl.l.length ≤ 1000) :
    Tri Try.prog 72 [fl.val, fc.val].toArray L R (fun w L' R' => ∃ p : OwL Int, w = p.val ∧ p.ok 1 icell ∧ p.l = fedL fl.l fc.l ∧ p.L 3 icell ++ L = L' ∧ R = R') := by
  refine tri_enter 41 Try.call72 Try.func72 rfl rfl rfl ?_
  refine qae ?_
  refine qc4 ?_
  refine qam ?_
  refine qbm ?_
  refine qag ?_
  refine qc7 ?_
  rintro v L' R' ⟨b10, rfl, rfl, hR10⟩
  replace hR10 := hR10.symm; subst hR10
  refine qc4 ?_
  refine qco ?_
  refine CJ_L (made_ow (f := icell) (x := 0) rfl _) ?_
  refine qay ?_
  refine qbm ?_
  refine qag ?_
  refine qaa ?_
  refine qa2 ?_
  refine CJ_forget [(0, Value.slice _ _ _), (5, Value.slice _ _ _), (11, Value.slice _ _ _), (12, Value.int _ _), (13, Value.int _ _)] (by repeat' (first | exact trivial | refine And.intro rfl ?_)) fun tq0 => ?_
  refine q_p [6, 7, 13, 14, 15, 16, 17, 18, 19, 20, 21, 22, 23, 24, 25, 26, 27, 28, 29, 30, 31, 32, 33, 34, 35, 36, 37, 38, 39] ((⟨fun g => [(13, .int .i64 ((g.1.1 : Nat) : Int))], fun g => (⟨.own b10 fc.l.length [], g.1.2⟩ : OwL Int).L 3 icell ++ L, fun _ => R, fun g => fc.l.length - g.1.1⟩ : Head {g : Nat × List Int // g.1 ≤ fc.l.length ∧ WrTo fc.l.length 0 (fun k => fedAt fl.l (fc.l.getD k default)) g.1 g.2})) (⟨(0, List.replicate fc.l.length 0), by dsimp only; omega, .zero⟩) ?_
  rintro ⟨⟨k, l⟩, w1, w2⟩ junk
  try dsimp only
  dsimp only at w1 w2
  have hll := w2.len
  have hkq : (⟨.own b10 fc.l.length [], l⟩ : OwL Int).ok 1 icell := by have := made_ok (f := icell) (wd := 1) (b := b10) (n := fc.l.length) (x := 0) icell_len (by simp only [maxLen]; omega); exact OwL.len_ok icell_len this (by simp; exact hll)
  refine qae ?_
  refine qaj ?_
  refine qa4 ?_
  refine q_c (fun hc0 => ?_) (fun hc0 => ?_)
  ·
   have hfg := get_D (l := fc.l) (k := k) default (by omega)
   have hlg := w2.non k (Nat.le_refl _) (by omega)
   have hnd := hn _ (List.mem_of_getElem? hfg)
   obtain ⟨f, hf⟩ : ∃ f, f = fc.l.getD k default := ⟨_, rfl⟩
   rw [← hf] at hfg hnd
   refine qbb ?_
   refine qaa ?_
   refine ya7ac ?_
   refine qdl ?_
   refine qaq ?_
   intro b7
   refine qad ?_
   refine qak ?_
   refine qam ?_
   refine qab ?_
   refine qac ?_
   refine qbz ?_
   refine qah ?_
   apply LJ_and (G := [_, _, _, _, _]) (j := 3) (cj := 21) rfl rfl (by rfl) rfl (show _ = Value.bool _ from rfl) rfl
   ·
    intro hg4
    replace hg4 := qb hg4
    refine qab ?_
    refine qac ?_
    refine qbm ?_
    refine qag ?_
    refine qaj ?_
    exact qai
   intro junk4
   refine qaf ?_
   refine q_c (fun hc1 => ?_) (fun hc1 => ?_)
   ·
    have hsg := get_D (l := fl.l) (k := f.road.toNat) default (by omega)
    have hfv : fedS (fl.l.getD f.road.toNat default) f.need = (fun k => fedAt fl.l (fc.l.getD k default)) k := by dsimp only; rw [← hf, fedAt, if_pos (by omega)]
    refine CJ_drawn2 tb [] [0, 1, 2, 3, 4, 5, 6, 7, 8, 9, 10] [11] ([Blk.mk b7 _ _]) _ mixed (by kernel_rfl) (by repeat (first | exact zs0 _ | exact zs1 _ | apply zs2 | apply zs3 | apply zs4 | apply zs5)) (List.nil_sublist _) ?_
    refine qct ?_
    refine qbf ?_
    refine qct ?_
    refine qan ?_
    refine qau ?_
    refine DJ3_q (by first | exact yv_index_ro tb rfl rfl rfl rfl (by first | assumption | exact zr (by simp)) (i := f.road.toNat) (by first | rfl | omega | (simp; omega)) (by omega) | exact yv_index tb rfl rfl rfl rfl (i := f.road.toNat) (by first | rfl | omega | (simp; omega)) (by omega)) rfl rfl rfl rfl ?_
    refine qd1 ?_
    refine qan ?_
    refine qau ?_
    refine DJ3_call rfl (fed_tri (fl.l.getD f.road.toNat default) f.need _ _ hnd) rfl rfl ?_
    rintro v L' R' ⟨rfl, rfl, rfl⟩
    refine qas ?_
    refine DJ3_q (yv_index_ow tb ((⟨.own b10 fc.l.length [], l⟩ : OwL Int)) _ rfl rfl ((show _ = Value.slice _ _ _ from rfl).trans (own_val hll)) rfl (by assumption) (i := k) (by first | rfl | omega | (simp; omega)) (by first | omega | (dsimp only; omega) | (dsimp only; rw [List.length_set]; omega) | (dsimp only; simp only [List.length_set]; omega))) rfl rfl rfl rfl ?_
    refine qba ?_
    refine DJ_g0 (gives_store1_ow tb ((⟨.own b10 fc.l.length [], l⟩ : OwL Int)) (fedS (fl.l.getD f.road.toNat default) f.need) rfl rfl rfl rfl (by repeat (first | apply OSeg.cons | exact OSeg.here | exact OSeg.last | exact OSeg.at (by assumption) | apply OSeg.app)) (by assumption) (fun _ => rfl) (by assumption) (by decide) (by rfl) (by rfl)) rfl rfl ?_
    rintro v L' R' ⟨rfl, rfl⟩
    refine qa1 ?_
    refine qby ?_
    refine qar ?_
    refine qaa ?_
    refine qav ?_
    exact q_k ⟨(k + 1, l.set k (fedS (fl.l.getD f.road.toNat default) f.need)), by dsimp only; omega, w2.next (by omega) hfv⟩
   have hfv : (0 : Int) = (fun k => fedAt fl.l (fc.l.getD k default)) k := by dsimp only; rw [← hf, fedAt, if_neg (by omega)]
   refine qbj ?_
   refine qar ?_
   refine qaa ?_
   refine qav ?_
   exact q_k ⟨(k + 1, l), by dsimp only; omega, w2.stay (by omega) hfv⟩
  obtain rfl : k = fc.l.length := by omega
  refine qbk ?_
  refine qbm ?_
  refine qc4 ?_
  refine qa0 ?_
  refine q_r (L' := (⟨.own b10 fc.l.length [], l⟩ : OwL Int).L 3 icell ++ L) (R' := R) (res1 rfl (rv_tmp (show _ = Value.slice _ _ _ from rfl))) ?_
  exact ⟨(⟨.own b10 fc.l.length [], l⟩ : OwL Int), by simp only [OwL.val, Ow.addr, Ow.cap, hll], hkq, w2.done, rfl, rfl⟩

theorem refFedL_tri (fl : Arr XSpan) (fc : Arr XFace) (L : List Blk) (R : List Sl) (hfl : InR (spsl fl) R) (hfc : InR (fcsl fc) R) (hn : FacesOk fc.l) (hlen : fc.l.length ≤ 1000) (hflen : fl.l.length ≤ 1000) :
    Tri Try.prog 108 [fl.val, fc.val].toArray L R (fun w L' R' => ∃ p : OwL Int, w = p.val ∧ p.ok 1 icell ∧ p.l = fedL fl.l fc.l ∧ p.L 3 icell ++ L = L' ∧ R = R') := by
  refine tri_enter 86 Try.call108 Try.func108 rfl rfl rfl ?_
  refine qae ?_
  refine qc4 ?_
  refine qam ?_
  refine qc4 ?_
  refine qaw ?_
  refine qad ?_
  refine qa2 ?_
  refine CJ_forget [(0, Value.slice _ _ _), (1, Value.slice _ _ _), (5, Value.slice _ _ _), (6, Value.int _ _)] (by repeat' (first | exact trivial | refine And.intro rfl ?_)) fun tq0 => ?_
  refine CJ_loop [5, 6, 7, 8, 9, 10, 11, 12, 13, 14, 15, 16, 17, 18, 19, 20, 21, 22, 23, 24, 25, 26, 27, 28, 29, 30, 31, 32, 33, 34, 35, 36, 37, 38, 39, 40, 41, 42, 43, 44, 45, 46, 47, 48, 49, 50, 51, 52, 53, 54, 55, 56, 57, 58, 59, 60, 61, 62, 63, 64, 65, 66, 67, 68, 69, 70, 71, 72, 73, 74, 75, 76, 77, 78, 79, 80, 81, 82, 83, 84] ((⟨fun g => [(6, .int .i64 ((g.1.1 : Nat) : Int)), (5, g.1.2.val)], fun g => g.1.2.L 3 icell ++ L, fun _ => R, fun g => fc.l.length - g.1.1⟩ : Head {g : Nat × OwL Int // g.1 ≤ fc.l.length ∧ g.2.ok 1 icell ∧ g.2.l = (List.range g.1).map (fun k => fedAt fl.l (fc.l.getD k default))})) (⟨(0, OwL.nil), by dsimp only; omega, OwL.nil_ok, rfl⟩) (by repeat' (first | exact trivial | refine And.intro rfl ?_)) (by dsimp only; rw [nil_L, List.nil_append]; exact List.Sublist.refl _) (allR_self _) ?_
  rintro ⟨⟨k, q⟩, w1, w2, w3⟩ junk
  try dsimp only
  dsimp only at w1 w2 w3
  have hql : q.l.length = k := by rw [w3]; simp
  refine qbi ?_
  refine qaa ?_
  refine qbm ?_
  refine qag ?_
  refine qaj ?_
  refine qaf ?_
  refine q_c (fun hc0 => ?_) (fun hc0 => ?_)
  ·
   have hfg := get_D (l := fc.l) (k := k) default (by omega)
   have hnd := hn _ (List.mem_of_getElem? hfg)
   obtain ⟨f, hf⟩ : ∃ f, f = fc.l.getD k default := ⟨_, rfl⟩
   rw [← hf] at hfg hnd
   refine qbb ?_
   refine qbm ?_
   refine qaa ?_
   refine ya7ac ?_
   refine qdl ?_
   refine qaq ?_
   intro b7
   refine qak ?_
   refine qam ?_
   refine qad ?_
   refine qco ?_
   refine CJ_drawn tb [0, 1, 2, 3, 4, 5, 6, 7, 8, 9, 10, 11, 12, 13, 14, 15, 16, 17, 18, 19, 20, 21, 22, 23, 24] ([Blk.mk b7 _ _]) mixed (by kernel_rfl) (by repeat (first | exact zs0 _ | exact zs1 _ | apply zs2 | apply zs3 | apply zs4 | apply zs5)) ?_
   refine qal ?_
   refine qat ?_
   refine DJ_q (yv_geq rfl rfl) rfl rfl rfl ?_
   refine qb2 ?_
   refine DJ_case (k := 23) (show _ = Value.bool _ from rfl) (fun hg3 => ?_) (fun hg3 => ?_)
   ·
    replace hg3 := qb hg3
    refine qal ?_
    refine qat ?_
    refine ya7ab ?_
    refine DJ_q (yv_len tb rfl rfl rfl) rfl rfl rfl ?_
    refine DJ_q (yv_lss rfl rfl) rfl rfl rfl ?_
    refine qbp ?_
    refine qb2 ?_
    refine DJ_case (k := 30) (show _ = Value.bool _ from rfl) (fun hg10 => ?_) (fun hg10 => ?_)
    ·
     replace hg10 := qb hg10
     have hsg := get_D (l := fl.l) (k := f.road.toNat) default (by omega)
     refine ya7ab ?_
     refine qal ?_
     refine qat ?_
     refine ya7ad ?_
     refine qce ?_
     refine qbl ?_
     refine ya7ab ?_
     refine qal ?_
     refine qat ?_
     refine ya7ad ?_
     refine qce ?_
     refine qbl ?_
     refine DJ_q (yv_leq rfl rfl) rfl rfl rfl ?_
     refine qbp ?_
     refine qbu ?_
     refine q_c (fun hc1 => ?_) (fun hc1 => ?_)
     ·
      refine qae ?_
      refine qbm ?_
      refine qab ?_
      refine qac ?_
      refine LJ_q (by first | exact yv_index_ro tb rfl rfl rfl rfl (by first | assumption | exact zr (by simp)) (i := f.road.toNat) (by first | rfl | omega | (simp; omega)) (by omega) | exact yv_index tb rfl rfl rfl rfl (i := f.road.toNat) (by first | rfl | omega | (simp; omega)) (by omega)) rfl ?_
      refine qdl ?_
      refine qaq ?_
      intro b9
      refine qak ?_
      refine qam ?_
      refine qab ?_
      refine qac ?_
      refine qbx ?_
      refine qah ?_
      apply LJ_or (G := [_, _, _, _, _]) (j := 3) (cj := 53) rfl rfl (by rfl) rfl (show _ = Value.bool _ from rfl) rfl
      ·
       intro hg4
       replace hg4 := qb hg4
       refine qab ?_
       refine qac ?_
       refine qab ?_
       refine qac ?_
       refine qbz ?_
       exact qai
      intro junk4
      refine qah ?_
      apply LJ_or (G := [_, _, _, _, _, _]) (j := 10) (cj := 60) rfl rfl (by rfl) rfl (show _ = Value.bool _ from rfl) rfl
      ·
       intro hg11
       replace hg11 := qb hg11
       refine qab ?_
       refine qac ?_
       refine qab ?_
       refine qac ?_
       refine qcq ?_
       refine qbx ?_
       exact qai
      intro junk11
      refine qaf ?_
      refine q_c (fun hc2 => ?_) (fun hc2 => ?_)
      ·
       refine qay ?_
       refine qad ?_
       refine LJ_nil (seqK_normal (CJ_region ?_))
       refine qbm ?_
       refine qaa ?_
       refine qcx ?_
       rintro v L' R' ⟨b83, rfl, rfl, hR83⟩
       replace hR83 := hR83.symm; subst hR83
       refine ya7aa ?_
       rintro v L' R' ⟨o84, rfl, hok84, rfl, rfl⟩
       refine qc4 ?_
       refine qcs ?_
       refine qaa ?_
       refine qar ?_
       refine qad ?_
       refine qav ?_
       exact loopK_mk ⟨(k + 1, (⟨o84, _⟩ : OwL Int)), by dsimp only; omega, hok84, by
       dsimp only
       rw [List.range_succ, List.map_append, w3]
       refine congrArg (fun z => _ ++ [z]) ?_
       show _ = fedAt fl.l (fc.l.getD k default)
       rw [← hf]
       simp only [fedAt, fedS]
       repeat' split
       all_goals omega⟩ (by repeat (first | exact Off.refl | apply Off.upd rfl | apply Off.havoc rfl | apply Off.updL rfl | apply Off.left rfl)) (by repeat' (first | exact trivial | refine And.intro rfl ?_)) (by repeat (first | exact zs0 _ | exact zs1 _ | apply zs2 | apply zs3 | apply zs4 | apply zs5)) (allR_self _) (by dsimp only; omega)
      refine qae ?_
      refine qab ?_
      refine qac ?_
      refine qab ?_
      refine qac ?_
      refine qcq ?_
      refine qa5 ?_
      refine qah ?_
      apply LJ_and (G := [_, _, _, _, _]) (j := 6) (cj := 74) rfl rfl (by rfl) rfl (show _ = Value.bool _ from rfl) rfl
      ·
       intro hg7
       replace hg7 := qb hg7
       refine qab ?_
       refine qac ?_
       refine qab ?_
       refine qac ?_
       refine qaj ?_
       exact qai
      intro junk7
      refine qaf ?_
      refine q_c (fun hc3 => ?_) (fun hc3 => ?_)
      ·
       refine qay ?_
       refine qad ?_
       refine LJ_nil (seqK_normal (CJ_region ?_))
       refine qbm ?_
       refine qaa ?_
       refine qcx ?_
       rintro v L' R' ⟨b83, rfl, rfl, hR83⟩
       replace hR83 := hR83.symm; subst hR83
       refine ya7aa ?_
       rintro v L' R' ⟨o84, rfl, hok84, rfl, rfl⟩
       refine qc4 ?_
       refine qcs ?_
       refine qaa ?_
       refine qar ?_
       refine qad ?_
       refine qav ?_
       exact loopK_mk ⟨(k + 1, (⟨o84, _⟩ : OwL Int)), by dsimp only; omega, hok84, by
       dsimp only
       rw [List.range_succ, List.map_append, w3]
       refine congrArg (fun z => _ ++ [z]) ?_
       show _ = fedAt fl.l (fc.l.getD k default)
       rw [← hf]
       simp only [fedAt, fedS]
       repeat' split
       all_goals omega⟩ (by repeat (first | exact Off.refl | apply Off.upd rfl | apply Off.havoc rfl | apply Off.updL rfl | apply Off.left rfl)) (by repeat' (first | exact trivial | refine And.intro rfl ?_)) (by repeat (first | exact zs0 _ | exact zs1 _ | apply zs2 | apply zs3 | apply zs4 | apply zs5)) (allR_self _) (by dsimp only; omega)
      refine CJ_skip (seqK_normal (CJ_region ?_))
      refine qbm ?_
      refine qaa ?_
      refine qcx ?_
      rintro v L' R' ⟨b83, rfl, rfl, hR83⟩
      replace hR83 := hR83.symm; subst hR83
      refine ya7aa ?_
      rintro v L' R' ⟨o84, rfl, hok84, rfl, rfl⟩
      refine qc4 ?_
      refine qcs ?_
      refine qaa ?_
      refine qar ?_
      refine qad ?_
      refine qav ?_
      exact loopK_mk ⟨(k + 1, (⟨o84, _⟩ : OwL Int)), by dsimp only; omega, hok84, by
      dsimp only
      rw [List.range_succ, List.map_append, w3]
      refine congrArg (fun z => _ ++ [z]) ?_
      show _ = fedAt fl.l (fc.l.getD k default)
      rw [← hf]
      simp only [fedAt, fedS]
      repeat' split
      all_goals omega⟩ (by repeat (first | exact Off.refl | apply Off.upd rfl | apply Off.havoc rfl | apply Off.updL rfl | apply Off.left rfl)) (by repeat' (first | exact trivial | refine And.intro rfl ?_)) (by repeat (first | exact zs0 _ | exact zs1 _ | apply zs2 | apply zs3 | apply zs4 | apply zs5)) (allR_self _) (by dsimp only; omega)
     refine CJ_skip (seqK_normal (CJ_region ?_))
     refine qbm ?_
     refine qaa ?_
     refine qcx ?_
     rintro v L' R' ⟨b83, rfl, rfl, hR83⟩
     replace hR83 := hR83.symm; subst hR83
     refine ya7aa ?_
     rintro v L' R' ⟨o84, rfl, hok84, rfl, rfl⟩
     refine qc4 ?_
     refine qcs ?_
     refine qaa ?_
     refine qar ?_
     refine qad ?_
     refine qav ?_
     exact loopK_mk ⟨(k + 1, (⟨o84, _⟩ : OwL Int)), by dsimp only; omega, hok84, by
     dsimp only
     rw [List.range_succ, List.map_append, w3]
     refine congrArg (fun z => _ ++ [z]) ?_
     show _ = fedAt fl.l (fc.l.getD k default)
     rw [← hf]
     simp only [fedAt, fedS]
     repeat' split
     all_goals omega⟩ (by repeat (first | exact Off.refl | apply Off.upd rfl | apply Off.havoc rfl | apply Off.updL rfl | apply Off.left rfl)) (by repeat' (first | exact trivial | refine And.intro rfl ?_)) (by repeat (first | exact zs0 _ | exact zs1 _ | apply zs2 | apply zs3 | apply zs4 | apply zs5)) (allR_self _) (by dsimp only; omega)
    replace hg10 := qb hg10
    iterate 13 refine qap ?_
    refine qbp ?_
    refine qbu ?_
    refine CJ_cond_false rfl ?_
    refine CJ_skip (seqK_normal (CJ_region ?_))
    refine qbm ?_
    refine qaa ?_
    refine qcx ?_
    rintro v L' R' ⟨b83, rfl, rfl, hR83⟩
    replace hR83 := hR83.symm; subst hR83
    refine ya7aa ?_
    rintro v L' R' ⟨o84, rfl, hok84, rfl, rfl⟩
    refine qc4 ?_
    refine qcs ?_
    refine qaa ?_
    refine qar ?_
    refine qad ?_
    refine qav ?_
    exact loopK_mk ⟨(k + 1, (⟨o84, _⟩ : OwL Int)), by dsimp only; omega, hok84, by
    dsimp only
    rw [List.range_succ, List.map_append, w3]
    refine congrArg (fun z => _ ++ [z]) ?_
    show _ = fedAt fl.l (fc.l.getD k default)
    rw [← hf]
    simp only [fedAt, fedS]
    repeat' split
    all_goals omega⟩ (by repeat (first | exact Off.refl | apply Off.upd rfl | apply Off.havoc rfl | apply Off.updL rfl | apply Off.left rfl)) (by repeat' (first | exact trivial | refine And.intro rfl ?_)) (by repeat (first | exact zs0 _ | exact zs1 _ | apply zs2 | apply zs3 | apply zs4 | apply zs5)) (allR_self _) (by dsimp only; omega)
   replace hg3 := qb hg3
   iterate 5 refine qap ?_
   refine qbp ?_
   refine qb2 ?_
   iterate 13 refine qap ?_
   refine qbp ?_
   refine qbu ?_
   refine CJ_cond_false rfl ?_
   refine CJ_skip (seqK_normal (CJ_region ?_))
   refine qbm ?_
   refine qaa ?_
   refine qcx ?_
   rintro v L' R' ⟨b83, rfl, rfl, hR83⟩
   replace hR83 := hR83.symm; subst hR83
   refine ya7aa ?_
   rintro v L' R' ⟨o84, rfl, hok84, rfl, rfl⟩
   refine qc4 ?_
   refine qcs ?_
   refine qaa ?_
   refine qar ?_
   refine qad ?_
   refine qav ?_
   exact loopK_mk ⟨(k + 1, (⟨o84, _⟩ : OwL Int)), by dsimp only; omega, hok84, by
   dsimp only
   rw [List.range_succ, List.map_append, w3]
   refine congrArg (fun z => _ ++ [z]) ?_
   show _ = fedAt fl.l (fc.l.getD k default)
   rw [← hf]
   simp only [fedAt, fedS]
   repeat' split
   all_goals omega⟩ (by repeat (first | exact Off.refl | apply Off.upd rfl | apply Off.havoc rfl | apply Off.updL rfl | apply Off.left rfl)) (by repeat' (first | exact trivial | refine And.intro rfl ?_)) (by repeat (first | exact zs0 _ | exact zs1 _ | apply zs2 | apply zs3 | apply zs4 | apply zs5)) (allR_self _) (by dsimp only; omega)
  obtain rfl : k = fc.l.length := by omega
  refine qbk ?_
  refine qbm ?_
  refine qc4 ?_
  refine qa0 ?_
  refine q_r (L' := q.L 3 icell ++ L) (R' := R) (res1 rfl (rv_tmp (show _ = Value.slice _ _ _ from rfl))) ?_
  exact ⟨q, rfl, w2, w3, rfl, rfl⟩
end Go.Proofs.Ytkpfjmibipblhaa
