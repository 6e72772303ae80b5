import Derived.Test.YtlgjgigciapkfaaFits
import Derived.Test.YtlgjgigciapkfaaDraws
import Derived.Test.YtlgjgigciapkfaaNets
section
/-
  The parts of a mine, in plain numbers: places are labelled by a search from place to place. By an AI agent; no person has read it.
-/
set_option linter.unusedSimpArgs false
set_option linter.unusedVariables false
namespace Go.Proofs.Ytlgjgigciapkfaa
open Go.Aw Go

end Go.Proofs.Ytlgjgigciapkfaa
end
section
/-
  plan.part. By an AI agent; no person has read it.
-/
set_option linter.unusedSimpArgs false
set_option linter.unusedVariables false
namespace Go.Proofs.Ytlgjgigciapkfaa
open Go.Aw Go
set_option maxRecDepth 20000
attribute [local irreducible] CJ LJ DJ Tri YV Gives seqK blockK loopK retK RV mergeK OwL.L

theorem CJ_R {P n code t L R R'} {Q : TPost} (h : R = R') (k : CJ P n code t L R' Q) : CJ P n code t L R Q := h ▸ k
end Go.Proofs.Ytlgjgigciapkfaa
end
section
/-
  plan.Valid, plan.CutOff, certify.Lost. By an AI agent; no person has read it.
-/
set_option linter.unusedSimpArgs false
set_option linter.unusedVariables false
namespace Go.Proofs.Ytlgjgigciapkfaa
open Go.Aw Go
set_option maxRecDepth 20000
attribute [local irreducible] CJ LJ DJ Tri YV Gives seqK blockK loopK retK RV mergeK OwL.L

end Go.Proofs.Ytlgjgigciapkfaa
end
section
/-
  The reference's search for connected places. By an AI agent; no person has read it.
-/
set_option linter.unusedSimpArgs false
set_option linter.unusedVariables false
namespace Go.Proofs.Ytlgjgigciapkfaa
open Go.Aw Go
set_option maxRecDepth 20000
attribute [local irreducible] CJ LJ DJ Tri YV Gives seqK blockK loopK retK RV mergeK OwL.L

section
variable {A9 B9 : Prop}
theorem yaraa (a : A9) (h : A9 → B9 := by exact LJ_q (by first | exact yv_index_ro tb rfl rfl rfl rfl (by first | assumption | exact zr (by simp)) (i := i) (by first | rfl | omega | (simp; omega)) (by omega) | exact yv_index tb rfl rfl rfl rfl (i := i) (by first | rfl | omega | (simp; omega)) (by omega)) rfl) : B9 := h a
theorem yarab (a : A9) (h : A9 → B9 := by exact DJ_q (yv_load1_ow tb ((⟨o10, l⟩ : OwL Bool)) rfl rfl rfl (by repeat (first | apply OSeg.cons | exact OSeg.here | exact OSeg.last | exact OSeg.at (by assumption) | apply OSeg.app)) (by assumption) (fun _ => rfl) (by assumption) (by rfl)) rfl rfl rfl) : B9 := h a
theorem yarac (a : A9) (h : A9 → B9 := by exact DJ_q (yv_index_ow tb ((⟨o10, l⟩ : OwL Bool)) _ rfl rfl ((show _ = Value.slice _ _ _ from rfl).trans (by simp only [OwL.val, hll])) rfl (by assumption) (i := r.to.toNat) (by first | rfl | omega | (simp; omega)) (by first | omega | (dsimp only; omega) | (dsimp only; rw [List.length_set]; omega))) rfl rfl rfl) : B9 := h a
end
theorem refFrom_tri (m : XMine) (seen : Arr Bool) (L : List Blk) (R : List Sl) (hm : MineR m R) (hs : InR (blsl seen) R) (hok : MineOk m) (hl : seen.l.length = m.places.l.length) :
    Tri Try.prog 164 [m.val, seen.val].toArray L R (fun w L' R' => ∃ p : OwL Bool, w = p.val ∧ p.ok 1 blc ∧ FromIs m seen.l p.l ∧ p.L 4 blc ++ L = L' ∧ R = R') := by
  have hro := hm.roads
  have hnp := hok.places
  have hnr := hok.roads
  refine tri_enter 49 Try.call164 Try.func164 rfl rfl rfl ?_
  refine qae ?_
  refine qax ?_
  intro b2
  refine qc4 ?_
  refine qam ?_
  refine qbm ?_
  refine LJ_g (gives_copy (f := blc) (xs := seen) tb rfl rfl rfl (by decide) rfl rfl (hs) (fun _ => rfl) (by omega)) rfl ?_
  rintro v L' R' ⟨o10, rfl, hok10, rfl, rfl⟩
  refine qc4 ?_
  refine qaw ?_
  refine qaz ?_
  refine qa2 ?_
  refine CJ_forget [(2, Value.pointer _), (5, Value.slice _ _ _), (6, Value.bool _)] (by repeat' (first | exact trivial | refine And.intro rfl ?_)) fun tq0 => ?_
  refine q_p [6, 7, 8, 11, 12, 13, 14, 15, 16, 17, 18, 19, 20, 21, 22, 23, 24, 25, 26, 27, 28, 29, 30, 31, 32, 33, 34, 35, 36, 37, 38, 39, 40, 41, 42, 43, 44, 45, 46, 47] ((⟨fun q => [(6, .bool q.1.1)], fun q => (⟨o10, q.1.2⟩ : OwL Bool).L 4 blc ++ (⟨b2, m.cells, 26⟩ :: L), fun _ => R, fun q => nFalse q.1.2 * 2 + (if q.1.1 = true then 1 else 0)⟩ : Head {q : Bool × List Bool // (⟨o10, q.2⟩ : OwL Bool).ok 1 blc ∧ FromTo m seen.l q.2 ∧ (q.1 = false → ∀ r ∈ m.roads.l, r.closed = false → q.2.getD r.fr.toNat false = q.2.getD r.to.toNat false)})) (⟨(true, seen.l), hok10, FromTo.init, fun h => by cases h⟩) ?_
  rintro ⟨⟨again, l0⟩, q1, q2, q3⟩ junk
  try dsimp only
  dsimp only at q1 q2 q3
  refine qbi ?_
  refine qah ?_
  refine qaf ?_
  refine q_c (fun hc0 => ?_) (fun hc0 => ?_)
  ·
   refine CJ_skip (seqK_normal (CJ_block (CJ_seq (CJ_region ?_))))
   refine qaz ?_
   refine qam ?_
   refine qad ?_
   refine qa2 ?_
   refine CJ_forgetW [6, 7, 8, 11, 12, 13, 14, 15, 16, 17, 18, 19, 20, 21, 22, 23, 24, 25, 26, 27, 28, 29, 30, 31, 32, 33, 34, 35, 36, 37, 38, 39, 40, 41, 42, 43, 44, 45, 46, 47] (by repeat (first | apply Off.upd rfl | apply Off.havoc rfl | refine Off.updL (t' := havoc _ _ _) rfl ?_ | exact Off.refl)) [(6, Value.bool _), (7, Value.int _ _)] (by repeat' (first | exact trivial | refine And.intro rfl ?_)) fun tq1 => ?_
   refine q_p [6, 7, 8, 12, 13, 14, 15, 16, 17, 18, 19, 20, 21, 22, 23, 24, 25, 26, 27, 28, 29, 30, 31, 32, 33, 34, 35, 36, 37, 38, 39, 40, 41, 42, 43, 44, 45, 46, 47] ((⟨fun q => [(7, .int .i64 ((q.1.1 : Nat) : Int)), (6, .bool q.1.2.1)], fun q => (⟨o10, q.1.2.2⟩ : OwL Bool).L 4 blc ++ (⟨b2, m.cells, 26⟩ :: L), fun _ => R, fun q => m.roads.l.length - q.1.1⟩ : Head {q : Nat × Bool × List Bool // q.1 ≤ m.roads.l.length ∧ (⟨o10, q.2.2⟩ : OwL Bool).ok 1 blc ∧ FromTo m seen.l q.2.2 ∧ (q.2.1 = true → nFalse q.2.2 < nFalse l0) ∧ (q.2.1 = false → q.2.2 = l0 ∧ ∀ (j : Nat) (r : XRoad), j < q.1 → m.roads.l[j]? = some r → r.closed = false → l0.getD r.fr.toNat false = l0.getD r.to.toNat false)})) (⟨(0, false, l0), by dsimp only; omega, q1, q2, (fun h => by cases h), fun _ => ⟨rfl, fun j r hj => by omega⟩⟩) ?_
   rintro ⟨⟨i, ch, l⟩, w1, w2, w3, w4, w5⟩ junk
   try dsimp only
   dsimp only at w1 w2 w3 w4 w5
   have hll := w3.len
   refine qbi ?_
   refine qaa ?_
   refine qab ?_
   refine qac ?_
   refine qag ?_
   refine qaj ?_
   refine qaf ?_
   refine q_c (fun hc1 => ?_) (fun hc1 => ?_)
   ·
    have hr0 := get_D (l := m.roads.l) (k := i) default (by omega)
    have hrk := hok.road i _ hr0
    obtain ⟨r, hrr0⟩ : ∃ r, r = m.roads.l.getD i default := ⟨_, rfl⟩
    rw [← hrr0] at hr0 hrk
    have hr1 := hrk.fr
    have hr2 := hrk.to
    have hr3 := hrk.ne
    have hgf := get_D (l := l) (k := r.fr.toNat) false (by omega)
    have hgt := get_D (l := l) (k := r.to.toNat) false (by omega)
    refine qbb ?_
    refine qab ?_
    refine qac ?_
    refine qaa ?_
    refine yaraa ?_
    refine qc8 ?_
    refine qaq ?_
    intro b8
    refine qak ?_
    refine qa4 ?_
    refine CJ_drawn tb [0, 1, 2, 3, 4, 5, 6, 7, 8, 9, 10, 11, 12, 13, 14, 15] ([Blk.mk b8 _ _] ++ ((⟨o10, l⟩ : OwL Bool).L 4 blc ++ [])) mixed (by kernel_rfl) (by repeat (first | exact zs0 _ | exact zs1 _ | apply zs2 | apply zs3 | apply zs4 | apply zs5)) ?_
    refine qal ?_
    refine qat ?_
    refine DJ_q (yv_not rfl) rfl rfl rfl ?_
    refine qb2 ?_
    refine DJ_case (k := 27) (show _ = Value.bool _ from rfl) (fun hg3 => ?_) (fun hg3 => ?_)
    ·
     replace hg3 := qb hg3
     refine DJ_q (yv_move (show _ = Value.slice _ _ _ from rfl)) rfl rfl rfl ?_
     refine qal ?_
     refine qat ?_
     refine DJ_q (yv_index_ow tb ((⟨o10, l⟩ : OwL Bool)) _ rfl rfl ((show _ = Value.slice _ _ _ from rfl).trans (by simp only [OwL.val, hll])) rfl (by assumption) (i := r.fr.toNat) (by first | rfl | omega | (simp; omega)) (by first | omega | (dsimp only; omega) | (dsimp only; rw [List.length_set]; omega))) rfl rfl rfl ?_
     refine yarab ?_
     refine DJ_q (yv_move (show _ = Value.slice _ _ _ from rfl)) rfl rfl rfl ?_
     refine qal ?_
     refine qat ?_
     refine yarac ?_
     refine yarab ?_
     refine DJ_q (yv_neq_bool tb rfl rfl rfl) rfl rfl rfl ?_
     refine qbp ?_
     refine qbu ?_
     refine q_c (fun hc2 => ?_) (fun hc2 => ?_)
     ·
      refine CJ_drawn2 tb [43, 44, 45] [0, 1, 2, 3, 4, 5, 6] [7, 8, 9, 10] ([Blk.mk b8 _ _]) _ mixed (by kernel_rfl) (by repeat (first | exact zs0 _ | exact zs1 _ | apply zs2 | apply zs3 | apply zs4 | apply zs5)) (List.Sublist.refl _) ?_
      refine qct ?_
      refine qan ?_
      refine qau ?_
      refine DJ3_ql (yv_move (show _ = Value.slice _ _ _ from rfl)) rfl rfl rfl rfl ?_
      refine qcp ?_
      refine qcu ?_
      refine DJ3_q (yv_index_ow tb ((⟨o10, l⟩ : OwL Bool)) _ rfl rfl ((show _ = Value.slice _ _ _ from rfl).trans (by simp only [OwL.val, hll])) rfl (by assumption) (i := r.fr.toNat) (by first | rfl | omega | (simp; omega)) (by first | omega | (dsimp only; omega) | (dsimp only; rw [List.length_set]; omega))) rfl rfl rfl rfl ?_
      refine qba ?_
      refine DJ_g0 (gives_store1_ow tb ((⟨o10, l⟩ : OwL Bool)) (true) rfl rfl rfl rfl (by repeat (first | apply OSeg.cons | exact OSeg.here | exact OSeg.last | exact OSeg.at (by assumption) | apply OSeg.app)) (by assumption) (fun _ => rfl) (by assumption) (by decide) (by rfl) (by rfl)) rfl rfl ?_
      rintro v L' R' ⟨rfl, rfl⟩
      refine qa1 ?_
      refine yarac ?_
      have hq3 : (l.set r.fr.toNat true)[r.to.toNat]? = some (l.getD r.to.toNat false) := by rw [List.getElem?_set_ne (by omega)]; exact hgt
      have hk3 : (⟨o10, l.set r.fr.toNat true⟩ : OwL Bool).ok 1 blc := OwL.len_ok blc_len w2 (by simp)
      refine DJ_g0 (gives_store1_ow tb ((⟨o10, l.set r.fr.toNat true⟩ : OwL Bool)) (true) rfl rfl rfl rfl (by repeat (first | apply OSeg.cons | exact OSeg.here | exact OSeg.last | exact OSeg.at (by assumption) | apply OSeg.app)) (by assumption) (fun _ => rfl) (by assumption) (by decide) (by rfl) (by rfl)) rfl rfl ?_
      rintro v L' R' ⟨rfl, rfl⟩
      refine qa1 ?_
      refine DJ_q (yv_assign (show _ = Value.bool _ from rfl)) rfl rfl rfl ?_
      refine qby ?_
      refine qaa ?_
      refine qar ?_
      refine qad ?_
      refine qav ?_
      have hne : l.getD r.fr.toNat false ≠ l.getD r.to.toNat false := by simpa using hc2
      have hcl : r.closed = false := by simpa using hg3
      have hst : Step m r.fr.toNat r.to.toNat := ⟨r, List.mem_of_getElem? hr0, hcl, .inl ⟨by omega, by omega⟩⟩
      have hlt := nFalse_two (l := l) (u := r.fr.toNat) (v := r.to.toNat) (by omega) (by omega) hne
      have hle : nFalse l ≤ nFalse l0 := by
        cases ch with
        | true => have := w4 rfl; omega
        | false => rw [(w5 rfl).1]; exact Nat.le_refl _
      exact q_k ⟨(i + 1, true, (l.set r.fr.toNat true).set r.to.toNat true), by dsimp only; omega, OwL.len_ok blc_len w2 (by simp), w3.next hst (by omega) (by omega) hne, fun _ => by dsimp only; omega, fun h => by cases h⟩
     refine qbj ?_
     refine qaa ?_
     refine qar ?_
     refine qad ?_
     refine qav ?_
     have hag : r.closed = false → l.getD r.fr.toNat false = l.getD r.to.toNat false := by
       intro hcc
       first
         | (simpa using hc2)
         | (simp [hcc] at hg3)
     exact loopK_mk ⟨(i + 1, ch, l), by dsimp only; omega, w2, w3, w4, fun h => ⟨(w5 h).1, fun j r2 hj hj2 hjc => by
       rcases Nat.lt_or_ge j i with h1 | h1
       · exact (w5 h).2 j r2 h1 hj2 hjc
       · obtain rfl : j = i := by omega
         rw [hr0] at hj2
         cases hj2
         rw [← (w5 h).1]
         exact hag hjc⟩⟩ (by repeat (first | exact Off.refl | apply Off.upd rfl | apply Off.havoc rfl | apply Off.updL rfl | apply Off.left rfl)) (by repeat' (first | exact trivial | refine And.intro rfl ?_)) (by repeat (first | exact zs0 _ | exact zs1 _ | apply zs2 | apply zs3 | apply zs4 | apply zs5)) (allR_self _) (by dsimp only; omega)
    replace hg3 := qb hg3
    iterate 11 refine qap ?_
    refine qbp ?_
    refine qbu ?_
    refine CJ_cond_false rfl ?_
    refine qbj ?_
    refine qaa ?_
    refine qar ?_
    refine qad ?_
    refine qav ?_
    have hag : r.closed = false → l.getD r.fr.toNat false = l.getD r.to.toNat false := by
      intro hcc
      first
        | (simpa using hc2)
        | (simp [hcc] at hg3)
    exact loopK_mk ⟨(i + 1, ch, l), by dsimp only; omega, w2, w3, w4, fun h => ⟨(w5 h).1, fun j r2 hj hj2 hjc => by
      rcases Nat.lt_or_ge j i with h1 | h1
      · exact (w5 h).2 j r2 h1 hj2 hjc
      · obtain rfl : j = i := by omega
        rw [hr0] at hj2
        cases hj2
        rw [← (w5 h).1]
        exact hag hjc⟩⟩ (by repeat (first | exact Off.refl | apply Off.upd rfl | apply Off.havoc rfl | apply Off.updL rfl | apply Off.left rfl)) (by repeat' (first | exact trivial | refine And.intro rfl ?_)) (by repeat (first | exact zs0 _ | exact zs1 _ | apply zs2 | apply zs3 | apply zs4 | apply zs5)) (allR_self _) (by dsimp only; omega)
   obtain rfl : i = m.roads.l.length := by omega
   have hmeas : nFalse l * 2 + (if ch = true then 1 else 0) < nFalse l0 * 2 + (if again = true then 1 else 0) := by
     rw [if_pos hc0]
     cases ch with
     | true => have := w4 rfl; simp; omega
     | false => rw [(w5 rfl).1]; simp
   refine CJ_exit (seqK_exit (loopK_exit (blockK_exit (blockK_normal ?_))))
   exact loopK_mk ⟨(ch, l), w2, w3, fun h r hr hcc => by obtain ⟨j, hj⟩ := List.mem_iff_getElem?.1 hr; rw [(w5 h).1]; exact (w5 h).2 j r (List.getElem?_eq_some_iff.1 hj).1 hj hcc⟩ (by repeat (first | exact Off.refl | apply Off.upd rfl | apply Off.havoc rfl | apply Off.updL rfl | apply Off.left rfl)) (by repeat' (first | exact trivial | refine And.intro rfl ?_)) (by repeat (first | exact zs0 _ | exact zs1 _ | apply zs2 | apply zs3 | apply zs4 | apply zs5)) (allR_self _) hmeas
  have hll := q2.len
  refine qbk ?_
  refine qbm ?_
  refine qc4 ?_
  refine qa0 ?_
  refine q_r (L' := (⟨o10, l0⟩ : OwL Bool).L 4 blc ++ L) (R' := R) (res1 rfl (rv_tmp (show _ = Value.slice _ _ _ from rfl))) ?_
  exact ⟨⟨o10, l0⟩, by simp only [OwL.val, hll], q1, q2.done (q3 (by simpa using hc0)), rfl, rfl⟩

theorem from_lent {m : XMine} {p : OwL Bool} {A : List Blk} {R : List Sl} (hin : InB (p.L 4 blc) A) (hk : p.ok 1 blc) (hm : MineR m R) (hok : MineOk m) (hl : p.l.length = m.places.l.length) :
    Tri Try.prog 164 [m.val, p.val].toArray A R (fun w L' R' => ∃ q : OwL Bool, w = q.val ∧ q.ok 1 blc ∧ FromIs m p.l q.l ∧ A ++ q.L 4 blc = L' ∧ R = R') := by
  have h := refFrom_tri m p.arr [] ([blsl p.arr] ++ R) ⟨hm.places.mono fun r h => inR_self (.tail _ h), hm.roads.mono fun r h => inR_self (.tail _ h)⟩ (inR_self (.head _)) hok hl
  have h2 := Tri.lend (S := [blsl p.arr]) (Post := fun v L' => ∃ q : OwL Bool, v = q.val ∧ q.ok 1 blc ∧ FromIs m p.l q.l ∧ q.L 4 blc ++ [] = L') (Spl.rest (L := A)) (fun w G hh s hs => by
    rw [List.mem_singleton.1 hs]
    exact lend_rep hh hin hk blc_len (by decide) (fun s hs => by cases hs)) (h.mono fun v L' R' ⟨q, a1, a2, a3, a4, a5⟩ => ⟨⟨q, a1, a2, a3, a4⟩, a5⟩)
  exact h2.mono fun v L'' R' ⟨L', e, ⟨q, a1, a2, a3, a4⟩, a5⟩ => ⟨q, a1, a2, a3, by rw [← a4, List.append_nil] at e; exact e, a5⟩

theorem airy_tri (m : XMine) (L : List Blk) (R : List Sl) (hm : MineR m R) (hok : MineOk m) :
    Tri Try.prog 135 [m.val].toArray L R (fun w L' R' => ∃ p : OwL Bool, w = p.val ∧ p.ok 1 blc ∧ AiryIs m p.l ∧ L ++ p.L 4 blc = L' ∧ R = R') := by
  have hpl := hm.places
  have hnp := hok.places
  refine tri_enter 28 Try.call135 Try.func135 rfl rfl rfl ?_
  refine qae ?_
  refine qax ?_
  intro b1
  refine qc4 ?_
  refine qam ?_
  refine qab ?_
  refine qac ?_
  refine qag ?_
  refine qc7 ?_
  rintro v L' R' ⟨b8, rfl, rfl, hR8⟩
  replace hR8 := hR8.symm; subst hR8
  refine qc4 ?_
  refine qaw ?_
  refine qad ?_
  refine qa2 ?_
  refine CJ_forget [(1, Value.pointer _), (3, Value.slice _ _ _), (4, Value.int _ _)] (by repeat' (first | exact trivial | refine And.intro rfl ?_)) fun tq0 => ?_
  refine CJ_L (made_ow (f := blc) (x := false) rfl _) ?_
  refine q_p [4, 9, 10, 11, 12, 13, 14, 15, 16, 17, 18, 19, 20, 21, 22, 23, 24] ((⟨fun q => [(4, .int .i64 ((q.1.1 : Nat) : Int))], fun q => (⟨.own b8 m.places.l.length [], q.1.2⟩ : OwL Bool).L 4 blc ++ (⟨b1, m.cells, 26⟩ :: L), fun _ => R, fun q => m.places.l.length - q.1.1⟩ : Head {q : Nat × List Bool // q.1 ≤ m.places.l.length ∧ q.2.length = m.places.l.length ∧ ∀ (j : Nat) (p : XPlace), j < q.1 → m.places.l[j]? = some p → q.2[j]? = some p.surface})) (⟨(0, List.replicate m.places.l.length false), by dsimp only; omega, by simp, fun j p hj => by omega⟩) ?_
  rintro ⟨⟨i, l⟩, q1, hll, q3⟩ junk
  try dsimp only
  dsimp only at q1 hll q3
  have hkl : (⟨.own b8 m.places.l.length [], l⟩ : OwL Bool).ok 1 blc := by have := made_ok (f := blc) (wd := 1) (b := b8) (n := m.places.l.length) (x := false) blc_len (by simp only [maxLen]; omega); exact OwL.len_ok blc_len this (by simp; exact hll)
  refine qbi ?_
  refine qaa ?_
  refine qab ?_
  refine qac ?_
  refine qag ?_
  refine qaj ?_
  refine qaf ?_
  refine q_c (fun hc0 => ?_) (fun hc0 => ?_)
  ·
   have hpg := get_D (l := m.places.l) (k := i) default (by omega)
   have hlg := get_D (l := l) (k := i) false (by omega)
   refine CJ_skip (seqK_normal (CJ_seq (CJ_block (CJ_region ?_))))
   refine qbm ?_
   refine qaa ?_
   refine qab ?_
   refine qac ?_
   refine qaa ?_
   refine yaraa ?_
   refine qb0 ?_
   refine qa7 ?_
   refine LJ_q (yv_index_ow tb ((⟨.own b8 m.places.l.length [], l⟩ : OwL Bool)) _ rfl rfl ((show _ = Value.slice _ _ _ from rfl).trans (own_val hll)) rfl (by assumption) (i := i) (by first | rfl | omega | (simp; omega)) (by first | omega | (dsimp only; omega) | (dsimp only; rw [List.length_set]; omega))) rfl ?_
   refine LJ_g0 (gives_store1_ow tb ((⟨.own b8 m.places.l.length [], l⟩ : OwL Bool)) ((m.places.l.getD i default).surface) rfl rfl rfl rfl (by repeat (first | apply OSeg.cons | exact OSeg.here | exact OSeg.last | exact OSeg.at (by assumption) | apply OSeg.app)) (by assumption) (fun _ => rfl) (by assumption) (by decide) (by rfl) (by rfl)) ?_
   rintro v L' R' ⟨rfl, rfl⟩
   refine qcs ?_
   refine qaa ?_
   refine qar ?_
   refine qad ?_
   refine qav ?_
   exact loopK_mk ⟨(i + 1, l.set i (m.places.l.getD i default).surface), by dsimp only; omega, by simp; exact hll, fun j p hj hp => by
   rw [List.getElem?_set]
   split
   · rename_i e; subst e; rw [if_pos (by omega)]; rw [hpg] at hp; cases hp; rfl
   · rename_i e; exact q3 j p (by dsimp only at hj; omega) hp⟩ (by repeat (first | exact Off.refl | apply Off.upd rfl | apply Off.havoc rfl | apply Off.updL rfl | apply Off.left rfl)) (by repeat' (first | exact trivial | refine And.intro rfl ?_)) (by repeat (first | exact zs0 _ | exact zs1 _ | apply zs2 | apply zs3 | apply zs4 | apply zs5)) (allR_self _) (by dsimp only; omega)
  obtain rfl : i = m.places.l.length := by omega
  have hsf : l = surf m := by
    refine List.ext_getElem? fun j => ?_
    rcases Nat.lt_or_ge j m.places.l.length with h | h
    · have hp := get_D (l := m.places.l) (k := j) default h
      rw [q3 j _ h hp, surf, List.getElem?_map, hp]; rfl
    · rw [List.getElem?_eq_none (by omega), List.getElem?_eq_none (by simp [surf]; exact h)]
  refine qbk ?_
  refine qbe ?_
  refine qbm ?_
  refine LJ_call rfl (Tri.cast (from_lent (p := (⟨.own b8 m.places.l.length [], l⟩ : OwL Bool)) (by repeat (first | exact inB_here | apply inB_cons | apply inB_app)) hkl hm hok hll) (by show #[_, Value.slice _ (List.length _) _] = _; rw [hll]; rfl)) rfl ?_
  rintro v L' R' ⟨p, rfl, hp, hF, rfl, rfl⟩
  simp only [List.append_assoc, List.cons_append, List.nil_append]
  refine qc4 ?_
  refine qa0 ?_
  refine q_r (L' := L ++ p.L 4 blc) (R' := R) (res1 rfl (rv_tmp (show _ = Value.slice _ _ _ from rfl))) ?_
  exact ⟨p, rfl, hp, by rw [hsf] at hF; exact hF, rfl, rfl⟩
end Go.Proofs.Ytlgjgigciapkfaa
end
section
/-
  certify.Lost, and the reference's fixed places. By an AI agent; no person has read it.
-/
set_option linter.unusedSimpArgs false
set_option linter.unusedVariables false
namespace Go.Proofs.Ytlgjgigciapkfaa
open Go.Aw Go
set_option maxRecDepth 20000
attribute [local irreducible] CJ LJ DJ Tri YV Gives seqK blockK loopK retK RV mergeK OwL.L

section
variable {A9 B9 : Prop}
theorem yasaa (a : A9) (h : A9 → B9 := by exact LJ_q (yv_index_ow tb ((⟨o, l⟩ : OwL Bool)) _ rfl rfl ((show _ = Value.slice _ _ _ from rfl).trans (show Value.slice o.addr A.length o.cap = (⟨o, l⟩ : OwL Bool).val by simp only [OwL.val, hll, hAl])) rfl (by assumption) (i := k) (by first | rfl | omega | (simp; omega)) (by first | omega | (dsimp only; omega) | (dsimp only; rw [List.length_set]; omega))) rfl) : B9 := h a
theorem yasab (a : A9) (h : A9 → B9 := by exact LJ_g0 (gives_store1_ow tb ((⟨o, l⟩ : OwL Bool)) (_) rfl rfl rfl rfl (by repeat (first | apply OSeg.cons | exact OSeg.here | exact OSeg.last | exact OSeg.at (by assumption) | apply OSeg.app)) (by assumption) (fun _ => rfl) (by assumption) (by decide) (by rfl) (by rfl))) : B9 := h a
end
theorem AiryIs.length {m : XMine} {A : List Bool} (h : AiryIs m A) : A.length = m.places.l.length := by rw [h.len]; simp [surf]
def fixS (m : XMine) (A : List Bool) : List Bool := (List.range m.places.l.length).map fun i => !(A.getD i false) || (m.places.l.getD i default).surface
theorem fixS_get {m : XMine} {A : List Bool} {i : Nat} (h : i < m.places.l.length) : (fixS m A)[i]? = some (!(A.getD i false) || (m.places.l.getD i default).surface) := by
  rw [fixS, List.getElem?_map, List.getElem?_range h]; rfl
theorem fixed_tri (m : XMine) (L : List Blk) (R : List Sl) (hm : MineR m R) (hok : MineOk m) :
    Tri Try.prog 161 [m.val].toArray L R (fun w L' R' => ∃ (p : OwL Bool) (A : List Bool), w = p.val ∧ p.ok 1 blc ∧ AiryIs m A ∧ p.l = fixS m A ∧ L ++ p.L 4 blc = L' ∧ R = R') := by
  have hmp := hm.places
  have hnp := hok.places
  refine tri_enter 30 Try.call161 Try.func161 rfl rfl rfl ?_
  refine qae ?_
  refine qax ?_
  intro b1
  refine qc4 ?_
  refine qam ?_
  refine qbe ?_
  refine LJ_call rfl (airy_tri m _ _ hm hok) rfl ?_
  rintro v L' R' ⟨p, rfl, hp, hA, rfl, rfl⟩
  simp only [List.append_assoc, List.cons_append, List.nil_append]
  have hAl := hA.length
  obtain ⟨o, A⟩ := p
  dsimp only at hA hAl
  refine qc4 ?_
  refine qaw ?_
  refine qad ?_
  refine qa2 ?_
  refine CJ_forget [(1, Value.pointer _), (3, Value.slice _ _ _), (4, Value.int _ _)] (by repeat' (first | exact trivial | refine And.intro rfl ?_)) fun tq0 => ?_
  refine q_p [4, 7, 8, 9, 10, 11, 12, 13, 14, 15, 16, 17, 18, 19, 20, 21, 22, 23, 24, 25, 26, 27, 28] ((⟨fun q => [(4, .int .i64 ((q.1.1 : Nat) : Int))], fun q => ⟨b1, m.cells, 26⟩ :: (L ++ (⟨o, q.1.2⟩ : OwL Bool).L 4 blc), fun _ => R, fun q => m.places.l.length - q.1.1⟩ : Head {q : Nat × List Bool // q.1 ≤ m.places.l.length ∧ q.2.length = m.places.l.length ∧ (⟨o, q.2⟩ : OwL Bool).ok 1 blc ∧ ∀ i : Nat, q.2[i]? = if i < q.1 then (fixS m A)[i]? else A[i]?})) (⟨(0, A), by dsimp only; omega, hAl, hp, fun i => by rw [if_neg (by dsimp only; omega)]⟩) ?_
  rintro ⟨⟨k, l⟩, q1, hll, hk, q3⟩ junk
  try dsimp only
  dsimp only at q1 hll hk q3
  refine qbi ?_
  refine qaa ?_
  refine qbm ?_
  refine qag ?_
  refine qaj ?_
  refine qaf ?_
  refine q_c (fun hc0 => ?_) (fun hc0 => ?_)
  ·
   have hpg := get_D (l := m.places.l) (k := k) default (by omega)
   have hAg := get_D (l := A) (k := k) false (by omega)
   have hlg : l[k]? = some (A.getD k false) := by rw [q3 k, if_neg (by omega)]; exact hAg
   have hfk := fixS_get (m := m) (A := A) (i := k) (by omega)
   refine CJ_skip (seqK_normal (CJ_seq (CJ_block (CJ_region ?_))))
   refine qbm ?_
   refine qaa ?_
   refine qbm ?_
   refine qaa ?_
   refine yasaa ?_
   refine LJ_q (yv_load1_ow tb ((⟨o, l⟩ : OwL Bool)) rfl rfl rfl (by repeat (first | apply OSeg.cons | exact OSeg.here | exact OSeg.last | exact OSeg.at (by assumption) | apply OSeg.app)) (by assumption) (fun _ => rfl) (by assumption) (by rfl)) rfl ?_
   refine qb4 ?_
   refine qah ?_
   refine LJ_case (k := 20) (show _ = Value.bool _ from rfl) (fun hg8 => ?_) (fun hg8 => ?_)
   ·
    replace hg8 := qb hg8
    iterate 6 refine LJ_skg rfl rfl ?_
    refine LJ_q (by first | exact yv_pick_true rfl rfl | exact yv_pick_false rfl rfl | exact yv_pick rfl) rfl ?_
    refine yasaa ?_
    refine yasab ?_
    rintro v L' R' ⟨rfl, rfl⟩
    refine qcs ?_
    refine qaa ?_
    refine qar ?_
    refine qad ?_
    refine qav ?_
    have key : ∀ x : Bool, x = (!(A.getD k false) || (m.places.l.getD k default).surface) → ∀ i : Nat, (l.set k x)[i]? = if i < k + 1 then (fixS m A)[i]? else A[i]? := fun x hx i => by
      rw [List.getElem?_set]
      split
      · rename_i e; subst e; rw [if_pos (by omega), if_pos (by omega), hfk, hx]
      · rename_i e
        rw [q3 i]
        by_cases h : i < k
        · rw [if_pos h, if_pos (by omega)]
        · rw [if_neg h, if_neg (by omega)]
    first
      | have hx : true = (!(A.getD k false) || (m.places.l.getD k default).surface) := by rw [hg8]; rfl
        exact q_k ⟨(k + 1, l.set k true), by dsimp only; omega, by simp; exact hll, OwL.len_ok blc_len hk (by simp), key true hx⟩
      | have hx : (m.places.l.getD k default).surface = (!(A.getD k false) || (m.places.l.getD k default).surface) := by rw [hg8]; rfl
        exact q_k ⟨(k + 1, l.set k (m.places.l.getD k default).surface), by dsimp only; omega, by simp; exact hll, OwL.len_ok blc_len hk (by simp), key _ hx⟩
   replace hg8 := qb hg8
   refine LJ_qg (yv_field tb rfl rfl rfl) rfl rfl ?_
   refine LJ_qg (yv_load1 tb rfl rfl rfl (by repeat (first | exact zi0 | apply zi1 | apply zi2)) (by rfl)) rfl rfl ?_
   refine LJ_qg (yv_move (show _ = Value.int _ _ from rfl)) rfl rfl ?_
   refine LJ_qg (by first | exact yv_index_ro tb rfl rfl rfl rfl (by first | assumption | exact zr (by simp)) (i := k) (by first | rfl | omega | (simp; omega)) (by omega) | exact yv_index tb rfl rfl rfl rfl (i := k) (by first | rfl | omega | (simp; omega)) (by omega)) rfl rfl ?_
   refine LJ_qg (yv_field_eo tb rfl rfl rfl) rfl rfl ?_
   refine LJ_qg (by first | exact yv_load1_ro tb rfl rfl rfl (by first | assumption | exact zr (by simp)) (by assumption) (by rfl) | exact yv_load1 tb rfl rfl rfl (by repeat (first | exact zi0 | apply zi1 | apply zi2)) (by rfl) | exact yv_load1 tb rfl rfl rfl (by repeat (first | exact zi0 | apply zi1 | apply zi2)) (icell_get (by assumption)) | exact yv_load1 tb rfl rfl rfl (by repeat (first | exact zi0 | apply zi1 | apply zi2)) (rcell_get (fun _ => rfl) (by assumption) rfl)) rfl rfl ?_
   refine LJ_q (by first | exact yv_pick_true rfl rfl | exact yv_pick_false rfl rfl | exact yv_pick rfl) rfl ?_
   refine yasaa ?_
   refine yasab ?_
   rintro v L' R' ⟨rfl, rfl⟩
   refine qcs ?_
   refine qaa ?_
   refine qar ?_
   refine qad ?_
   refine qav ?_
   have key : ∀ x : Bool, x = (!(A.getD k false) || (m.places.l.getD k default).surface) → ∀ i : Nat, (l.set k x)[i]? = if i < k + 1 then (fixS m A)[i]? else A[i]? := fun x hx i => by
     rw [List.getElem?_set]
     split
     · rename_i e; subst e; rw [if_pos (by omega), if_pos (by omega), hfk, hx]
     · rename_i e
       rw [q3 i]
       by_cases h : i < k
       · rw [if_pos h, if_pos (by omega)]
       · rw [if_neg h, if_neg (by omega)]
   first
     | have hx : true = (!(A.getD k false) || (m.places.l.getD k default).surface) := by rw [hg8]; rfl
       exact q_k ⟨(k + 1, l.set k true), by dsimp only; omega, by simp; exact hll, OwL.len_ok blc_len hk (by simp), key true hx⟩
     | have hx : (m.places.l.getD k default).surface = (!(A.getD k false) || (m.places.l.getD k default).surface) := by rw [hg8]; rfl
       exact q_k ⟨(k + 1, l.set k (m.places.l.getD k default).surface), by dsimp only; omega, by simp; exact hll, OwL.len_ok blc_len hk (by simp), key _ hx⟩
  obtain rfl : k = m.places.l.length := by omega
  have hlf : l = fixS m A := by
    refine List.ext_getElem? fun i => ?_
    rw [q3 i]
    split
    · rfl
    · rw [List.getElem?_eq_none (by omega), List.getElem?_eq_none (by simp [fixS]; omega)]
  refine qbk ?_
  refine qbm ?_
  refine qc4 ?_
  refine qa0 ?_
  refine q_r (L' := L ++ (⟨o, l⟩ : OwL Bool).L 4 blc) (R' := R) (res1 rfl (rv_tmp (show _ = Value.slice _ _ _ from rfl))) ?_
  exact ⟨⟨o, l⟩, A, (show Value.slice o.addr A.length o.cap = (⟨o, l⟩ : OwL Bool).val by simp only [OwL.val, hll, hAl]), hk, hA, hlf, rfl, rfl⟩
end Go.Proofs.Ytlgjgigciapkfaa
end
section
/-
  Bounds, what certify.Check answers, and the reference's check. By an AI agent; no person has read it.
-/
set_option linter.unusedSimpArgs false
set_option linter.unusedVariables false
namespace Go.Proofs.Ytlgjgigciapkfaa
open Go.Aw Go
set_option maxRecDepth 20000
attribute [local irreducible] CJ LJ DJ Tri YV Gives seqK blockK loopK retK RV mergeK OwL.L

section
variable {A9 B9 : Prop}
theorem yataa (a : A9) (h : A9 → B9 := by exact LJ_q (by first | exact yv_pick_true rfl rfl | exact yv_pick_false rfl rfl | exact yv_pick rfl) rfl) : B9 := h a
theorem yatab (h : B9 := by exact ⟨by rw [hck, FSR_some hp0 (by omega) (hnb.trans (if_pos (by omega)))]; rfl, rfl, rfl⟩) : B9 := h
theorem yatac (h : B9 := by exact ⟨by rw [checkS, if_neg hc0, if_neg hff, if_neg (by omega), if_pos (by simp_all [Option.isSome_iff_ne_none])], rfl, rfl⟩) : B9 := h
theorem yatad (a : A9) (h : A9 → B9 := by exact LJ_q (by first | exact yv_index_ro tb rfl rfl rfl rfl (by first | assumption | exact zr (by simp)) (i := k0) (by first | rfl | omega | (simp; omega)) (by omega) | exact yv_index tb rfl rfl rfl rfl (i := k0) (by first | rfl | omega | (simp; omega)) (by omega)) rfl) : B9 := h a
end
structure XBounds where
  low : Arr Int
  high : Arr Int
def XBounds.cells (s : XBounds) : List Value := [s.low.val, s.high.val]
abbrev XBounds.val (s : XBounds) : Value := .agg #[s.low.val, s.high.val]
structure BoundsR (s : XBounds) (R : List Sl) : Prop where
  low : InR (isl s.low) R
  high : InR (isl s.high) R
def nodeBad (a : XAir) (s : XSetting) (b : XBounds) (A : List Bool) (i : Nat) : Option Int :=
  if (!(A.getD i false) || (a.mine.places.l.getD i default).surface) = true then (if b.low.l.getD i 0 ≠ 0 ∨ b.high.l.getD i 0 ≠ 0 then some 12 else none)
  else (if lowN a s b.high.l (i : Int) < 0 ∨ 0 < highN a s b.low.l (i : Int) then some 12 else none)
def checkS (a : XAir) (s : XSetting) (b : XBounds) (A : List Bool) : Int :=
  if airErr a ≠ 0 then airErr a
  else if fitB a s = false then 21
  else if b.low.l.length ≠ a.mine.places.l.length ∨ b.high.l.length ≠ a.mine.places.l.length then 11
  else if (b.low.l.findSome? presBad).isSome = true ∨ (b.high.l.findSome? presBad).isSome = true then 1
  else ((List.range a.mine.places.l.length).findSome? (nodeBad a s b A)).getD 0

theorem fixS_length (m : XMine) (A : List Bool) : (fixS m A).length = m.places.l.length := by simp [fixS]
theorem ranged_tri (x : Arr Int) (L : List Blk) (R : List Sl) (hx : InR (isl x) R) :
    Tri Try.prog 160 [x.val].toArray L R (fun v L' R' => v = .bool (x.l.findSome? presBad).isNone ∧ L = L' ∧ R = R') := by
  refine Tri_len Try.call160 hx fun hxn => ?_
  refine tri_enter 22 Try.call160 Try.func160 rfl rfl rfl ?_
  refine qae ?_
  refine qaz ?_
  refine qaw ?_
  refine qad ?_
  refine qa2 ?_
  refine CJ_forget [(0, Value.slice _ _ _), (3, Value.int _ _)] (by repeat' (first | exact trivial | refine And.intro rfl ?_)) fun tq0 => ?_
  refine q_s [2, 3, 4, 5, 6, 7, 8, 9, 10, 11, 12, 13, 14, 15, 16, 17, 18, 19, 20, 21] (fun g : FS (presBad) (x.l) => [(3, .int .i64 ((g.1 : Nat) : Int))]) (fun g => (x.l).length - g.1) ⟨0, FS_zero _ _⟩ ?_
  rintro ⟨k0, hk0, hp0⟩ junk
  try dsimp only
  refine qbi ?_
  refine qaa ?_
  refine qbm ?_
  refine qag ?_
  refine qaj ?_
  refine qaf ?_
  refine q_c (fun hc0 => ?_) (fun hc0 => ?_)
  ·
   obtain ⟨y, hy⟩ := get_some (l := x.l) (k := k0) (by omega)
   refine qbb ?_
   refine qbm ?_
   refine qaa ?_
   refine qa3 ?_
   refine qa7 ?_
   refine qaj ?_
   refine qah ?_
   apply LJ_or (G := [_, _, _, _, _]) (j := 5) (cj := 15) rfl rfl (by rfl) rfl (show _ = Value.bool _ from rfl) rfl
   ·
    intro hg6
    replace hg6 := qb hg6
    refine qbm ?_
    refine qaa ?_
    refine qa3 ?_
    refine qa7 ?_
    refine qa5 ?_
    exact qai
   intro junk6
   refine qaf ?_
   refine q_c (fun hc1 => ?_) (fun hc1 => ?_)
   ·
    refine qae ?_
    refine qaz ?_
    refine qbt ?_
    refine q_b (L' := L) (R' := R) ?_
    exact ⟨by rw [FS_some hp0 hy (if_pos (by omega))]; rfl, rfl, rfl⟩
   refine qbj ?_
   refine qaa ?_
   refine qar ?_
   refine qad ?_
   refine qav ?_
   exact q_k ⟨k0 + 1, FS_next hp0 hy (if_neg (by omega))⟩
  have hn0 := FS_none hp0 (by omega)
  refine qbk ?_
  refine qaz ?_
  refine qa0 ?_
  refine q_b (L' := L) (R' := R) ?_
  exact ⟨by rw [hn0]; rfl, rfl, rfl⟩

theorem refCert_tri (a : XAir) (s : XSetting) (b : XBounds) (A : List Bool) (L : List Blk) (R : List Sl) (hm : AirR a R) (hs : SetR s R) (hb : BoundsR b R) (hA : airErr a = 0 → AiryIs a.mine A) :
    Tri Try.prog 134 [a.val, s.val, b.val].toArray L R (fun v L' R' => v = .int .i64 (checkS a s b A) ∧ L = L' ∧ R = R') := by
  have hmp := hm.places
  have hbl := hb.low
  have hbh := hb.high
  refine Tri_len Try.call134 hbl fun hbln => ?_
  refine Tri_len Try.call134 hbh fun hbhn => ?_
  refine Tri_len Try.call134 hmp fun hmpn => ?_
  refine tri_enter 88 Try.call134 Try.func134 rfl rfl rfl ?_
  refine qae ?_
  refine qax ?_
  intro b3
  refine qax ?_
  intro b4
  refine qax ?_
  intro b5
  refine qad ?_
  refine qaw ?_
  refine qa8 ?_
  refine q_l rfl (ref09Check_tri a _ _ hm) ?_
  refine qad ?_
  refine qam ?_
  refine qaa ?_
  refine qbq ?_
  refine qaf ?_
  refine q_c (fun hc0 => ?_) (fun hc0 => ?_)
  ·
   refine qae ?_
   refine qaa ?_
   refine qad ?_
   refine qbh ?_
   refine q_i (L' := L) (R' := R) ?_
   exact ⟨by rw [checkS, if_pos hc0], rfl, rfl⟩
  have h0 : airErr a = 0 := by omega
  have hok := airOk_of h0
  have hAA := hA h0
  refine qbo ?_
  refine qa8 ?_
  refine qbe ?_
  refine q_l rfl (ref09Right_tri a s _ _ hm hs) ?_
  refine qb4 ?_
  refine qaf ?_
  refine q_c (fun hc1 => ?_) (fun hc1 => ?_)
  ·
   refine qae ?_
   refine qad ?_
   refine qbh ?_
   refine q_i (L' := L) (R' := R) ?_
   exact ⟨by rw [checkS, if_neg hc0, if_pos (by simpa [rightB, h0] using hc1)], rfl, rfl⟩
  have hf0 : fitB a s = true := by simpa [rightB, h0] using hc1
  have hfo := fitOk_of hf0
  have hff : ¬ fitB a s = false := by rw [hf0]; decide
  refine qbv ?_
  refine qab ?_
  refine qab ?_
  refine qac ?_
  refine qag ?_
  refine qad ?_
  refine qaw ?_
  refine qab ?_
  refine qac ?_
  refine qag ?_
  refine qaa ?_
  refine qbq ?_
  refine qah ?_
  apply LJ_or (G := [_, _, _, _, _]) (j := 5) (cj := 29) rfl rfl (by rfl) rfl (show _ = Value.bool _ from rfl) rfl
  ·
   intro hg6
   replace hg6 := qb hg6
   refine qab ?_
   refine qac ?_
   refine qag ?_
   refine qaa ?_
   refine qbq ?_
   exact qai
  intro junk6
  refine qaf ?_
  refine q_c (fun hc2 => ?_) (fun hc2 => ?_)
  ·
   refine qae ?_
   refine qad ?_
   refine qbh ?_
   refine q_i (L' := L) (R' := R) ?_
   exact ⟨by rw [checkS, if_neg hc0, if_neg hff, if_pos (by omega)], rfl, rfl⟩
  have hln : b.low.l.length = a.mine.places.l.length := by omega
  have hhn : b.high.l.length = a.mine.places.l.length := by omega
  refine qbo ?_
  refine qab ?_
  refine qac ?_
  refine q_l rfl (ranged_tri b.low _ _ hbl) ?_
  refine qb4 ?_
  refine qah ?_
  refine LJ_case (k := 40) (show _ = Value.bool _ from rfl) (fun hg5 => ?_) (fun hg5 => ?_)
  ·
   replace hg5 := qb hg5
   iterate 4 refine LJ_skg rfl rfl ?_
   refine yataa ?_
   refine qaf ?_
   refine CJ_cond_true rfl ?_
   refine qae ?_
   refine qad ?_
   refine qbh ?_
   refine q_i (L' := L) (R' := R) ?_
   exact yatac
  replace hg5 := qb hg5
  refine LJ_qg (yv_field tb rfl rfl rfl) rfl rfl ?_
  refine LJ_qg (yv_load1 tb rfl rfl rfl (by repeat (first | exact zi0 | apply zi1 | apply zi2)) (by rfl)) rfl rfl ?_
  refine LJ_callg rfl (ranged_tri b.high _ _ hbh) rfl rfl ?_
  rintro v L' R' ⟨rfl, rfl, rfl⟩
  refine LJ_qg (yv_not rfl) rfl rfl ?_
  refine yataa ?_
  refine qaf ?_
  refine q_c (fun hc3 => ?_) (fun hc3 => ?_)
  ·
   refine qae ?_
   refine qad ?_
   refine qbh ?_
   refine q_i (L' := L) (R' := R) ?_
   exact yatac
  have hr : ¬ (b.low.l.findSome? presBad).isSome = true ∧ ¬ (b.high.l.findSome? presBad).isSome = true := by simp_all
  refine qbv ?_
  refine qab ?_
  refine qbe ?_
  refine LJ_call rfl (fixed_tri a.mine _ _ hm.mineR hok.mine) rfl ?_
  rintro v L' R' ⟨p, A2, rfl, hpk, hA2, hpl, rfl, rfl⟩
  obtain rfl : A = A2 := hAA.unique hA2
  have hfx : p.l.length = a.mine.places.l.length := by rw [hpl]; exact fixS_length a.mine A
  have hplb : PresOk b.low.l := presOk_of (by simpa using hr.1)
  have hphb : PresOk b.high.l := presOk_of (by simpa using hr.2)
  have hck : checkS a s b A = ((List.range a.mine.places.l.length).findSome? (nodeBad a s b A)).getD 0 := by rw [checkS, if_neg hc0, if_neg hff, if_neg (by omega), if_neg (fun h => h.elim hr.1 hr.2)]
  refine qc4 ?_
  refine qco ?_
  refine CJ_turn fun c w hst => ⟨_, _, hst.perm List.perm_append_comm, ?_⟩
  refine qay ?_
  refine qad ?_
  refine qa2 ?_
  refine CJ_forget [(3, Value.pointer _), (4, Value.pointer _), (5, Value.pointer _), (8, Value.int _ _), (9, Value.slice _ _ _), (10, Value.int _ _)] (by repeat' (first | exact trivial | refine And.intro rfl ?_)) fun tq0 => ?_
  refine q_s [6, 10, 49, 50, 51, 52, 53, 54, 55, 56, 57, 58, 59, 60, 61, 62, 63, 64, 65, 66, 67, 68, 69, 70, 71, 72, 73, 74, 75, 76, 77, 78, 79, 80, 81, 82, 83, 84, 85, 86, 87] (fun g : FSR (nodeBad a s b A) (a.mine.places.l.length) => [(10, .int .i64 ((g.1 : Nat) : Int))]) (fun g => (a.mine.places.l.length) - g.1) ⟨0, FSR_zero _ _⟩ ?_
  rintro ⟨k0, hk0, hp0⟩ junk
  try dsimp only
  refine qbi ?_
  refine qaa ?_
  refine qaa ?_
  refine qaj ?_
  refine qaf ?_
  refine q_c (fun hc4 => ?_) (fun hc4 => ?_)
  ·
   have hpg : p.l[k0]? = some (!(A.getD k0 false) || (a.mine.places.l.getD k0 default).surface) := by rw [hpl]; exact fixS_get (by omega)
   have hlg := get_D (l := b.low.l) (k := k0) 0 (by omega)
   have hhg := get_D (l := b.high.l) (k := k0) 0 (by omega)
   refine CJ_skip (seqK_normal (CJ_seq (CJ_block (CJ_seq (CJ_seq (CJ_region ?_))))))
   refine qbm ?_
   refine qaa ?_
   refine LJ_q (yv_index_ow tb (p) _ rfl rfl rfl rfl (by assumption) (i := k0) (by first | rfl | omega | (simp; omega)) (by first | omega | (dsimp only; omega) | (dsimp only; rw [List.length_set]; omega))) rfl ?_
   refine LJ_q (yv_load1_ow tb (p) rfl rfl rfl (by repeat (first | apply OSeg.cons | exact OSeg.here | exact OSeg.last | exact OSeg.at (by assumption) | apply OSeg.app)) (by assumption) (fun _ => rfl) (by assumption) (by rfl)) rfl ?_
   refine qaf ?_
   refine q_c (fun hc5 => ?_) (fun hc5 => ?_)
   ·
    have hnb : nodeBad a s b A k0 = if b.low.l.getD k0 0 ≠ 0 ∨ b.high.l.getD k0 0 ≠ 0 then some 12 else none := by rw [nodeBad, if_pos (by simpa using hc5)]
    refine qbi ?_
    refine qab ?_
    refine qac ?_
    refine qaa ?_
    refine yatad ?_
    refine qa7 ?_
    refine qbq ?_
    refine qah ?_
    apply LJ_or (G := [_, _, _, _, _, _]) (j := 6) (cj := 64) rfl rfl (by rfl) rfl (show _ = Value.bool _ from rfl) rfl
    ·
     intro hg7
     replace hg7 := qb hg7
     refine qab ?_
     refine qac ?_
     refine qaa ?_
     refine yatad ?_
     refine qa7 ?_
     refine qbq ?_
     exact qai
    intro junk7
    refine qaf ?_
    refine q_c (fun hc6 => ?_) (fun hc6 => ?_)
    ·
     refine qae ?_
     refine qad ?_
     refine LJ_nil (seqK_normal (CJ_ret (seqK_ret (seqK_ret (blockK_ret (seqK_ret (loopK_ret (blockK_ret (seqK_ret ?_)))))))))
     refine q_i (L' := L) (R' := R) ?_
     exact yatab
    refine CJ_skip (seqK_normal (CJ_exit (seqK_exit (blockK_exit (seqK_normal (CJ_region ?_))))))
    refine qaa ?_
    refine qar ?_
    refine qad ?_
    refine qav ?_
    exact q_k ⟨k0 + 1, FSR_next hp0 (by omega) (hnb.trans (if_neg (by omega)))⟩
   have hnb : nodeBad a s b A k0 = if lowN a s b.high.l (k0 : Int) < 0 ∨ 0 < highN a s b.low.l (k0 : Int) then some 12 else none := by rw [nodeBad, if_neg (by simpa using hc5)]
   refine qbv ?_
   refine qa8 ?_
   refine qbe ?_
   refine qab ?_
   refine qac ?_
   refine qaa ?_
   refine q_l rfl (refLow_tri a s b.high _ _ _ hm hs hbh hok hfo hhn hphb) ?_
   refine qaj ?_
   refine qah ?_
   refine LJ_case (k := 79) (show _ = Value.bool _ from rfl) (fun hg8 => ?_) (fun hg8 => ?_)
   ·
    replace hg8 := qb hg8
    iterate 7 refine LJ_skg rfl rfl ?_
    refine yataa ?_
    refine qaf ?_
    refine CJ_cond_true rfl ?_
    refine qae ?_
    refine qad ?_
    refine qbt ?_
    refine q_i (L' := L) (R' := R) ?_
    exact yatab
   replace hg8 := qb hg8
   refine LJ_qg (yv_loadN (row := [_, _, _, _]) tb rfl rfl rfl (by repeat (first | exact zi0 | apply zi1 | apply zi2)) (by rfl) (by rfl)) rfl rfl ?_
   refine LJ_qg (yv_loadN (row := [_, _]) tb rfl rfl rfl (by repeat (first | exact zi0 | apply zi1 | apply zi2)) (by rfl) (by rfl)) rfl rfl ?_
   refine LJ_qg (yv_field tb rfl rfl rfl) rfl rfl ?_
   refine LJ_qg (yv_load1 tb rfl rfl rfl (by repeat (first | exact zi0 | apply zi1 | apply zi2)) (by rfl)) rfl rfl ?_
   refine LJ_qg (yv_move (show _ = Value.int _ _ from rfl)) rfl rfl ?_
   refine LJ_callg rfl (refHigh_tri a s b.low _ _ _ hm hs hbl hok hfo hln hplb) rfl rfl ?_
   rintro v L' R' ⟨rfl, rfl, rfl⟩
   refine LJ_qg (yv_gtr rfl rfl) rfl rfl ?_
   refine yataa ?_
   refine qaf ?_
   refine q_c (fun hc7 => ?_) (fun hc7 => ?_)
   ·
    refine qae ?_
    refine qad ?_
    refine qbt ?_
    refine q_i (L' := L) (R' := R) ?_
    exact yatab
   refine qbj ?_
   refine qaa ?_
   refine qar ?_
   refine qad ?_
   refine qav ?_
   exact q_k ⟨k0 + 1, FSR_next hp0 (by omega) (hnb.trans (if_neg (by omega)))⟩
  have hn0 := FSR_none hp0 (by omega)
  refine qbk ?_
  refine qad ?_
  refine qa0 ?_
  refine q_i (L' := L) (R' := R) ?_
  exact ⟨by rw [hck, hn0]; rfl, rfl, rfl⟩
end Go.Proofs.Ytlgjgigciapkfaa
end
section
/-
  certify.Check. By an AI agent; no person has read it.
-/
set_option linter.unusedSimpArgs false
set_option linter.unusedVariables false
namespace Go.Proofs.Ytlgjgigciapkfaa
open Go.Aw Go
set_option maxRecDepth 20000
attribute [local irreducible] CJ LJ DJ Tri YV Gives seqK blockK loopK retK RV mergeK OwL.L

theorem airErr_mine {a : XAir} (h : airErr a = 0) : mineErr a.mine = 0 := by
  unfold airErr at h
  split at h
  · rename_i h1; exact absurd h h1
  · rename_i h1; omega
end Go.Proofs.Ytlgjgigciapkfaa
end
section
/-
  What the flows are that bounds allow: the shared law of certify.Flows and ref11.Flows. By an AI agent; no person has read it.
-/
set_option linter.unusedSimpArgs false
set_option linter.unusedVariables false
namespace Go.Proofs.Ytlgjgigciapkfaa
open Go.Aw Go
set_option maxRecDepth 20000
attribute [local irreducible] CJ LJ DJ Tri YV Gives seqK blockK loopK retK RV mergeK OwL.L

def nothingS : XSpan := ⟨-1125899906842624, 1125899906842624⟩
def roadFlow (a : XAir) (s : XSetting) (b : XBounds) (A : List Bool) (k : Nat) : XSpan :=
  if (a.mine.roads.l.getD k default).closed = true then ⟨0, 0⟩
  else if A.getD (a.mine.roads.l.getD k default).fr.toNat false = true then
    ⟨flowLow (innerS a s k) (b.low.l.getD (a.mine.roads.l.getD k default).fr.toNat 0 - b.high.l.getD (a.mine.roads.l.getD k default).to.toNat 0),
     flowHigh (innerS a s k) (b.high.l.getD (a.mine.roads.l.getD k default).fr.toNat 0 - b.low.l.getD (a.mine.roads.l.getD k default).to.toNat 0)⟩
  else nothingS
def boundFlows (a : XAir) (s : XSetting) (b : XBounds) (A : List Bool) : List XSpan :=
  if checkS a s b A = 0 then (List.range a.mine.roads.l.length).map (roadFlow a s b A) else []

theorem nothing_tri (L : List Blk) (R : List Sl) :
    Tri Try.prog 38 [].toArray L R (fun v L' R' => v = nothingS.val ∧ L = L' ∧ R = R') := by
  refine tri_enter 2 Try.call38 Try.func38 rfl rfl rfl ?_
  refine qae ?_
  refine qaq ?_
  intro b0
  refine qam ?_
  refine qcd ?_
  refine qak ?_
  refine qa0 ?_
  refine q_r (L' := L) (R' := R) (res1 rfl (rv_cell (row := [_, _]) tb rfl rfl rfl (by repeat (first | exact zi0 | apply zi1 | apply zi2)) (by rfl) (by rfl))) ?_
  exact ⟨rfl, rfl, rfl⟩
end Go.Proofs.Ytlgjgigciapkfaa
end
