/-
  The reference's search for connected places. By an AI agent; no person has read it.
-/
import Derived.Test.YtjjfpglgonpciaaGraph
import Derived.Test.YtjjfpglgonpciaaFits
set_option linter.unusedSimpArgs false
set_option linter.unusedVariables false
namespace Go.Proofs.Ytjjfpglgonpciaa
open Go.Aw Go
set_option maxRecDepth 20000
attribute [local irreducible] CJ LJ DJ Tri YV Gives seqK blockK loopK retK RV mergeK OwL.L

theorem refFrom_tri (m : XMine) (seen : Arr Bool) (L : List Blk) (R : List Sl) (hm : MineR m R) (hs : InR (blsl seen) R) (hok : MineOk m) (hl : seen.l.length = m.places.l.length) :
    Tri Try.prog 58 [m.val, seen.val].toArray L R (fun w L' R' => ∃ p : OwL Bool, w = p.val ∧ p.ok 1 blc ∧ FromIs m seen.l p.l ∧ p.L 4 blc ++ L = L' ∧ R = R') := by
  have hro := hm.roads
  have hnp := hok.places
  have hnr := hok.roads
  refine tri_enter 49 Try.call58 Try.func58 rfl rfl rfl ?_
  refine qae ?_
  refine qax ?_
  intro b2
  refine qc4 ?_
  refine qam ?_
  refine qbm ?_
  refine LJ_g (gives_copy (f := blc) (xs := seen) tb rfl rfl rfl (by decide) rfl rfl (hs) (fun _ => rfl) (by omega)) rfl ?_
  rintro v L' R' ⟨o10, rfl, hok10, rfl, rfl⟩
  refine qc4 ?_
  refine qaw ?_
  refine qaz ?_
  refine qa2 ?_
  refine CJ_forget [(2, Value.pointer _), (5, Value.slice _ _ _), (6, Value.bool _)] (by repeat' (first | exact trivial | refine And.intro rfl ?_)) fun tq0 => ?_
  refine q_p [6, 7, 8, 11, 12, 13, 14, 15, 16, 17, 18, 19, 20, 21, 22, 23, 24, 25, 26, 27, 28, 29, 30, 31, 32, 33, 34, 35, 36, 37, 38, 39, 40, 41, 42, 43, 44, 45, 46, 47] ((⟨fun q => [(6, .bool q.1.1)], fun q => (⟨o10, q.1.2⟩ : OwL Bool).L 4 blc ++ (⟨b2, m.cells, 28⟩ :: L), fun _ => R, fun q => nFalse q.1.2 * 2 + (if q.1.1 = true then 1 else 0)⟩ : Head {q : Bool × List Bool // (⟨o10, q.2⟩ : OwL Bool).ok 1 blc ∧ FromTo m seen.l q.2 ∧ (q.1 = false → ∀ r ∈ m.roads.l, r.closed = false → q.2.getD r.fr.toNat false = q.2.getD r.to.toNat false)})) (⟨(true, seen.l), hok10, FromTo.init, fun h => by cases h⟩) ?_
  rintro ⟨⟨again, l0⟩, q1, q2, q3⟩ junk
  try dsimp only
  dsimp only at q1 q2 q3
  refine qbi ?_
  refine qah ?_
  refine qaf ?_
  refine q_c (fun hc0 => ?_) (fun hc0 => ?_)
  ·
   refine CJ_skip (seqK_normal (CJ_block (CJ_seq (CJ_region ?_))))
   refine qaz ?_
   refine qam ?_
   refine qad ?_
   refine qa2 ?_
   refine CJ_forgetW [6, 7, 8, 11, 12, 13, 14, 15, 16, 17, 18, 19, 20, 21, 22, 23, 24, 25, 26, 27, 28, 29, 30, 31, 32, 33, 34, 35, 36, 37, 38, 39, 40, 41, 42, 43, 44, 45, 46, 47] (by repeat (first | apply Off.upd rfl | apply Off.havoc rfl | refine Off.updL (t' := havoc _ _ _) rfl ?_ | exact Off.refl)) [(6, Value.bool _), (7, Value.int _ _)] (by repeat' (first | exact trivial | refine And.intro rfl ?_)) fun tq1 => ?_
   refine q_p [6, 7, 8, 12, 13, 14, 15, 16, 17, 18, 19, 20, 21, 22, 23, 24, 25, 26, 27, 28, 29, 30, 31, 32, 33, 34, 35, 36, 37, 38, 39, 40, 41, 42, 43, 44, 45, 46, 47] ((⟨fun q => [(7, .int .i64 ((q.1.1 : Nat) : Int)), (6, .bool q.1.2.1)], fun q => (⟨o10, q.1.2.2⟩ : OwL Bool).L 4 blc ++ (⟨b2, m.cells, 28⟩ :: L), fun _ => R, fun q => m.roads.l.length - q.1.1⟩ : Head {q : Nat × Bool × List Bool // q.1 ≤ m.roads.l.length ∧ (⟨o10, q.2.2⟩ : OwL Bool).ok 1 blc ∧ FromTo m seen.l q.2.2 ∧ (q.2.1 = true → nFalse q.2.2 < nFalse l0) ∧ (q.2.1 = false → q.2.2 = l0 ∧ ∀ (j : Nat) (r : XRoad), j < q.1 → m.roads.l[j]? = some r → r.closed = false → l0.getD r.fr.toNat false = l0.getD r.to.toNat false)})) (⟨(0, false, l0), by dsimp only; omega, q1, q2, (fun h => by cases h), fun _ => ⟨rfl, fun j r hj => by omega⟩⟩) ?_
   rintro ⟨⟨i, ch, l⟩, w1, w2, w3, w4, w5⟩ junk
   try dsimp only
   dsimp only at w1 w2 w3 w4 w5
   have hll := w3.len
   refine qbi ?_
   refine qaa ?_
   refine qab ?_
   refine qac ?_
   refine qag ?_
   refine qaj ?_
   refine qaf ?_
   refine q_c (fun hc1 => ?_) (fun hc1 => ?_)
   ·
    have hr0 := get_D (l := m.roads.l) (k := i) default (by omega)
    have hrk := hok.road i _ hr0
    obtain ⟨r, hrr0⟩ : ∃ r, r = m.roads.l.getD i default := ⟨_, rfl⟩
    rw [← hrr0] at hr0 hrk
    have hr1 := hrk.fr
    have hr2 := hrk.to
    have hr3 := hrk.ne
    have hgf := get_D (l := l) (k := r.fr.toNat) false (by omega)
    have hgt := get_D (l := l) (k := r.to.toNat) false (by omega)
    refine qbb ?_
    refine qab ?_
    refine qac ?_
    refine qaa ?_
    refine LJ_q (by first | exact yv_index_ro tb rfl rfl rfl rfl (by first | assumption | exact zr (by simp)) (i := i) (by first | rfl | omega | (simp; omega)) (by omega) | exact yv_index tb rfl rfl rfl rfl (i := i) (by first | rfl | omega | (simp; omega)) (by omega)) rfl ?_
    refine qc8 ?_
    refine qaq ?_
    intro b8
    refine qak ?_
    refine qa4 ?_
    refine CJ_drawn tb [0, 1, 2, 3, 4, 5, 6, 7, 8, 9, 10, 11, 12, 13, 14, 15] ([Blk.mk b8 _ _] ++ ((⟨o10, l⟩ : OwL Bool).L 4 blc ++ [])) mixed (by kernel_rfl) (by repeat (first | exact zs0 _ | exact zs1 _ | apply zs2 | apply zs3 | apply zs4 | apply zs5)) ?_
    refine qal ?_
    refine qat ?_
    refine DJ_q (yv_not rfl) rfl rfl rfl ?_
    refine qb2 ?_
    refine DJ_case (k := 27) (show _ = Value.bool _ from rfl) (fun hg3 => ?_) (fun hg3 => ?_)
    ·
     replace hg3 := qb hg3
     refine DJ_q (yv_move (show _ = Value.slice _ _ _ from rfl)) rfl rfl rfl ?_
     refine qal ?_
     refine qat ?_
     refine DJ_q (yv_index_ow tb ((⟨o10, l⟩ : OwL Bool)) _ rfl rfl ((show _ = Value.slice _ _ _ from rfl).trans (by simp only [OwL.val, hll])) rfl (by assumption) (i := r.fr.toNat) (by first | rfl | omega | (simp; omega)) (by first | omega | (dsimp only; omega) | (dsimp only; rw [List.length_set]; omega))) rfl rfl rfl ?_
     refine DJ_q (yv_load1_ow tb ((⟨o10, l⟩ : OwL Bool)) rfl rfl rfl (by repeat (first | apply OSeg.cons | exact OSeg.here | exact OSeg.last | exact OSeg.at (by assumption) | apply OSeg.app)) (by assumption) (fun _ => rfl) (by assumption) (by rfl)) rfl rfl rfl ?_
     refine DJ_q (yv_move (show _ = Value.slice _ _ _ from rfl)) rfl rfl rfl ?_
     refine qal ?_
     refine qat ?_
     refine DJ_q (yv_index_ow tb ((⟨o10, l⟩ : OwL Bool)) _ rfl rfl ((show _ = Value.slice _ _ _ from rfl).trans (by simp only [OwL.val, hll])) rfl (by assumption) (i := r.to.toNat) (by first | rfl | omega | (simp; omega)) (by first | omega | (dsimp only; omega) | (dsimp only; rw [List.length_set]; omega))) rfl rfl rfl ?_
     refine DJ_q (yv_load1_ow tb ((⟨o10, l⟩ : OwL Bool)) rfl rfl rfl (by repeat (first | apply OSeg.cons | exact OSeg.here | exact OSeg.last | exact OSeg.at (by assumption) | apply OSeg.app)) (by assumption) (fun _ => rfl) (by assumption) (by rfl)) rfl rfl rfl ?_
     refine DJ_q (yv_neq_bool tb rfl rfl rfl) rfl rfl rfl ?_
     refine qbp ?_
     refine qbu ?_
     refine q_c (fun hc2 => ?_) (fun hc2 => ?_)
     ·
      refine CJ_drawn2 tb [43, 44, 45] [0, 1, 2, 3, 4, 5, 6] [7, 8, 9, 10] ([Blk.mk b8 _ _]) _ mixed (by kernel_rfl) (by repeat (first | exact zs0 _ | exact zs1 _ | apply zs2 | apply zs3 | apply zs4 | apply zs5)) (List.Sublist.refl _) ?_
      refine qct ?_
      refine qan ?_
      refine qau ?_
      refine DJ3_ql (yv_move (show _ = Value.slice _ _ _ from rfl)) rfl rfl rfl rfl ?_
      refine qcp ?_
      refine qcu ?_
      refine DJ3_q (yv_index_ow tb ((⟨o10, l⟩ : OwL Bool)) _ rfl rfl ((show _ = Value.slice _ _ _ from rfl).trans (by simp only [OwL.val, hll])) rfl (by assumption) (i := r.fr.toNat) (by first | rfl | omega | (simp; omega)) (by first | omega | (dsimp only; omega) | (dsimp only; rw [List.length_set]; omega))) rfl rfl rfl rfl ?_
      refine qba ?_
      refine DJ_g0 (gives_store1_ow tb ((⟨o10, l⟩ : OwL Bool)) (true) rfl rfl rfl rfl (by repeat (first | apply OSeg.cons | exact OSeg.here | exact OSeg.last | exact OSeg.at (by assumption) | apply OSeg.app)) (by assumption) (fun _ => rfl) (by assumption) (by decide) (by rfl) (by rfl)) rfl rfl ?_
      rintro v L' R' ⟨rfl, rfl⟩
      refine qa1 ?_
      refine DJ_q (yv_index_ow tb ((⟨o10, l⟩ : OwL Bool)) _ rfl rfl ((show _ = Value.slice _ _ _ from rfl).trans (by simp only [OwL.val, hll])) rfl (by assumption) (i := r.to.toNat) (by first | rfl | omega | (simp; omega)) (by first | omega | (dsimp only; omega) | (dsimp only; rw [List.length_set]; omega))) rfl rfl rfl ?_
      have hq3 : (l.set r.fr.toNat true)[r.to.toNat]? = some (l.getD r.to.toNat false) := by rw [List.getElem?_set_ne (by omega)]; exact hgt
      have hk3 : (⟨o10, l.set r.fr.toNat true⟩ : OwL Bool).ok 1 blc := OwL.len_ok blc_len w2 (by simp)
      refine DJ_g0 (gives_store1_ow tb ((⟨o10, l.set r.fr.toNat true⟩ : OwL Bool)) (true) rfl rfl rfl rfl (by repeat (first | apply OSeg.cons | exact OSeg.here | exact OSeg.last | exact OSeg.at (by assumption) | apply OSeg.app)) (by assumption) (fun _ => rfl) (by assumption) (by decide) (by rfl) (by rfl)) rfl rfl ?_
      rintro v L' R' ⟨rfl, rfl⟩
      refine qa1 ?_
      refine DJ_q (yv_assign (show _ = Value.bool _ from rfl)) rfl rfl rfl ?_
      refine qby ?_
      refine qaa ?_
      refine qar ?_
      refine qad ?_
      refine qav ?_
      have hne : l.getD r.fr.toNat false ≠ l.getD r.to.toNat false := by simpa using hc2
      have hcl : r.closed = false := by simpa using hg3
      have hst : Step m r.fr.toNat r.to.toNat := ⟨r, List.mem_of_getElem? hr0, hcl, .inl ⟨by omega, by omega⟩⟩
      have hlt := nFalse_two (l := l) (u := r.fr.toNat) (v := r.to.toNat) (by omega) (by omega) hne
      have hle : nFalse l ≤ nFalse l0 := by
        cases ch with
        | true => have := w4 rfl; omega
        | false => rw [(w5 rfl).1]; exact Nat.le_refl _
      exact q_k ⟨(i + 1, true, (l.set r.fr.toNat true).set r.to.toNat true), by dsimp only; omega, OwL.len_ok blc_len w2 (by simp), w3.next hst (by omega) (by omega) hne, fun _ => by dsimp only; omega, fun h => by cases h⟩
     ·
      refine qbj ?_
      refine qaa ?_
      refine qar ?_
      refine qad ?_
      refine qav ?_
      have hag : r.closed = false → l.getD r.fr.toNat false = l.getD r.to.toNat false := by
        intro hcc
        first
          | (simpa using hc2)
          | (simp [hcc] at hg3)
      exact loopK_mk ⟨(i + 1, ch, l), by dsimp only; omega, w2, w3, w4, fun h => ⟨(w5 h).1, fun j r2 hj hj2 hjc => by
        rcases Nat.lt_or_ge j i with h1 | h1
        · exact (w5 h).2 j r2 h1 hj2 hjc
        · obtain rfl : j = i := by omega
          rw [hr0] at hj2
          cases hj2
          rw [← (w5 h).1]
          exact hag hjc⟩⟩ (by repeat (first | exact Off.refl | apply Off.upd rfl | apply Off.havoc rfl | apply Off.updL rfl | apply Off.left rfl)) (by repeat' (first | exact trivial | refine And.intro rfl ?_)) (by repeat (first | exact zs0 _ | exact zs1 _ | apply zs2 | apply zs3 | apply zs4 | apply zs5)) (allR_self _) (by dsimp only; omega)
    ·
     replace hg3 := qb hg3
     refine qap ?_
     refine qap ?_
     refine qap ?_
     refine qap ?_
     refine qap ?_
     refine qap ?_
     refine qap ?_
     refine qap ?_
     refine qap ?_
     refine qap ?_
     refine qap ?_
     refine qbp ?_
     refine qbu ?_
     refine CJ_cond_false rfl ?_
     refine qbj ?_
     refine qaa ?_
     refine qar ?_
     refine qad ?_
     refine qav ?_
     have hag : r.closed = false → l.getD r.fr.toNat false = l.getD r.to.toNat false := by
       intro hcc
       first
         | (simpa using hc2)
         | (simp [hcc] at hg3)
     exact loopK_mk ⟨(i + 1, ch, l), by dsimp only; omega, w2, w3, w4, fun h => ⟨(w5 h).1, fun j r2 hj hj2 hjc => by
       rcases Nat.lt_or_ge j i with h1 | h1
       · exact (w5 h).2 j r2 h1 hj2 hjc
       · obtain rfl : j = i := by omega
         rw [hr0] at hj2
         cases hj2
         rw [← (w5 h).1]
         exact hag hjc⟩⟩ (by repeat (first | exact Off.refl | apply Off.upd rfl | apply Off.havoc rfl | apply Off.updL rfl | apply Off.left rfl)) (by repeat' (first | exact trivial | refine And.intro rfl ?_)) (by repeat (first | exact zs0 _ | exact zs1 _ | apply zs2 | apply zs3 | apply zs4 | apply zs5)) (allR_self _) (by dsimp only; omega)
   ·
    obtain rfl : i = m.roads.l.length := by omega
    have hmeas : nFalse l * 2 + (if ch = true then 1 else 0) < nFalse l0 * 2 + (if again = true then 1 else 0) := by
      rw [if_pos hc0]
      cases ch with
      | true => have := w4 rfl; simp; omega
      | false => rw [(w5 rfl).1]; simp
    refine CJ_exit (seqK_exit (loopK_exit (blockK_exit (blockK_normal ?_))))
    exact loopK_mk ⟨(ch, l), w2, w3, fun h r hr hcc => by obtain ⟨j, hj⟩ := List.mem_iff_getElem?.1 hr; rw [(w5 h).1]; exact (w5 h).2 j r (List.getElem?_eq_some_iff.1 hj).1 hj hcc⟩ (by repeat (first | exact Off.refl | apply Off.upd rfl | apply Off.havoc rfl | apply Off.updL rfl | apply Off.left rfl)) (by repeat' (first | exact trivial | refine And.intro rfl ?_)) (by repeat (first | exact zs0 _ | exact zs1 _ | apply zs2 | apply zs3 | apply zs4 | apply zs5)) (allR_self _) hmeas
  ·
   have hll := q2.len
   refine qbk ?_
   refine qbm ?_
   refine qc4 ?_
   refine qa0 ?_
   refine q_r (L' := (⟨o10, l0⟩ : OwL Bool).L 4 blc ++ L) (R' := R) (res1 rfl (rv_tmp (show _ = Value.slice _ _ _ from rfl))) ?_
   exact ⟨⟨o10, l0⟩, by simp only [OwL.val, hll], q1, q2.done (q3 (by simpa using hc0)), rfl, rfl⟩

theorem from_lent {m : XMine} {p : OwL Bool} {A : List Blk} {R : List Sl} (hin : InB (p.L 4 blc) A) (hk : p.ok 1 blc) (hm : MineR m R) (hok : MineOk m) (hl : p.l.length = m.places.l.length) :
    Tri Try.prog 58 [m.val, p.val].toArray A R (fun w L' R' => ∃ q : OwL Bool, w = q.val ∧ q.ok 1 blc ∧ FromIs m p.l q.l ∧ A ++ q.L 4 blc = L' ∧ R = R') := by
  have h := refFrom_tri m p.arr [] ([blsl p.arr] ++ R) ⟨hm.places.mono fun r h => inR_self (.tail _ h), hm.roads.mono fun r h => inR_self (.tail _ h)⟩ (inR_self (.head _)) hok hl
  have h2 := Tri.lend (S := [blsl p.arr]) (Post := fun v L' => ∃ q : OwL Bool, v = q.val ∧ q.ok 1 blc ∧ FromIs m p.l q.l ∧ q.L 4 blc ++ [] = L') (Spl.rest (L := A)) (fun w G hh s hs => by
    rw [List.mem_singleton.1 hs]
    exact lend_rep hh hin hk blc_len (by decide) (fun s hs => by cases hs)) (h.mono fun v L' R' ⟨q, a1, a2, a3, a4, a5⟩ => ⟨⟨q, a1, a2, a3, a4⟩, a5⟩)
  exact h2.mono fun v L'' R' ⟨L', e, ⟨q, a1, a2, a3, a4⟩, a5⟩ => ⟨q, a1, a2, a3, by rw [← a4, List.append_nil] at e; exact e, a5⟩

theorem airy_tri (m : XMine) (L : List Blk) (R : List Sl) (hm : MineR m R) (hok : MineOk m) :
    Tri Try.prog 19 [m.val].toArray L R (fun w L' R' => ∃ p : OwL Bool, w = p.val ∧ p.ok 1 blc ∧ AiryIs m p.l ∧ L ++ p.L 4 blc = L' ∧ R = R') := by
  have hpl := hm.places
  have hnp := hok.places
  refine tri_enter 28 Try.call19 Try.func19 rfl rfl rfl ?_
  refine qae ?_
  refine qax ?_
  intro b1
  refine qc4 ?_
  refine qam ?_
  refine qab ?_
  refine qac ?_
  refine qag ?_
  refine qc7 ?_
  rintro v L' R' ⟨b8, rfl, rfl, hR8⟩
  replace hR8 := hR8.symm; subst hR8
  refine qc4 ?_
  refine qaw ?_
  refine qad ?_
  refine qa2 ?_
  refine CJ_forget [(1, Value.pointer _), (3, Value.slice _ _ _), (4, Value.int _ _)] (by repeat' (first | exact trivial | refine And.intro rfl ?_)) fun tq0 => ?_
  refine CJ_L (made_ow (f := blc) (x := false) rfl _) ?_
  refine q_p [4, 9, 10, 11, 12, 13, 14, 15, 16, 17, 18, 19, 20, 21, 22, 23, 24] ((⟨fun q => [(4, .int .i64 ((q.1.1 : Nat) : Int))], fun q => (⟨.own b8 m.places.l.length [], q.1.2⟩ : OwL Bool).L 4 blc ++ (⟨b1, m.cells, 28⟩ :: L), fun _ => R, fun q => m.places.l.length - q.1.1⟩ : Head {q : Nat × List Bool // q.1 ≤ m.places.l.length ∧ q.2.length = m.places.l.length ∧ ∀ (j : Nat) (p : XPlace), j < q.1 → m.places.l[j]? = some p → q.2[j]? = some p.surface})) (⟨(0, List.replicate m.places.l.length false), by dsimp only; omega, by simp, fun j p hj => by omega⟩) ?_
  rintro ⟨⟨i, l⟩, q1, hll, q3⟩ junk
  try dsimp only
  dsimp only at q1 hll q3
  have hkl : (⟨.own b8 m.places.l.length [], l⟩ : OwL Bool).ok 1 blc := by have := made_ok (f := blc) (wd := 1) (b := b8) (n := m.places.l.length) (x := false) blc_len (by simp only [maxLen]; omega); exact OwL.len_ok blc_len this (by simp; exact hll)
  refine qbi ?_
  refine qaa ?_
  refine qab ?_
  refine qac ?_
  refine qag ?_
  refine qaj ?_
  refine qaf ?_
  refine q_c (fun hc0 => ?_) (fun hc0 => ?_)
  ·
   have hpg := get_D (l := m.places.l) (k := i) default (by omega)
   have hlg := get_D (l := l) (k := i) false (by omega)
   refine CJ_skip (seqK_normal (CJ_seq (CJ_block (CJ_region ?_))))
   refine qbm ?_
   refine qaa ?_
   refine qab ?_
   refine qac ?_
   refine qaa ?_
   refine LJ_q (by first | exact yv_index_ro tb rfl rfl rfl rfl (by first | assumption | exact zr (by simp)) (i := i) (by first | rfl | omega | (simp; omega)) (by omega) | exact yv_index tb rfl rfl rfl rfl (i := i) (by first | rfl | omega | (simp; omega)) (by omega)) rfl ?_
   refine qb0 ?_
   refine qa7 ?_
   refine LJ_q (yv_index_ow tb ((⟨.own b8 m.places.l.length [], l⟩ : OwL Bool)) _ rfl rfl ((show _ = Value.slice _ _ _ from rfl).trans (own_val hll)) rfl (by assumption) (i := i) (by first | rfl | omega | (simp; omega)) (by first | omega | (dsimp only; omega) | (dsimp only; rw [List.length_set]; omega))) rfl ?_
   refine LJ_g0 (gives_store1_ow tb ((⟨.own b8 m.places.l.length [], l⟩ : OwL Bool)) ((m.places.l.getD i default).surface) rfl rfl rfl rfl (by repeat (first | apply OSeg.cons | exact OSeg.here | exact OSeg.last | exact OSeg.at (by assumption) | apply OSeg.app)) (by assumption) (fun _ => rfl) (by assumption) (by decide) (by rfl) (by rfl)) ?_
   rintro v L' R' ⟨rfl, rfl⟩
   refine qcs ?_
   refine qaa ?_
   refine qar ?_
   refine qad ?_
   refine qav ?_
   exact loopK_mk ⟨(i + 1, l.set i (m.places.l.getD i default).surface), by dsimp only; omega, by simp; exact hll, fun j p hj hp => by
   rw [List.getElem?_set]
   split
   · rename_i e; subst e; rw [if_pos (by omega)]; rw [hpg] at hp; cases hp; rfl
   · rename_i e; exact q3 j p (by dsimp only at hj; omega) hp⟩ (by repeat (first | exact Off.refl | apply Off.upd rfl | apply Off.havoc rfl | apply Off.updL rfl | apply Off.left rfl)) (by repeat' (first | exact trivial | refine And.intro rfl ?_)) (by repeat (first | exact zs0 _ | exact zs1 _ | apply zs2 | apply zs3 | apply zs4 | apply zs5)) (allR_self _) (by dsimp only; omega)
  ·
   obtain rfl : i = m.places.l.length := by omega
   have hsf : l = surf m := by
     refine List.ext_getElem? fun j => ?_
     rcases Nat.lt_or_ge j m.places.l.length with h | h
     · have hp := get_D (l := m.places.l) (k := j) default h
       rw [q3 j _ h hp, surf, List.getElem?_map, hp]; rfl
     · rw [List.getElem?_eq_none (by omega), List.getElem?_eq_none (by simp [surf]; exact h)]
   refine qbk ?_
   refine qbe ?_
   refine qbm ?_
   refine LJ_call rfl (Tri.cast (from_lent (p := (⟨.own b8 m.places.l.length [], l⟩ : OwL Bool)) (by repeat (first | exact inB_here | apply inB_cons | apply inB_app)) hkl hm hok hll) (by show #[_, Value.slice _ (List.length _) _] = _; rw [hll]; rfl)) rfl ?_
   rintro v L' R' ⟨p, rfl, hp, hF, rfl, rfl⟩
   simp only [List.append_assoc, List.cons_append, List.nil_append]
   refine qc4 ?_
   refine qa0 ?_
   refine q_r (L' := L ++ p.L 4 blc) (R' := R) (res1 rfl (rv_tmp (show _ = Value.slice _ _ _ from rfl))) ?_
   exact ⟨p, rfl, hp, by rw [hsf] at hF; exact hF, rfl, rfl⟩
end Go.Proofs.Ytjjfpglgonpciaa
