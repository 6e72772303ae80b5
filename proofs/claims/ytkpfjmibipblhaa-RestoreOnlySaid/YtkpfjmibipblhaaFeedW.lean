/-
  The draws: a power network. By an AI agent; no person has read it.
-/
import Derived.Test.YtkpfjmibipblhaaFeedP
import Derived.Test.YtkpfjmibipblhaaSiteD
set_option linter.unusedSimpArgs false
set_option linter.unusedVariables false
namespace Go.Proofs.Ytkpfjmibipblhaa
open Go.Aw Go
set_option maxRecDepth 20000
attribute [local irreducible] CJ LJ DJ Tri YV Gives seqK blockK loopK retK RV mergeK OwL.L
section
variable {A9 B9 : Prop}
theorem yckaa (a : A9) (h : A9 → B9 := by exact LJ_q (yv_index_ow tb ((⟨.own b42 p.l.length [], fr⟩ : OwL Bool)) _ rfl rfl ((show _ = Value.slice _ _ _ from rfl).trans (own_val hfl)) rfl (by assumption) (i := m.toNat) (by first | rfl | omega | (simp; omega)) (by first | omega | (dsimp only; omega) | (dsimp only; rw [List.length_set]; omega) | (dsimp only; simp only [List.length_set]; omega))) rfl) : B9 := h a
end
theorem count_set {l : List Bool} : ∀ {k : Nat}, l[k]? = some false → (l.set k true).count true = l.count true + 1 := by
  induction l with
  | nil => intro k h; simp at h
  | cons b l ih =>
    intro k h
    cases k with
    | zero =>
      simp only [List.getElem?_cons_zero, Option.some.injEq] at h
      subst h
      simp
    | succ k =>
      simp only [List.getElem?_cons_succ] at h
      simp only [List.set_cons_succ, List.count_cons, ih h]
      omega
theorem count_free {l : List Bool} (h : l.count true < l.length) : ∃ j : Nat, l[j]? = some false := by
  induction l with
  | nil => simp at h
  | cons b l ih =>
    cases b with
    | false => exact ⟨0, rfl⟩
    | true =>
      simp only [List.count_cons_self, List.length_cons] at h
      obtain ⟨j, hj⟩ := ih (by omega)
      exact ⟨j + 1, hj⟩
theorem step_less {m m2 jf n : Int} (hm : 0 ≤ m ∧ m < n) (hj : 0 ≤ jf ∧ jf < n) (hne : m ≠ jf) (h : m2 = if m + 1 = n then 0 else m + 1) : (if m2 ≤ jf then jf - m2 else jf - m2 + n).toNat < (if m ≤ jf then jf - m else jf - m + n).toNat := by
  split at h <;> (repeat' split) <;> omega
theorem drawFeeder_tri (c : Nat) (x : Arr Int) (k : Nat) (n : Nat) (R : List Sl) (hx : CodesR x R) (hk : k ≤ x.l.length) (hn : n ≤ 16) :
    Tri Try.prog 74 [.pointer (some ⟨c, 0, none⟩), .int .i64 n].toArray [cblk c x k] R
      (fun v L' R' => ∃ (p : OwL XSwitch) (q : OwL Int) (rp : Int) (k' : Nat), v = .agg #[p.val, q.val, .int .i64 rp] ∧ (p.ok 5 XSwitch.cells ∧ q.ok 1 icell) ∧ p.l.length ≤ 18 ∧ q.l.length = n ∧ k' ≤ x.l.length ∧ q.L 3 icell ++ (p.L 98 XSwitch.cells ++ (cblk c x k' :: [])) = L' ∧ R = R') := by
  refine tri_enter 72 Try.call74 Try.func74 rfl rfl rfl ?_
  refine qae ?_
  refine qaq ?_
  intro b4
  refine qam ?_
  refine qa6 ?_
  refine LJ_call rfl (range1 (by repeat (first | apply USeg.here | apply USeg.cons | apply USeg.app)) hx hk (by omega)) rfl ?_
  rintro v L' R' ⟨rp, k1, rfl, g1, g1', hk1, rfl, rfl⟩
  refine LJ_q (yv_build (qs := [(2, (Value.int _ _).cells.toList)]) (out := [_, _, _]) tb rfl rfl rfl rfl) rfl ?_
  refine qaq ?_
  intro b5
  refine qak ?_
  refine qam ?_
  refine qaa ?_
  refine qa6 ?_
  refine LJ_call rfl (next1 (by repeat (first | apply USeg.here | apply USeg.cons | apply USeg.app)) hx hk1 (by omega)) rfl ?_
  rintro v L' R' ⟨n0, k2, rfl, g2, g2', g2'', hk2, rfl, rfl⟩
  have g2q := g2' (by omega)
  refine qar ?_
  refine qad ?_
  refine qaw ?_
  refine qad ?_
  refine qa2 ?_
  refine CJ_forget [(0, Value.pointer _), (1, Value.int _ _), (4, Value.pointer _), (5, Value.pointer _), (6, Value.int _ _), (7, Value.int _ _)] (by repeat' (first | exact trivial | refine And.intro rfl ?_)) fun tq0 => ?_
  refine CJ_loop [7, 18, 19, 20, 21, 22, 23, 24, 25, 26, 27, 28, 29, 30, 31, 32, 33, 34, 35, 36, 37, 38] ((⟨fun g => [(7, .int .i64 ((g.1.1 : Nat) : Int))], fun g => ⟨b5, [g.1.2.1.val, .slice none 0 0, .int .i64 rp], 71⟩ :: (g.1.2.1.L 98 XSwitch.cells ++ (⟨b4, [.slice none 0 0, .slice none 0 0, .int .i64 0], 71⟩ :: cblk c x g.1.2.2 :: [])), fun _ => R, fun g => 18 - g.1.1⟩ : Head {g : Nat × OwL XSwitch × Nat // ((g.1 : Int) ≤ max ((n : Int) + n0) 1 ∧ g.2.1.l.length = g.1) ∧ g.2.1.ok 5 XSwitch.cells ∧ g.2.2 ≤ x.l.length})) (⟨(0, OwL.nil, k2), ⟨by dsimp only; omega, rfl⟩, OwL.nil_ok, hk2⟩) (by repeat' (first | exact trivial | refine And.intro rfl ?_)) (by dsimp only; rw [nil_L, List.nil_append]; exact List.Sublist.refl _) (allR_self _) ?_
  rintro ⟨⟨i, p, k3⟩, ⟨hi, hpn⟩, hpk, hk3⟩ junk
  try dsimp only
  dsimp only at hi hpn hpk hk3
  refine qbi ?_
  refine qaa ?_
  refine qaa ?_
  refine LJ_q (yv_max2 rfl rfl) rfl ?_
  refine qaj ?_
  refine qaf ?_
  refine q_c (fun hc0 => ?_) (fun hc0 => ?_)
  ·
   refine CJ_skip (seqK_normal (CJ_seq (CJ_block ?_)))
   refine CJ_drawn2 tb [] [0, 1, 2, 3, 4, 7, 9, 5, 6, 8, 10, 11, 12] [13, 14, 15] ([Blk.mk b5 _ _]) _ mixed (by kernel_rfl) (by repeat (first | exact zs0 _ | exact zs1 _ | apply zs2 | apply zs3 | apply zs4 | apply zs5)) (List.nil_sublist _) ?_
   refine qan ?_
   refine qau ?_
   refine qb3 ?_
   refine qbf ?_
   refine qcj ?_
   refine qb3 ?_
   refine qb3 ?_
   refine DJ3_call rfl (next1 (by repeat (first | apply USeg.here | apply USeg.cons | apply USeg.app)) hx hk3 (by omega)) rfl rfl ?_
   rintro v L' R' ⟨r1, k4, rfl, f1, f1', f1'', hk4, rfl, rfl⟩
   refine qas ?_
   have f1q := f1' (by omega)
   refine qcc ?_
   refine DJ3_call rfl (one1 (by repeat (first | apply USeg.here | apply USeg.cons | apply USeg.app)) hx hk4 (by omega)) rfl rfl ?_
   rintro v L' R' ⟨bo, k5, rfl, hk5, rfl, rfl⟩
   refine qas ?_
   refine DJ3_call rfl (truth1 (by repeat (first | apply USeg.here | apply USeg.cons | apply USeg.app)) hx hk5) rfl rfl ?_
   rintro v L' R' ⟨r2, k6, rfl, f2, hk6, rfl, rfl⟩
   refine qas ?_
   refine DJ3_q (yv_build (qs := [(0, (Value.int _ _).cells.toList), (3, (Value.bool _).cells.toList), (2, (Value.int _ _).cells.toList), (1, (Value.int _ _).cells.toList)]) (out := [_, _, _, _, _]) tb rfl rfl rfl rfl) rfl rfl rfl rfl ?_
   refine DJ3_g (gives_buildSlice (qs := [(0, (Value.agg _).cells.toList)]) (out := [_, _, _, _, _]) tb rfl rfl rfl rfl rfl rfl rfl) rfl rfl rfl ?_
   rintro v L' R' ⟨b36, rfl, rfl, hR36⟩
   replace hR36 := hR36.symm; subst hR36
   refine qa1 ?_
   refine qba ?_
   refine DJ_g (gives_append1 (f := XSwitch.cells) (p := p) (a := ⟨r1 - 1, 0, r2, bo, false⟩) tb rfl rfl rfl rfl (hpk) (by repeat (first | apply OSeg.cons | exact OSeg.here | exact OSeg.last | exact OSeg.at (by assumption) | apply OSeg.app)) (shown_own (by repeat (first | exact zi0 | apply zi1 | apply zi2)) rfl rfl) rfl (by first | omega | (simp only [List.length_cons, List.length_nil, List.length_append]; omega))) rfl rfl rfl ?_
   rintro v L' R' ⟨o37, rfl, hok37, rfl, rfl⟩
   refine qa1 ?_
   refine qal ?_
   refine qbw ?_
   refine qby ?_
   refine qaa ?_
   refine qar ?_
   refine qad ?_
   refine qav ?_
   exact q_k ⟨(i + 1, (⟨o37, p.l ++ [⟨r1 - 1, 0, r2, bo, false⟩]⟩ : OwL XSwitch), k6), ⟨by dsimp only; omega, by dsimp only; rw [List.length_append, List.length_singleton]; omega⟩, hok37, hk6⟩
  have hpl : 1 ≤ p.l.length ∧ n ≤ p.l.length ∧ p.l.length ≤ 18 := by omega
  refine qbk ?_
  refine qab ?_
  refine qac ?_
  refine qag ?_
  refine qc7 ?_
  rintro v L' R' ⟨b42, rfl, rfl, hR42⟩
  replace hR42 := hR42.symm; subst hR42
  refine qc4 ?_
  refine qaw ?_
  refine qad ?_
  refine qa2 ?_
  refine CJ_forget [(0, Value.pointer _), (1, Value.int _ _), (4, Value.pointer _), (5, Value.pointer _), (8, Value.slice _ _ _), (9, Value.int _ _)] (by repeat' (first | exact trivial | refine And.intro rfl ?_)) fun tq1 => ?_
  refine CJ_L (made_ow (f := blc) (x := false) rfl _) ?_
  refine CJ_loop [9, 10, 43, 44, 45, 46, 47, 48, 49, 50, 51, 52, 53, 54, 55, 56, 57, 58, 59, 60, 61, 62, 63, 64, 65, 66, 67, 68, 69, 70] ((⟨fun g => [(9, .int .i64 ((g.1.1 : Nat) : Int))], fun g => (⟨.own b42 p.l.length [], g.1.2.2.1⟩ : OwL Bool).L 4 blc ++ (⟨b5, [p.val, g.1.2.1.val, .int .i64 rp], 71⟩ :: (g.1.2.1.L 3 icell ++ (p.L 98 XSwitch.cells ++ (⟨b4, [.slice none 0 0, .slice none 0 0, .int .i64 0], 71⟩ :: cblk c x g.1.2.2.2 :: [])))), fun _ => R, fun g => n - g.1.1⟩ : Head {g : Nat × OwL Int × List Bool × Nat // (g.1 ≤ n ∧ g.2.1.l.length = g.1) ∧ g.2.1.ok 1 icell ∧ (g.2.2.1.length = p.l.length ∧ g.2.2.1.count true = g.1) ∧ g.2.2.2 ≤ x.l.length})) (⟨(0, OwL.nil, List.replicate p.l.length false, k3), ⟨by dsimp only; omega, rfl⟩, OwL.nil_ok, ⟨by dsimp only; rw [List.length_replicate], by simp [List.count_replicate]⟩, hk3⟩) (by repeat' (first | exact trivial | refine And.intro rfl ?_)) (by dsimp only; rw [nil_L, List.nil_append]; exact List.Sublist.refl _) (allR_self _) ?_
  rintro ⟨⟨j, q, fr, k4⟩, ⟨hj, hqn⟩, hqk, ⟨hfl, hfc⟩, hk4⟩ junk
  try dsimp only
  dsimp only at hj hqn hqk hfl hfc hk4
  have hfk : (⟨.own b42 p.l.length [], fr⟩ : OwL Bool).ok 1 blc := by have := made_ok (f := blc) (wd := 1) (b := b42) (n := p.l.length) (x := false) blc_len (by simp only [maxLen]; omega); exact OwL.len_ok blc_len this (by simp; exact hfl)
  refine qbi ?_
  refine qaa ?_
  refine qaa ?_
  refine qaj ?_
  refine qaf ?_
  refine q_c (fun hc1 => ?_) (fun hc1 => ?_)
  ·
   obtain ⟨jf, hjf⟩ := count_free (l := fr) (by omega)
   refine qbb ?_
   refine qa6 ?_
   refine qab ?_
   refine qac ?_
   refine qag ?_
   refine LJ_call rfl (next1 (by repeat (first | apply USeg.here | apply USeg.cons | apply USeg.app)) hx hk4 (by omega)) rfl ?_
   rintro v L' R' ⟨m0, k5, rfl, e1, e1', e1'', hk5, rfl, rfl⟩
   have e1q := e1' (by omega)
   refine qad ?_
   refine LJ_nil (seqK_normal (CJ_seq (CJ_block ?_)))
   refine CJ_forgetW [9, 10, 43, 44, 45, 46, 47, 48, 49, 50, 51, 52, 53, 54, 55, 56, 57, 58, 59, 60, 61, 62, 63, 64, 65, 66, 67, 68, 69, 70] (by repeat (first | apply Off.upd rfl | apply Off.havoc rfl | refine Off.updL (t' := havoc _ _ _) rfl ?_ | exact Off.refl)) [(9, Value.int _ _), (10, Value.int _ _)] (by repeat' (first | exact trivial | refine And.intro rfl ?_)) fun tq2 => ?_
   refine q_p [10, 53, 54, 55, 56, 57, 58, 59, 60, 61] ((⟨fun g => [(10, .int .i64 g.1)], fun _ => (⟨.own b42 p.l.length [], fr⟩ : OwL Bool).L 4 blc ++ (⟨b5, [p.val, q.val, .int .i64 rp], 71⟩ :: (q.L 3 icell ++ (p.L 98 XSwitch.cells ++ (⟨b4, [.slice none 0 0, .slice none 0 0, .int .i64 0], 71⟩ :: cblk c x k5 :: [])))), fun _ => R, fun g => (if g.1 ≤ jf then (jf : Int) - g.1 else (jf : Int) - g.1 + p.l.length).toNat⟩ : Head {m : Int // 0 ≤ m ∧ m < p.l.length})) (⟨m0, by omega⟩) ?_
   rintro ⟨m, hm⟩ junk
   try dsimp only
   have hmg := get_D (l := fr) (k := m.toNat) false (by omega)
   have htm : (m + 1).tmod (p.l.length : Int) = if m + 1 = p.l.length then 0 else m + 1 := by
     rw [Int.tmod_eq_emod_of_nonneg (by omega)]
     split
     · rename_i h; rw [h, Int.emod_self]
     · exact Int.emod_eq_of_lt (by omega) (by omega)
   refine qbi ?_
   refine qbm ?_
   refine qaa ?_
   refine yckaa ?_
   refine LJ_q (yv_load1_ow tb ((⟨.own b42 p.l.length [], fr⟩ : OwL Bool)) rfl rfl rfl (by repeat (first | apply OSeg.cons | exact OSeg.here | exact OSeg.last | exact OSeg.at (by assumption) | apply OSeg.app)) (by assumption) (fun _ => rfl) (by assumption) (by rfl)) rfl ?_
   refine qaf ?_
   refine q_c (fun hc2 => ?_) (fun hc2 => ?_)
   ·
    have hne : m ≠ jf := fun h => by subst h; rw [Int.toNat_natCast] at hmg hc2; rw [hjf, hc2] at hmg; cases hmg
    refine CJ_skip (seqK_normal (CJ_block (CJ_region ?_)))
    refine qaa ?_
    refine qar ?_
    refine qbm ?_
    refine qag ?_
    refine qda ?_
    refine qad ?_
    refine LJ_nil (blockK_normal ?_)
    exact loopK_mk ⟨(m + 1).tmod (p.l.length : Int), by rw [htm]; split <;> omega⟩ (by repeat (first | exact Off.refl | apply Off.upd rfl | apply Off.havoc rfl | apply Off.updL rfl | apply Off.left rfl)) (by repeat' (first | exact trivial | refine And.intro rfl ?_)) (by repeat (first | exact zs0 _ | exact zs1 _ | apply zs2 | apply zs3 | apply zs4 | apply zs5)) (allR_self _) (by have hjl := (List.getElem?_eq_some_iff.1 hjf).1; exact step_less hm ⟨by omega, by omega⟩ hne htm)
   refine qbk ?_
   refine qbm ?_
   refine qaa ?_
   refine yckaa ?_
   refine LJ_g0 (gives_store1_ow tb ((⟨.own b42 p.l.length [], fr⟩ : OwL Bool)) (true) rfl rfl rfl rfl (by repeat (first | apply OSeg.cons | exact OSeg.here | exact OSeg.last | exact OSeg.at (by assumption) | apply OSeg.app)) (by assumption) (fun _ => rfl) (by assumption) (by decide) (by rfl) (by rfl)) ?_
   rintro v L' R' ⟨rfl, rfl⟩
   refine LJ_nil (seqK_normal (CJ_region ?_))
   refine qab ?_
   refine qac ?_
   refine qaa ?_
   refine qcx ?_
   rintro v L' R' ⟨b68, rfl, rfl, hR68⟩
   replace hR68 := hR68.symm; subst hR68
   refine LJ_g (gives_append1 (f := icell) (a := m) tb rfl rfl rfl rfl (hqk) (by repeat (first | apply OSeg.cons | exact OSeg.here | exact OSeg.last | exact OSeg.at (by assumption) | apply OSeg.app)) (shown_own (by repeat (first | exact zi0 | apply zi1 | apply zi2)) rfl rfl) rfl (by first | omega | (simp only [List.length_cons, List.length_nil, List.length_append]; omega))) rfl ?_
   rintro v L' R' ⟨o69, rfl, hok69, rfl, rfl⟩
   refine qab ?_
   refine qcy ?_
   refine qcs ?_
   refine qaa ?_
   refine qar ?_
   refine qad ?_
   refine qav ?_
   exact q_k ⟨(j + 1, (⟨o69, q.l ++ [m]⟩ : OwL Int), fr.set m.toNat true, k5), ⟨by dsimp only; omega, by dsimp only; rw [List.length_append, List.length_singleton]; omega⟩, hok69, ⟨by dsimp only; rw [List.length_set]; exact hfl, by dsimp only; rw [count_set (by rw [hmg, hc2]), hfc]⟩, hk5⟩
  obtain rfl : j = n := by omega
  refine qbk ?_
  refine LJ_q (yv_loadN (row := [_, _, _]) tb rfl rfl rfl (by repeat (first | exact zi0 | apply zi1 | apply zi2)) (by rfl) (by rfl)) rfl ?_
  refine qak ?_
  refine qa0 ?_
  refine q_r (L' := q.L 3 icell ++ (p.L 98 XSwitch.cells ++ (cblk c x k4 :: []))) (R' := R) (res1 rfl (rv_cell (row := [_, _, _]) tb rfl rfl rfl (by repeat (first | exact zi0 | apply zi1 | apply zi2)) (by rfl) (by rfl))) ?_
  exact ⟨p, q, rp, k4, rfl, ⟨hpk, hqk⟩, by omega, hqn, hk4, rfl, rfl⟩
end Go.Proofs.Ytkpfjmibipblhaa
