/-
  Bounds that are drawn near an air. By an AI agent; no person has read it.
-/
import Derived.Test.YtjjfpglgonpciaaSolveR
import Derived.Test.YtjjfpglgonpciaaLaw10a
import Derived.Test.YtjjfpglgonpciaaMadeB
set_option linter.unusedSimpArgs false
set_option linter.unusedVariables false
namespace Go.Proofs.Ytjjfpglgonpciaa
open Go.Aw Go
set_option maxRecDepth 20000
attribute [local irreducible] CJ LJ DJ Tri YV Gives seqK blockK loopK retK RV mergeK OwL.L

theorem perm_xab {A B C : List Blk} {x : Blk} : (x :: (A ++ (B ++ C))).Perm (B ++ (A ++ (x :: C))) := by
  have h1 : (A ++ (B ++ C)).Perm (B ++ (A ++ C)) := by
    rw [← List.append_assoc, ← List.append_assoc]
    exact List.Perm.append_right _ List.perm_append_comm
  refine (h1.cons x).trans (List.perm_middle.symm.trans (List.Perm.append_left _ List.perm_middle.symm))
/-- pressures near those of a made state, up to place i -/
structure NearTo (np : Nat) (i : Nat) (l : List Int) : Prop where
  len : l.length = np
  val : ∀ (j : Nat) (p : Int), l[j]? = some p → (-13000 ≤ p ∧ p ≤ 13000) ∧ (i ≤ j → -4000 ≤ p ∧ p ≤ 4000)
theorem NearTo.next {np i : Nat} {l : List Int} (h : NearTo np i l) {v : Int} (hv : -13000 ≤ v ∧ v ≤ 13000) : NearTo np (i + 1) (l.set i v) := by
  refine ⟨by simp [h.len], fun j q hq => ?_⟩
  rw [List.getElem?_set] at hq
  split at hq
  · rename_i e
    split at hq
    · cases hq; exact ⟨hv, fun hj => by omega⟩
    · cases hq
  · exact ⟨(h.val j q hq).1, fun hj => (h.val j q hq).2 (by omega)⟩
theorem NearTo.stay {np i : Nat} {l : List Int} (h : NearTo np i l) : NearTo np (i + 1) l := ⟨h.len, fun j q hq => ⟨(h.val j q hq).1, fun hj => (h.val j q hq).2 (by omega)⟩⟩
theorem NearTo.pres {np i : Nat} {l : List Int} (h : NearTo np i l) : PresOk l := fun p hp => by
  obtain ⟨j, hj⟩ := List.mem_iff_getElem?.1 hp
  have := (h.val j p hj).1
  omega

/-- pressures that may be changed a little -/
def Mid (l : List Int) : Prop := ∀ p ∈ l, -70368744177662 ≤ p ∧ p ≤ 70368744177662
theorem Mid.pres {l : List Int} (h : Mid l) : PresOk l := fun p hp => by have := h p hp; omega
theorem Mid.get {l : List Int} (h : Mid l) (k : Nat) : -70368744177662 ≤ l.getD k 0 ∧ l.getD k 0 ≤ 70368744177662 := by
  rcases Nat.lt_or_ge k l.length with hk | hk
  · exact h _ (List.mem_of_getElem? (get_D 0 hk))
  · rw [List.getD_eq_getElem?_getD, List.getElem?_eq_none hk]; decide
theorem InB2.mid {l : List Int} (h : InB2 l) : Mid l := fun p hp => by
  obtain ⟨j, hj⟩ := List.mem_iff_getElem?.1 hp
  have := h j
  rw [show l.getD j 0 = p from getD_some hj] at this
  omega
theorem NearTo.mid {np i : Nat} {l : List Int} (h : NearTo np i l) : Mid l := fun p hp => by
  obtain ⟨j, hj⟩ := List.mem_iff_getElem?.1 hp
  have := (h.val j p hj).1
  omega
theorem bounds_tri (c : Nat) (x : Arr Int) (k : Nat) (a : XAir) (s : XSetting) (st : XState) (A : List Bool) (R : List Sl) (hx : CodesR x R) (hk : k ≤ x.l.length) (hm : AirR a R) (hs : SetR s R) (hX : StateR st R) (hl : st.pres.l.length = a.mine.places.l.length) (hb : ∀ p ∈ st.pres.l, -4000 ≤ p ∧ p ≤ 4000) (hn : 1 ≤ a.mine.places.l.length ∧ a.mine.places.l.length ≤ 64) (hA : airErr a = 0 → AiryIs a.mine A) (hin : (solveS a s A).1 = 0 → InB2 (solveS a s A).2.1 ∧ InB2 (solveS a s A).2.2) :
    Tri Try.prog 18 [.pointer (some ⟨c, 0, none⟩), a.val, s.val, st.val].toArray [cblk c x k] R
      (fun w L' R' => ∃ (lo hi : OwL Int) (k' : Nat), w = .agg #[lo.val, hi.val] ∧ (lo.ok 1 icell ∧ hi.ok 1 icell) ∧ (lo.l.length = a.mine.places.l.length ∧ hi.l.length = a.mine.places.l.length) ∧ (PresOk lo.l ∧ PresOk hi.l) ∧ k' ≤ x.l.length ∧ hi.L 3 icell ++ (lo.L 3 icell ++ (cblk c x k' :: [])) = L' ∧ R = R') := by
  have hpl := hm.places
  have hxp := hX.pres
  refine tri_enter 97 Try.call18 Try.func18 rfl rfl rfl ?_
  refine qae ?_
  refine qax ?_
  intro b5
  refine qax ?_
  intro b6
  refine qax ?_
  intro b7
  refine qaq ?_
  intro b8
  refine qam ?_
  refine qa8 ?_
  refine qbe ?_
  refine LJ_call rfl (solved_tri a s A _ _ hm hs hA hn.2) rfl ?_
  rintro v L' R' ⟨lo, hi, rfl, h1, h2, h3, h4, rfl, rfl⟩
  refine LJ_q (yv_move rfl) rfl ?_
  refine qbs ?_
  refine qbs ?_
  refine qaq ?_
  intro b9
  refine qak ?_
  refine qaz ?_
  refine qco ?_
  refine CJ_turn fun cc w hst => ⟨_, _, hst.perm perm_xab, ?_⟩
  refine qay ?_
  refine qah ?_
  refine qb4 ?_
  refine qah ?_
  refine LJ_case (k := 21) (show _ = Value.bool _ from rfl) (fun hg3 => ?_) (fun hg3 => ?_)
  ·
   replace hg3 := qb hg3
   obtain ⟨k1, hke, hk1⟩ : ∃ k1, k1 = k ∧ k1 ≤ x.l.length := ⟨_, rfl, hk⟩
   rw [← hke]
   refine LJ_skg rfl rfl ?_
   refine LJ_skg rfl rfl ?_
   refine LJ_q (by first | exact yv_pick_true rfl rfl | exact yv_pick_false rfl rfl | exact yv_pick rfl) rfl ?_
   refine qaf ?_
   refine CJ_joinS [11, 25, 26, 27, 28, 29, 30, 31, 32, 33, 34, 35, 36, 37, 38, 39, 40, 41, 42, 43, 44, 45, 46, 47, 48, 49, 50, 51, 52, 53, 54, 55, 56, 57, 58, 59, 60, 61, 62, 63, 64, 65, 66, 67, 68, 69, 70] ((⟨fun _ => [], fun q => q.1.2.1.L 3 icell ++ (q.1.1.L 3 icell ++ (⟨b9, [.slice q.1.1.o.addr a.mine.places.l.length q.1.1.o.cap, .slice q.1.2.1.o.addr a.mine.places.l.length q.1.2.1.o.cap], 41⟩ :: (⟨b8, [.slice none 0 0, .slice none 0 0], 41⟩ :: ⟨b7, st.cells, 37⟩ :: ⟨b6, s.cells, 35⟩ :: ⟨b5, a.cells, 32⟩ :: cblk c x q.1.2.2 :: []))), fun _ => R, fun _ => 0⟩ : Head {q : OwL Int × OwL Int × Nat // (q.1.ok 1 icell ∧ q.2.1.ok 1 icell) ∧ (q.1.l.length = a.mine.places.l.length ∧ q.2.1.l.length = a.mine.places.l.length) ∧ (Mid q.1.l ∧ Mid q.2.1.l) ∧ q.2.2 ≤ x.l.length})) ?_ ?_
   ·
    skip
    refine CJ_cond_true rfl ?_
    refine CJ_seq ?_
    refine CJ_drawn2 tb [28, 29] [0, 1, 3, 4] [2, 5, 6, 7] ([Blk.mk b7 _ _]) _ mixed (by kernel_rfl) (by repeat (first | exact zs0 _ | exact zs1 _ | apply zs2 | apply zs3 | apply zs4 | apply zs5)) (by (repeat (first | apply List.Sublist.cons (a := Blk.mk b9 _ _) | apply List.Sublist.cons_cons)); exact List.Sublist.refl _) ?_
    refine qan ?_
    refine qau ?_
    refine qcp ?_
    refine qcu ?_
    refine qba ?_
    refine DJ_g (gives_copy (f := icell) (xs := st.pres) tb rfl rfl rfl (by decide) rfl rfl (hxp) (fun _ => rfl) (by omega)) rfl rfl rfl ?_
    rintro v L' R' ⟨o27, rfl, hok27, rfl, rfl⟩
    refine qa1 ?_
    refine DJ_g (gives_copy (f := icell) (xs := st.pres) tb rfl rfl rfl (by decide) rfl rfl (hxp) (fun _ => rfl) (by omega)) rfl rfl rfl ?_
    rintro v L' R' ⟨o30, rfl, hok30, rfl, rfl⟩
    refine qa1 ?_
    refine qdq ?_
    refine qbg ?_
    refine qb9 ?_
    have hN0 : NearTo st.pres.l.length 0 st.pres.l := ⟨rfl, fun j p hj => by have := hb p (List.mem_of_getElem? hj); omega⟩
    refine qay ?_
    refine qab ?_
    refine qac ?_
    refine qag ?_
    refine qaa ?_
    refine qa2 ?_
    refine CJ_forgetW [11, 25, 26, 27, 28, 29, 30, 31, 32, 33, 34, 35, 36, 37, 38, 39, 40, 41, 42, 43, 44, 45, 46, 47, 48, 49, 50, 51, 52, 53, 54, 55, 56, 57, 58, 59, 60, 61, 62, 63, 64, 65, 66, 67, 68, 69, 70] (by repeat (first | apply Off.upd rfl | apply Off.havoc rfl | refine Off.updL (t' := havoc _ _ _) rfl ?_ | exact Off.refl)) [(34, Value.int _ _), (35, Value.int _ _)] (by repeat' (first | exact trivial | refine And.intro rfl ?_)) fun tq0 => ?_
    refine CJ_loop [11, 35, 36, 37, 38, 39, 40, 41, 42, 43, 44, 45, 46, 47, 48, 49, 50, 51, 52, 53, 54, 55, 56, 57, 58, 59, 60, 61, 62, 63, 64, 65, 66, 67, 68, 69, 70] ((⟨fun q => [(35, .int .i64 ((q.1.1 : Nat) : Int))], fun q => (⟨o30, q.1.2.2.2⟩ : OwL Int).L 3 icell ++ ((⟨o27, q.1.2.2.1⟩ : OwL Int).L 3 icell ++ (⟨b9, [(⟨o27, st.pres.l⟩ : OwL Int).val, (⟨o30, st.pres.l⟩ : OwL Int).val], 41⟩ :: (⟨b8, [.slice none 0 0, .slice none 0 0], 41⟩ :: ⟨b7, st.cells, 37⟩ :: ⟨b6, s.cells, 35⟩ :: ⟨b5, a.cells, 32⟩ :: cblk c x q.1.2.1 :: []))), fun _ => R, fun q => st.pres.l.length - q.1.1⟩ : Head {q : Nat × Nat × List Int × List Int // q.1 ≤ st.pres.l.length ∧ q.2.1 ≤ x.l.length ∧ ((⟨o27, q.2.2.1⟩ : OwL Int).ok 1 icell ∧ (⟨o30, q.2.2.2⟩ : OwL Int).ok 1 icell) ∧ (NearTo st.pres.l.length q.1 q.2.2.1 ∧ NearTo st.pres.l.length q.1 q.2.2.2)})) (⟨(0, k1, st.pres.l, st.pres.l), by dsimp only; omega, by assumption, ⟨hok27, hok30⟩, hN0, hN0⟩) (by repeat' (first | exact trivial | refine And.intro rfl ?_)) (by dsimp only; repeat (first | exact List.Sublist.refl _ | apply sub_app_both | apply sub_app_skip | apply List.Sublist.cons_cons | apply List.Sublist.cons)) (allR_self _) ?_
    rintro ⟨⟨i, kk, l, h⟩, q1, q2, ⟨q3, q4⟩, q5, q6⟩ junk
    try dsimp only
    dsimp only at q1 q2 q3 q4 q5 q6
    have hll := q5.len
    have hhl := q6.len
    refine qae ?_
    refine qaj ?_
    refine qa4 ?_
    refine q_c (fun hc1 => ?_) (fun hc1 => ?_)
    ·
     have hpg := get_D (l := a.mine.places.l) (k := i) default (by omega)
     have hlg := get_D (l := l) (k := i) 0 (by omega)
     have hhg := get_D (l := h) (k := i) 0 (by omega)
     have hlb := (q5.val i _ hlg).2 (Nat.le_refl _)
     have hhb := (q6.val i _ hhg).2 (Nat.le_refl _)
     refine qbb ?_
     refine qaa ?_
     refine qad ?_
     refine qam ?_
     refine qab ?_
     refine qab ?_
     refine qac ?_
     refine qaa ?_
     refine LJ_q (by first | exact yv_index_ro tb rfl rfl rfl rfl (by first | assumption | exact zr (by simp)) (i := i) (by first | rfl | omega | (simp; omega)) (by omega) | exact yv_index tb rfl rfl rfl rfl (i := i) (by first | rfl | omega | (simp; omega)) (by omega)) rfl ?_
     refine qb0 ?_
     refine qa7 ?_
     refine qb4 ?_
     refine qaf ?_
     refine q_c (fun hc2 => ?_) (fun hc2 => ?_)
     ·
      refine CJ_drawn2 tb [49, 50, 51, 67] [0, 1, 2, 3, 4, 5, 6, 7, 8, 9, 10, 11, 14, 15, 16, 17, 18, 19, 12, 13, 20, 21, 22] [23, 24, 25] (((⟨o30, h⟩ : OwL Int).L 3 icell ++ ((⟨o27, l⟩ : OwL Int).L 3 icell ++ (⟨b9, [(⟨o27, st.pres.l⟩ : OwL Int).val, (⟨o30, st.pres.l⟩ : OwL Int).val], 41⟩ :: [])))) _ mixed (by kernel_rfl) (by repeat (first | exact zs0 _ | exact zs1 _ | apply zs2 | apply zs3 | apply zs4 | apply zs5)) (show List.Sublist (⟨b9, [(⟨o27, st.pres.l⟩ : OwL Int).val, (⟨o30, st.pres.l⟩ : OwL Int).val], 41⟩ :: []) _ from sub_app_skip (sub_app_skip (List.Sublist.refl _))) ?_
      refine qan ?_
      refine qau ?_
      refine qbf ?_
      refine qcp ?_
      refine qcu ?_
      refine DJ3_ql (yv_move (show _ = Value.int _ _ from rfl)) rfl rfl rfl rfl ?_
      refine qan ?_
      refine qau ?_
      refine qbf ?_
      refine DJ3_q (yv_index_ow tb ((⟨o27, l⟩ : OwL Int)) _ rfl rfl ((show _ = Value.slice _ _ _ from rfl).trans (by simp only [OwL.val, hll])) rfl (by assumption) (i := i) (by first | rfl | omega | (simp; omega)) (by first | omega | (dsimp only; omega) | (dsimp only; rw [List.length_set]; omega))) rfl rfl rfl rfl ?_
      refine DJ3_q (yv_load1_ow tb ((⟨o27, l⟩ : OwL Int)) rfl rfl rfl (by repeat (first | apply OSeg.cons | exact OSeg.here | exact OSeg.last | exact OSeg.at (by assumption) | apply OSeg.app)) (by assumption) (fun _ => rfl) (by assumption) (by rfl)) rfl rfl rfl rfl ?_
      refine qb3 ?_
      refine qan ?_
      refine qau ?_
      refine qbf ?_
      refine DJ3_q (yv_index_ow tb ((⟨o30, h⟩ : OwL Int)) _ rfl rfl ((show _ = Value.slice _ _ _ from rfl).trans (by simp only [OwL.val, hhl])) rfl (by assumption) (i := i) (by first | rfl | omega | (simp; omega)) (by first | omega | (dsimp only; omega) | (dsimp only; rw [List.length_set]; omega))) rfl rfl rfl rfl ?_
      refine DJ3_q (yv_load1_ow tb ((⟨o30, h⟩ : OwL Int)) rfl rfl rfl (by repeat (first | apply OSeg.cons | exact OSeg.here | exact OSeg.last | exact OSeg.at (by assumption) | apply OSeg.app)) (by assumption) (fun _ => rfl) (by assumption) (by rfl)) rfl rfl rfl rfl ?_
      refine qb3 ?_
      refine DJ3_call rfl (next1 (by repeat (first | apply USeg.here | apply USeg.cons | apply USeg.app)) hx q2 (by omega)) rfl rfl ?_
      rintro v L' R' ⟨r1, k2, rfl, g1, g1', g1'', hk2, rfl, rfl⟩
      refine qas ?_
      have g1q := g1' (by omega)
      refine qcc ?_
      refine DJ3_call rfl (next1 (by repeat (first | apply USeg.here | apply USeg.cons | apply USeg.app)) hx hk2 (by omega)) rfl rfl ?_
      rintro v L' R' ⟨r2, k3, rfl, g2, g2', g2'', hk3, rfl, rfl⟩
      refine qas ?_
      have g2q := g2' (by omega)
      refine DJ3_ql (by first | exact yv_add64 rfl rfl (by omega) (by omega) | exact yv_addU rfl rfl (by omega) (by omega) | exact yv_add rfl rfl) rfl rfl rfl rfl ?_
      refine DJ3_q (yv_index_ow tb ((⟨o27, l⟩ : OwL Int)) _ rfl rfl ((show _ = Value.slice _ _ _ from rfl).trans (by simp only [OwL.val, hll])) rfl (by assumption) (i := i) (by first | rfl | omega | (simp; omega)) (by first | omega | (dsimp only; omega) | (dsimp only; rw [List.length_set]; omega))) rfl rfl rfl rfl ?_
      refine qba ?_
      refine DJ_g0 (gives_store1_ow tb ((⟨o27, l⟩ : OwL Int)) (l.getD i 0 - r1) rfl rfl rfl rfl (by repeat (first | apply OSeg.cons | exact OSeg.here | exact OSeg.last | exact OSeg.at (by assumption) | apply OSeg.app)) (by assumption) (fun _ => rfl) (by assumption) (by decide) (by rfl) (by rfl)) rfl rfl ?_
      rintro v L' R' ⟨rfl, rfl⟩
      refine qa1 ?_
      refine DJ_q (yv_index_ow tb ((⟨o30, h⟩ : OwL Int)) _ rfl rfl ((show _ = Value.slice _ _ _ from rfl).trans (by simp only [OwL.val, hhl])) rfl (by assumption) (i := i) (by first | rfl | omega | (simp; omega)) (by first | omega | (dsimp only; omega) | (dsimp only; rw [List.length_set]; omega))) rfl rfl rfl ?_
      refine DJ_g0 (gives_store1_ow tb ((⟨o30, h⟩ : OwL Int)) (h.getD i 0 + r2) rfl rfl rfl rfl (by repeat (first | apply OSeg.cons | exact OSeg.here | exact OSeg.last | exact OSeg.at (by assumption) | apply OSeg.app)) (by assumption) (fun _ => rfl) (by assumption) (by decide) (by rfl) (by rfl)) rfl rfl ?_
      rintro v L' R' ⟨rfl, rfl⟩
      refine qa1 ?_
      refine qby ?_
      refine qar ?_
      refine qaa ?_
      refine qav ?_
      exact q_k ⟨(i + 1, k3, l.set i (l.getD i 0 - r1), h.set i (h.getD i 0 + r2)), by dsimp only; omega, hk3, ⟨OwL.len_ok icell_len q3 (by simp), OwL.len_ok icell_len q4 (by simp)⟩, q5.next (by omega), q6.next (by omega)⟩
     ·
      refine qbj ?_
      refine qar ?_
      refine qaa ?_
      refine qav ?_
      exact q_k ⟨(i + 1, kk, l, h), by dsimp only; omega, q2, ⟨q3, q4⟩, q5.stay, q6.stay⟩
    ·
     refine CJ_exit (seqK_exit (loopK_exit (blockK_exit ?_)))
     exact joinK_mk ⟨((⟨o27, l⟩ : OwL Int), (⟨o30, h⟩ : OwL Int), kk), ⟨q3, q4⟩, ⟨hll.trans hl, hhl.trans hl⟩, ⟨q5.mid, q6.mid⟩, q2⟩ (by repeat (first | exact Off.refl | apply Off.upd rfl | apply Off.havoc rfl | apply Off.updL rfl | apply Off.left rfl)) (by repeat' (first | exact trivial | refine And.intro rfl ?_)) (by dsimp only; simp only [OwL.val, hl]; exact List.Sublist.refl _) (allR_self _)
   ·
    rintro ⟨⟨lo2, hi2, k2⟩, ⟨j1, j2⟩, ⟨j3, j4⟩, ⟨j5, j6⟩, j7⟩ junk
    try dsimp only
    dsimp only at j1 j2 j3 j4 j5 j6 j7
    refine qbi ?_
    refine qa6 ?_
    refine LJ_call rfl (one1 (by repeat (first | apply USeg.here | apply USeg.cons | apply USeg.app)) hx j7 (by omega)) rfl ?_
    rintro v L' R' ⟨d2, k3, rfl, hk3, rfl, rfl⟩
    refine qaf ?_
    refine q_c (fun hc3 => ?_) (fun hc3 => ?_)
    ·
     refine qae ?_
     refine qa6 ?_
     refine qab ?_
     refine qac ?_
     refine qag ?_
     refine LJ_call rfl (next1 (by repeat (first | apply USeg.here | apply USeg.cons | apply USeg.app)) hx hk3 (by omega)) rfl ?_
     rintro v L' R' ⟨r1, k4, rfl, g1, g1', g1'', hk4, rfl, rfl⟩
     have g1q := g1' (by omega)
     have hlg := get_D (l := lo2.l) (k := r1.toNat) 0 (by omega)
     have hhg := get_D (l := hi2.l) (k := r1.toNat) 0 (by omega)
     have hlb := j5.get r1.toNat
     have hhb := j6.get r1.toNat
     refine qad ?_
     refine qa4 ?_
     refine CJ_drawn2 tb [] [0, 1, 2, 3, 4, 5, 6, 7, 8] [9] ((lo2.L 3 icell ++ (⟨b9, [.slice lo2.o.addr a.mine.places.l.length lo2.o.cap, .slice hi2.o.addr a.mine.places.l.length hi2.o.cap], 41⟩ :: []))) _ mixed (by kernel_rfl) (by repeat (first | exact zs0 _ | exact zs1 _ | apply zs2 | apply zs3 | apply zs4 | apply zs5)) (show List.Sublist (⟨b9, [.slice lo2.o.addr a.mine.places.l.length lo2.o.cap, .slice hi2.o.addr a.mine.places.l.length hi2.o.cap], 41⟩ :: []) _ from sub_app_skip (List.Sublist.refl _)) ?_
     refine qan ?_
     refine qau ?_
     refine qbf ?_
     refine DJ3_q (yv_index_ow tb (lo2) _ rfl rfl ((show _ = Value.slice _ _ _ from rfl).trans (by simp only [OwL.val, j3])) rfl (by assumption) (i := r1.toNat) (by first | rfl | omega | (simp; omega)) (by first | omega | (dsimp only; omega) | (dsimp only; rw [List.length_set]; omega))) rfl rfl rfl rfl ?_
     refine DJ3_q (yv_load1_ow tb (lo2) rfl rfl rfl (by repeat (first | apply OSeg.cons | exact OSeg.here | exact OSeg.last | exact OSeg.at (by assumption) | apply OSeg.app)) (by assumption) (fun _ => rfl) (by assumption) (by rfl)) rfl rfl rfl rfl ?_
     refine qb3 ?_
     refine DJ3_call rfl (range1 (by repeat (first | apply USeg.here | apply USeg.cons | apply USeg.app)) hx hk4 (by omega)) rfl rfl ?_
     rintro v L' R' ⟨r2, k5, rfl, g2, g2', hk5, rfl, rfl⟩
     refine qas ?_
     refine qcj ?_
     refine DJ3_q (yv_index_ow tb (lo2) _ rfl rfl ((show _ = Value.slice _ _ _ from rfl).trans (by simp only [OwL.val, j3])) rfl (by assumption) (i := r1.toNat) (by first | rfl | omega | (simp; omega)) (by first | omega | (dsimp only; omega) | (dsimp only; rw [List.length_set]; omega))) rfl rfl rfl rfl ?_
     refine qba ?_
     refine DJ_g0 (gives_store1_ow tb (lo2) (lo2.l.getD r1.toNat 0 + r2) rfl rfl rfl rfl (by repeat (first | apply OSeg.cons | exact OSeg.here | exact OSeg.last | exact OSeg.at (by assumption) | apply OSeg.app)) (by assumption) (fun _ => rfl) (by assumption) (by decide) (by rfl) (by rfl)) rfl rfl ?_
     rintro v L' R' ⟨rfl, rfl⟩
     refine qa1 ?_
     refine qbu ?_
     refine CJ_drawn2 tb [] [0, 1, 2, 3, 4, 5, 6, 7, 8] [9] ((hi2.L 3 icell ++ (⟨b9, [.slice lo2.o.addr a.mine.places.l.length lo2.o.cap, .slice hi2.o.addr a.mine.places.l.length hi2.o.cap], 41⟩ :: []))) _ mixed (by kernel_rfl) (by repeat (first | exact zs0 _ | exact zs1 _ | apply zs2 | apply zs3 | apply zs4 | apply zs5)) (show List.Sublist (⟨b9, [.slice lo2.o.addr a.mine.places.l.length lo2.o.cap, .slice hi2.o.addr a.mine.places.l.length hi2.o.cap], 41⟩ :: []) _ from sub_app_skip (List.Sublist.refl _)) ?_
     refine qan ?_
     refine qau ?_
     refine qbf ?_
     refine DJ3_q (yv_index_ow tb (hi2) _ rfl rfl ((show _ = Value.slice _ _ _ from rfl).trans (by simp only [OwL.val, j4])) rfl (by assumption) (i := r1.toNat) (by first | rfl | omega | (simp; omega)) (by first | omega | (dsimp only; omega) | (dsimp only; rw [List.length_set]; omega))) rfl rfl rfl rfl ?_
     refine DJ3_q (yv_load1_ow tb (hi2) rfl rfl rfl (by repeat (first | apply OSeg.cons | exact OSeg.here | exact OSeg.last | exact OSeg.at (by assumption) | apply OSeg.app)) (by assumption) (fun _ => rfl) (by assumption) (by rfl)) rfl rfl rfl rfl ?_
     refine qb3 ?_
     refine DJ3_call rfl (range1 (by repeat (first | apply USeg.here | apply USeg.cons | apply USeg.app)) hx hk5 (by omega)) rfl rfl ?_
     rintro v L' R' ⟨r3, k6, rfl, g3, g3', hk6, rfl, rfl⟩
     refine qas ?_
     refine qcj ?_
     refine DJ3_q (yv_index_ow tb (hi2) _ rfl rfl ((show _ = Value.slice _ _ _ from rfl).trans (by simp only [OwL.val, j4])) rfl (by assumption) (i := r1.toNat) (by first | rfl | omega | (simp; omega)) (by first | omega | (dsimp only; omega) | (dsimp only; rw [List.length_set]; omega))) rfl rfl rfl rfl ?_
     refine qba ?_
     refine DJ_g0 (gives_store1_ow tb (hi2) (hi2.l.getD r1.toNat 0 + r3) rfl rfl rfl rfl (by repeat (first | apply OSeg.cons | exact OSeg.here | exact OSeg.last | exact OSeg.at (by assumption) | apply OSeg.app)) (by assumption) (fun _ => rfl) (by assumption) (by decide) (by rfl) (by rfl)) rfl rfl ?_
     rintro v L' R' ⟨rfl, rfl⟩
     refine qa1 ?_
     refine DJ_nil (seqK_normal (CJ_seq (CJ_region ?_)))
     refine qbe ?_
     refine qak ?_
     refine qa0 ?_
     refine q_r (L' := (⟨hi2.o, hi2.l.set r1.toNat (hi2.l.getD r1.toNat 0 + r3)⟩ : OwL Int).L 3 icell ++ ((⟨lo2.o, lo2.l.set r1.toNat (lo2.l.getD r1.toNat 0 + r2)⟩ : OwL Int).L 3 icell ++ (cblk c x k6 :: []))) (R' := R) (res1 rfl (rv_cell (row := [_, _]) tb rfl rfl rfl (by repeat (first | exact zi0 | apply zi1 | apply zi2)) (by rfl) (by rfl))) ?_
     exact ⟨⟨lo2.o, lo2.l.set r1.toNat (lo2.l.getD r1.toNat 0 + r2)⟩, ⟨hi2.o, hi2.l.set r1.toNat (hi2.l.getD r1.toNat 0 + r3)⟩, k6, by simp only [OwL.val, List.length_set, j3, j4], ⟨OwL.len_ok icell_len j1 (by simp), OwL.len_ok icell_len j2 (by simp)⟩, ⟨by simp [j3], by simp [j4]⟩, ⟨j5.pres.set _ (by omega), j6.pres.set _ (by omega)⟩, hk6, rfl, rfl⟩
    ·
     refine qbv ?_
     refine qbe ?_
     refine qak ?_
     refine qa0 ?_
     refine q_r (L' := hi2.L 3 icell ++ (lo2.L 3 icell ++ (cblk c x k3 :: []))) (R' := R) (res1 rfl (rv_cell (row := [_, _]) tb rfl rfl rfl (by repeat (first | exact zi0 | apply zi1 | apply zi2)) (by rfl) (by rfl))) ?_
     exact ⟨lo2, hi2, k3, by simp only [OwL.val, j3, j4], ⟨j1, j2⟩, ⟨j3, j4⟩, ⟨j5.pres, j6.pres⟩, hk3, rfl, rfl⟩
  ·
   replace hg3 := qb hg3
   have hso : (solveS a s A).1 = 0 := by simpa using hg3
   have hsv := solveS_ok hso
   refine LJ_qg (yv_move (show _ = Value.pointer _ from rfl)) rfl rfl ?_
   refine LJ_callg rfl (one1 (by repeat (first | apply USeg.here | apply USeg.cons | apply USeg.app)) hx hk (by omega)) rfl rfl ?_
   rintro v L' R' ⟨d1, k1, rfl, hk1, rfl, rfl⟩
   refine LJ_q (by first | exact yv_pick_true rfl rfl | exact yv_pick_false rfl rfl | exact yv_pick rfl) rfl ?_
   refine qaf ?_
   refine CJ_joinS [11, 25, 26, 27, 28, 29, 30, 31, 32, 33, 34, 35, 36, 37, 38, 39, 40, 41, 42, 43, 44, 45, 46, 47, 48, 49, 50, 51, 52, 53, 54, 55, 56, 57, 58, 59, 60, 61, 62, 63, 64, 65, 66, 67, 68, 69, 70] ((⟨fun _ => [], fun q => q.1.2.1.L 3 icell ++ (q.1.1.L 3 icell ++ (⟨b9, [.slice q.1.1.o.addr a.mine.places.l.length q.1.1.o.cap, .slice q.1.2.1.o.addr a.mine.places.l.length q.1.2.1.o.cap], 41⟩ :: (⟨b8, [.slice none 0 0, .slice none 0 0], 41⟩ :: ⟨b7, st.cells, 37⟩ :: ⟨b6, s.cells, 35⟩ :: ⟨b5, a.cells, 32⟩ :: cblk c x q.1.2.2 :: []))), fun _ => R, fun _ => 0⟩ : Head {q : OwL Int × OwL Int × Nat // (q.1.ok 1 icell ∧ q.2.1.ok 1 icell) ∧ (q.1.l.length = a.mine.places.l.length ∧ q.2.1.l.length = a.mine.places.l.length) ∧ (Mid q.1.l ∧ Mid q.2.1.l) ∧ q.2.2 ≤ x.l.length})) ?_ ?_
   ·
    skip
    refine q_c (fun hc0 => ?_) (fun hc0 => ?_)
    ·
     refine CJ_seq ?_
     refine CJ_drawn2 tb [28, 29] [0, 1, 3, 4] [2, 5, 6, 7] ([Blk.mk b7 _ _]) _ mixed (by kernel_rfl) (by repeat (first | exact zs0 _ | exact zs1 _ | apply zs2 | apply zs3 | apply zs4 | apply zs5)) (by (repeat (first | apply List.Sublist.cons (a := Blk.mk b9 _ _) | apply List.Sublist.cons_cons)); exact List.Sublist.refl _) ?_
     refine qan ?_
     refine qau ?_
     refine qcp ?_
     refine qcu ?_
     refine qba ?_
     refine DJ_g (gives_copy (f := icell) (xs := st.pres) tb rfl rfl rfl (by decide) rfl rfl (hxp) (fun _ => rfl) (by omega)) rfl rfl rfl ?_
     rintro v L' R' ⟨o27, rfl, hok27, rfl, rfl⟩
     refine qa1 ?_
     refine DJ_g (gives_copy (f := icell) (xs := st.pres) tb rfl rfl rfl (by decide) rfl rfl (hxp) (fun _ => rfl) (by omega)) rfl rfl rfl ?_
     rintro v L' R' ⟨o30, rfl, hok30, rfl, rfl⟩
     refine qa1 ?_
     refine qdq ?_
     refine qbg ?_
     refine qb9 ?_
     have hN0 : NearTo st.pres.l.length 0 st.pres.l := ⟨rfl, fun j p hj => by have := hb p (List.mem_of_getElem? hj); omega⟩
     refine qay ?_
     refine qab ?_
     refine qac ?_
     refine qag ?_
     refine qaa ?_
     refine qa2 ?_
     refine CJ_forgetW [11, 25, 26, 27, 28, 29, 30, 31, 32, 33, 34, 35, 36, 37, 38, 39, 40, 41, 42, 43, 44, 45, 46, 47, 48, 49, 50, 51, 52, 53, 54, 55, 56, 57, 58, 59, 60, 61, 62, 63, 64, 65, 66, 67, 68, 69, 70] (by repeat (first | apply Off.upd rfl | apply Off.havoc rfl | refine Off.updL (t' := havoc _ _ _) rfl ?_ | exact Off.refl)) [(34, Value.int _ _), (35, Value.int _ _)] (by repeat' (first | exact trivial | refine And.intro rfl ?_)) fun tq0 => ?_
     refine CJ_loop [11, 35, 36, 37, 38, 39, 40, 41, 42, 43, 44, 45, 46, 47, 48, 49, 50, 51, 52, 53, 54, 55, 56, 57, 58, 59, 60, 61, 62, 63, 64, 65, 66, 67, 68, 69, 70] ((⟨fun q => [(35, .int .i64 ((q.1.1 : Nat) : Int))], fun q => (⟨o30, q.1.2.2.2⟩ : OwL Int).L 3 icell ++ ((⟨o27, q.1.2.2.1⟩ : OwL Int).L 3 icell ++ (⟨b9, [(⟨o27, st.pres.l⟩ : OwL Int).val, (⟨o30, st.pres.l⟩ : OwL Int).val], 41⟩ :: (⟨b8, [.slice none 0 0, .slice none 0 0], 41⟩ :: ⟨b7, st.cells, 37⟩ :: ⟨b6, s.cells, 35⟩ :: ⟨b5, a.cells, 32⟩ :: cblk c x q.1.2.1 :: []))), fun _ => R, fun q => st.pres.l.length - q.1.1⟩ : Head {q : Nat × Nat × List Int × List Int // q.1 ≤ st.pres.l.length ∧ q.2.1 ≤ x.l.length ∧ ((⟨o27, q.2.2.1⟩ : OwL Int).ok 1 icell ∧ (⟨o30, q.2.2.2⟩ : OwL Int).ok 1 icell) ∧ (NearTo st.pres.l.length q.1 q.2.2.1 ∧ NearTo st.pres.l.length q.1 q.2.2.2)})) (⟨(0, k1, st.pres.l, st.pres.l), by dsimp only; omega, by assumption, ⟨hok27, hok30⟩, hN0, hN0⟩) (by repeat' (first | exact trivial | refine And.intro rfl ?_)) (by dsimp only; repeat (first | exact List.Sublist.refl _ | apply sub_app_both | apply sub_app_skip | apply List.Sublist.cons_cons | apply List.Sublist.cons)) (allR_self _) ?_
     rintro ⟨⟨i, kk, l, h⟩, q1, q2, ⟨q3, q4⟩, q5, q6⟩ junk
     try dsimp only
     dsimp only at q1 q2 q3 q4 q5 q6
     have hll := q5.len
     have hhl := q6.len
     refine qae ?_
     refine qaj ?_
     refine qa4 ?_
     refine q_c (fun hc1 => ?_) (fun hc1 => ?_)
     ·
      have hpg := get_D (l := a.mine.places.l) (k := i) default (by omega)
      have hlg := get_D (l := l) (k := i) 0 (by omega)
      have hhg := get_D (l := h) (k := i) 0 (by omega)
      have hlb := (q5.val i _ hlg).2 (Nat.le_refl _)
      have hhb := (q6.val i _ hhg).2 (Nat.le_refl _)
      refine qbb ?_
      refine qaa ?_
      refine qad ?_
      refine qam ?_
      refine qab ?_
      refine qab ?_
      refine qac ?_
      refine qaa ?_
      refine LJ_q (by first | exact yv_index_ro tb rfl rfl rfl rfl (by first | assumption | exact zr (by simp)) (i := i) (by first | rfl | omega | (simp; omega)) (by omega) | exact yv_index tb rfl rfl rfl rfl (i := i) (by first | rfl | omega | (simp; omega)) (by omega)) rfl ?_
      refine qb0 ?_
      refine qa7 ?_
      refine qb4 ?_
      refine qaf ?_
      refine q_c (fun hc2 => ?_) (fun hc2 => ?_)
      ·
       refine CJ_drawn2 tb [49, 50, 51, 67] [0, 1, 2, 3, 4, 5, 6, 7, 8, 9, 10, 11, 14, 15, 16, 17, 18, 19, 12, 13, 20, 21, 22] [23, 24, 25] (((⟨o30, h⟩ : OwL Int).L 3 icell ++ ((⟨o27, l⟩ : OwL Int).L 3 icell ++ (⟨b9, [(⟨o27, st.pres.l⟩ : OwL Int).val, (⟨o30, st.pres.l⟩ : OwL Int).val], 41⟩ :: [])))) _ mixed (by kernel_rfl) (by repeat (first | exact zs0 _ | exact zs1 _ | apply zs2 | apply zs3 | apply zs4 | apply zs5)) (show List.Sublist (⟨b9, [(⟨o27, st.pres.l⟩ : OwL Int).val, (⟨o30, st.pres.l⟩ : OwL Int).val], 41⟩ :: []) _ from sub_app_skip (sub_app_skip (List.Sublist.refl _))) ?_
       refine qan ?_
       refine qau ?_
       refine qbf ?_
       refine qcp ?_
       refine qcu ?_
       refine DJ3_ql (yv_move (show _ = Value.int _ _ from rfl)) rfl rfl rfl rfl ?_
       refine qan ?_
       refine qau ?_
       refine qbf ?_
       refine DJ3_q (yv_index_ow tb ((⟨o27, l⟩ : OwL Int)) _ rfl rfl ((show _ = Value.slice _ _ _ from rfl).trans (by simp only [OwL.val, hll])) rfl (by assumption) (i := i) (by first | rfl | omega | (simp; omega)) (by first | omega | (dsimp only; omega) | (dsimp only; rw [List.length_set]; omega))) rfl rfl rfl rfl ?_
       refine DJ3_q (yv_load1_ow tb ((⟨o27, l⟩ : OwL Int)) rfl rfl rfl (by repeat (first | apply OSeg.cons | exact OSeg.here | exact OSeg.last | exact OSeg.at (by assumption) | apply OSeg.app)) (by assumption) (fun _ => rfl) (by assumption) (by rfl)) rfl rfl rfl rfl ?_
       refine qb3 ?_
       refine qan ?_
       refine qau ?_
       refine qbf ?_
       refine DJ3_q (yv_index_ow tb ((⟨o30, h⟩ : OwL Int)) _ rfl rfl ((show _ = Value.slice _ _ _ from rfl).trans (by simp only [OwL.val, hhl])) rfl (by assumption) (i := i) (by first | rfl | omega | (simp; omega)) (by first | omega | (dsimp only; omega) | (dsimp only; rw [List.length_set]; omega))) rfl rfl rfl rfl ?_
       refine DJ3_q (yv_load1_ow tb ((⟨o30, h⟩ : OwL Int)) rfl rfl rfl (by repeat (first | apply OSeg.cons | exact OSeg.here | exact OSeg.last | exact OSeg.at (by assumption) | apply OSeg.app)) (by assumption) (fun _ => rfl) (by assumption) (by rfl)) rfl rfl rfl rfl ?_
       refine qb3 ?_
       refine DJ3_call rfl (next1 (by repeat (first | apply USeg.here | apply USeg.cons | apply USeg.app)) hx q2 (by omega)) rfl rfl ?_
       rintro v L' R' ⟨r1, k2, rfl, g1, g1', g1'', hk2, rfl, rfl⟩
       refine qas ?_
       have g1q := g1' (by omega)
       refine qcc ?_
       refine DJ3_call rfl (next1 (by repeat (first | apply USeg.here | apply USeg.cons | apply USeg.app)) hx hk2 (by omega)) rfl rfl ?_
       rintro v L' R' ⟨r2, k3, rfl, g2, g2', g2'', hk3, rfl, rfl⟩
       refine qas ?_
       have g2q := g2' (by omega)
       refine DJ3_ql (by first | exact yv_add64 rfl rfl (by omega) (by omega) | exact yv_addU rfl rfl (by omega) (by omega) | exact yv_add rfl rfl) rfl rfl rfl rfl ?_
       refine DJ3_q (yv_index_ow tb ((⟨o27, l⟩ : OwL Int)) _ rfl rfl ((show _ = Value.slice _ _ _ from rfl).trans (by simp only [OwL.val, hll])) rfl (by assumption) (i := i) (by first | rfl | omega | (simp; omega)) (by first | omega | (dsimp only; omega) | (dsimp only; rw [List.length_set]; omega))) rfl rfl rfl rfl ?_
       refine qba ?_
       refine DJ_g0 (gives_store1_ow tb ((⟨o27, l⟩ : OwL Int)) (l.getD i 0 - r1) rfl rfl rfl rfl (by repeat (first | apply OSeg.cons | exact OSeg.here | exact OSeg.last | exact OSeg.at (by assumption) | apply OSeg.app)) (by assumption) (fun _ => rfl) (by assumption) (by decide) (by rfl) (by rfl)) rfl rfl ?_
       rintro v L' R' ⟨rfl, rfl⟩
       refine qa1 ?_
       refine DJ_q (yv_index_ow tb ((⟨o30, h⟩ : OwL Int)) _ rfl rfl ((show _ = Value.slice _ _ _ from rfl).trans (by simp only [OwL.val, hhl])) rfl (by assumption) (i := i) (by first | rfl | omega | (simp; omega)) (by first | omega | (dsimp only; omega) | (dsimp only; rw [List.length_set]; omega))) rfl rfl rfl ?_
       refine DJ_g0 (gives_store1_ow tb ((⟨o30, h⟩ : OwL Int)) (h.getD i 0 + r2) rfl rfl rfl rfl (by repeat (first | apply OSeg.cons | exact OSeg.here | exact OSeg.last | exact OSeg.at (by assumption) | apply OSeg.app)) (by assumption) (fun _ => rfl) (by assumption) (by decide) (by rfl) (by rfl)) rfl rfl ?_
       rintro v L' R' ⟨rfl, rfl⟩
       refine qa1 ?_
       refine qby ?_
       refine qar ?_
       refine qaa ?_
       refine qav ?_
       exact q_k ⟨(i + 1, k3, l.set i (l.getD i 0 - r1), h.set i (h.getD i 0 + r2)), by dsimp only; omega, hk3, ⟨OwL.len_ok icell_len q3 (by simp), OwL.len_ok icell_len q4 (by simp)⟩, q5.next (by omega), q6.next (by omega)⟩
      ·
       refine qbj ?_
       refine qar ?_
       refine qaa ?_
       refine qav ?_
       exact q_k ⟨(i + 1, kk, l, h), by dsimp only; omega, q2, ⟨q3, q4⟩, q5.stay, q6.stay⟩
     ·
      refine CJ_exit (seqK_exit (loopK_exit (blockK_exit ?_)))
      exact joinK_mk ⟨((⟨o27, l⟩ : OwL Int), (⟨o30, h⟩ : OwL Int), kk), ⟨q3, q4⟩, ⟨hll.trans hl, hhl.trans hl⟩, ⟨q5.mid, q6.mid⟩, q2⟩ (by repeat (first | exact Off.refl | apply Off.upd rfl | apply Off.havoc rfl | apply Off.updL rfl | apply Off.left rfl)) (by repeat' (first | exact trivial | refine And.intro rfl ?_)) (by dsimp only; simp only [OwL.val, hl]; exact List.Sublist.refl _) (allR_self _)
    ·
     refine CJ_skip ?_
     have e1 : lo.l.length = a.mine.places.l.length := by rw [h3]; exact hsv.1.1
     have e2 : hi.l.length = a.mine.places.l.length := by rw [h4]; exact hsv.2.1
     exact joinK_mk ⟨(lo, hi, k1), ⟨h1, h2⟩, ⟨e1, e2⟩, ⟨by dsimp only; rw [h3]; exact (hin hso).1.mid, by dsimp only; rw [h4]; exact (hin hso).2.mid⟩, hk1⟩ (by repeat (first | exact Off.refl | apply Off.upd rfl | apply Off.havoc rfl | apply Off.updL rfl | apply Off.left rfl)) (by repeat' (first | exact trivial | refine And.intro rfl ?_)) (by dsimp only; rw [← e1]; simp only [OwL.val, e1, e2]; exact List.Sublist.refl _) (allR_self _)
   ·
    rintro ⟨⟨lo2, hi2, k2⟩, ⟨j1, j2⟩, ⟨j3, j4⟩, ⟨j5, j6⟩, j7⟩ junk
    try dsimp only
    dsimp only at j1 j2 j3 j4 j5 j6 j7
    refine qbi ?_
    refine qa6 ?_
    refine LJ_call rfl (one1 (by repeat (first | apply USeg.here | apply USeg.cons | apply USeg.app)) hx j7 (by omega)) rfl ?_
    rintro v L' R' ⟨d2, k3, rfl, hk3, rfl, rfl⟩
    refine qaf ?_
    refine q_c (fun hc3 => ?_) (fun hc3 => ?_)
    ·
     refine qae ?_
     refine qa6 ?_
     refine qab ?_
     refine qac ?_
     refine qag ?_
     refine LJ_call rfl (next1 (by repeat (first | apply USeg.here | apply USeg.cons | apply USeg.app)) hx hk3 (by omega)) rfl ?_
     rintro v L' R' ⟨r1, k4, rfl, g1, g1', g1'', hk4, rfl, rfl⟩
     have g1q := g1' (by omega)
     have hlg := get_D (l := lo2.l) (k := r1.toNat) 0 (by omega)
     have hhg := get_D (l := hi2.l) (k := r1.toNat) 0 (by omega)
     have hlb := j5.get r1.toNat
     have hhb := j6.get r1.toNat
     refine qad ?_
     refine qa4 ?_
     refine CJ_drawn2 tb [] [0, 1, 2, 3, 4, 5, 6, 7, 8] [9] ((lo2.L 3 icell ++ (⟨b9, [.slice lo2.o.addr a.mine.places.l.length lo2.o.cap, .slice hi2.o.addr a.mine.places.l.length hi2.o.cap], 41⟩ :: []))) _ mixed (by kernel_rfl) (by repeat (first | exact zs0 _ | exact zs1 _ | apply zs2 | apply zs3 | apply zs4 | apply zs5)) (show List.Sublist (⟨b9, [.slice lo2.o.addr a.mine.places.l.length lo2.o.cap, .slice hi2.o.addr a.mine.places.l.length hi2.o.cap], 41⟩ :: []) _ from sub_app_skip (List.Sublist.refl _)) ?_
     refine qan ?_
     refine qau ?_
     refine qbf ?_
     refine DJ3_q (yv_index_ow tb (lo2) _ rfl rfl ((show _ = Value.slice _ _ _ from rfl).trans (by simp only [OwL.val, j3])) rfl (by assumption) (i := r1.toNat) (by first | rfl | omega | (simp; omega)) (by first | omega | (dsimp only; omega) | (dsimp only; rw [List.length_set]; omega))) rfl rfl rfl rfl ?_
     refine DJ3_q (yv_load1_ow tb (lo2) rfl rfl rfl (by repeat (first | apply OSeg.cons | exact OSeg.here | exact OSeg.last | exact OSeg.at (by assumption) | apply OSeg.app)) (by assumption) (fun _ => rfl) (by assumption) (by rfl)) rfl rfl rfl rfl ?_
     refine qb3 ?_
     refine DJ3_call rfl (range1 (by repeat (first | apply USeg.here | apply USeg.cons | apply USeg.app)) hx hk4 (by omega)) rfl rfl ?_
     rintro v L' R' ⟨r2, k5, rfl, g2, g2', hk5, rfl, rfl⟩
     refine qas ?_
     refine qcj ?_
     refine DJ3_q (yv_index_ow tb (lo2) _ rfl rfl ((show _ = Value.slice _ _ _ from rfl).trans (by simp only [OwL.val, j3])) rfl (by assumption) (i := r1.toNat) (by first | rfl | omega | (simp; omega)) (by first | omega | (dsimp only; omega) | (dsimp only; rw [List.length_set]; omega))) rfl rfl rfl rfl ?_
     refine qba ?_
     refine DJ_g0 (gives_store1_ow tb (lo2) (lo2.l.getD r1.toNat 0 + r2) rfl rfl rfl rfl (by repeat (first | apply OSeg.cons | exact OSeg.here | exact OSeg.last | exact OSeg.at (by assumption) | apply OSeg.app)) (by assumption) (fun _ => rfl) (by assumption) (by decide) (by rfl) (by rfl)) rfl rfl ?_
     rintro v L' R' ⟨rfl, rfl⟩
     refine qa1 ?_
     refine qbu ?_
     refine CJ_drawn2 tb [] [0, 1, 2, 3, 4, 5, 6, 7, 8] [9] ((hi2.L 3 icell ++ (⟨b9, [.slice lo2.o.addr a.mine.places.l.length lo2.o.cap, .slice hi2.o.addr a.mine.places.l.length hi2.o.cap], 41⟩ :: []))) _ mixed (by kernel_rfl) (by repeat (first | exact zs0 _ | exact zs1 _ | apply zs2 | apply zs3 | apply zs4 | apply zs5)) (show List.Sublist (⟨b9, [.slice lo2.o.addr a.mine.places.l.length lo2.o.cap, .slice hi2.o.addr a.mine.places.l.length hi2.o.cap], 41⟩ :: []) _ from sub_app_skip (List.Sublist.refl _)) ?_
     refine qan ?_
     refine qau ?_
     refine qbf ?_
     refine DJ3_q (yv_index_ow tb (hi2) _ rfl rfl ((show _ = Value.slice _ _ _ from rfl).trans (by simp only [OwL.val, j4])) rfl (by assumption) (i := r1.toNat) (by first | rfl | omega | (simp; omega)) (by first | omega | (dsimp only; omega) | (dsimp only; rw [List.length_set]; omega))) rfl rfl rfl rfl ?_
     refine DJ3_q (yv_load1_ow tb (hi2) rfl rfl rfl (by repeat (first | apply OSeg.cons | exact OSeg.here | exact OSeg.last | exact OSeg.at (by assumption) | apply OSeg.app)) (by assumption) (fun _ => rfl) (by assumption) (by rfl)) rfl rfl rfl rfl ?_
     refine qb3 ?_
     refine DJ3_call rfl (range1 (by repeat (first | apply USeg.here | apply USeg.cons | apply USeg.app)) hx hk5 (by omega)) rfl rfl ?_
     rintro v L' R' ⟨r3, k6, rfl, g3, g3', hk6, rfl, rfl⟩
     refine qas ?_
     refine qcj ?_
     refine DJ3_q (yv_index_ow tb (hi2) _ rfl rfl ((show _ = Value.slice _ _ _ from rfl).trans (by simp only [OwL.val, j4])) rfl (by assumption) (i := r1.toNat) (by first | rfl | omega | (simp; omega)) (by first | omega | (dsimp only; omega) | (dsimp only; rw [List.length_set]; omega))) rfl rfl rfl rfl ?_
     refine qba ?_
     refine DJ_g0 (gives_store1_ow tb (hi2) (hi2.l.getD r1.toNat 0 + r3) rfl rfl rfl rfl (by repeat (first | apply OSeg.cons | exact OSeg.here | exact OSeg.last | exact OSeg.at (by assumption) | apply OSeg.app)) (by assumption) (fun _ => rfl) (by assumption) (by decide) (by rfl) (by rfl)) rfl rfl ?_
     rintro v L' R' ⟨rfl, rfl⟩
     refine qa1 ?_
     refine DJ_nil (seqK_normal (CJ_seq (CJ_region ?_)))
     refine qbe ?_
     refine qak ?_
     refine qa0 ?_
     refine q_r (L' := (⟨hi2.o, hi2.l.set r1.toNat (hi2.l.getD r1.toNat 0 + r3)⟩ : OwL Int).L 3 icell ++ ((⟨lo2.o, lo2.l.set r1.toNat (lo2.l.getD r1.toNat 0 + r2)⟩ : OwL Int).L 3 icell ++ (cblk c x k6 :: []))) (R' := R) (res1 rfl (rv_cell (row := [_, _]) tb rfl rfl rfl (by repeat (first | exact zi0 | apply zi1 | apply zi2)) (by rfl) (by rfl))) ?_
     exact ⟨⟨lo2.o, lo2.l.set r1.toNat (lo2.l.getD r1.toNat 0 + r2)⟩, ⟨hi2.o, hi2.l.set r1.toNat (hi2.l.getD r1.toNat 0 + r3)⟩, k6, by simp only [OwL.val, List.length_set, j3, j4], ⟨OwL.len_ok icell_len j1 (by simp), OwL.len_ok icell_len j2 (by simp)⟩, ⟨by simp [j3], by simp [j4]⟩, ⟨j5.pres.set _ (by omega), j6.pres.set _ (by omega)⟩, hk6, rfl, rfl⟩
    ·
     refine qbv ?_
     refine qbe ?_
     refine qak ?_
     refine qa0 ?_
     refine q_r (L' := hi2.L 3 icell ++ (lo2.L 3 icell ++ (cblk c x k3 :: []))) (R' := R) (res1 rfl (rv_cell (row := [_, _]) tb rfl rfl rfl (by repeat (first | exact zi0 | apply zi1 | apply zi2)) (by rfl) (by rfl))) ?_
     exact ⟨lo2, hi2, k3, by simp only [OwL.val, j3, j4], ⟨j1, j2⟩, ⟨j3, j4⟩, ⟨j5.pres, j6.pres⟩, hk3, rfl, rfl⟩
end Go.Proofs.Ytjjfpglgonpciaa
