/-
  The draws: roads, curves, doors. By an AI agent; no person has read it.
-/
import Derived.Test.YtimnnhdeicpenaaCodes
import Derived.Test.YtimnnhdeicpenaaOwn
set_option linter.unusedSimpArgs false
set_option linter.unusedVariables false
namespace Go.Proofs.Ytimnnhdeicpenaa
open Go.Aw Go
set_option maxRecDepth 20000
attribute [local irreducible] CJ LJ DJ Tri YV Gives seqK blockK loopK retK RV mergeK OwL.L

structure MadeRoad (fr to : Int) (r : XRoad) : Prop where
  fr : r.fr = fr
  to : r.to = to
  len : 1 ≤ r.len ∧ r.len ≤ 400
  area : 4 ≤ r.area ∧ r.area ≤ 30
  closed : r.closed = false
  rest : 1 ≤ r.rest.low ∧ r.rest.low ≤ r.rest.high ∧ r.rest.high ≤ 22
  lift : -300 ≤ r.lift.low ∧ r.lift.low ≤ r.lift.high ∧ r.lift.high ≤ 320

theorem CodesR.mono {x : Arr Int} {R R' : List Sl} (h : CodesR x R) (k : ∀ r ∈ R, InR r R') : CodesR x R' := ⟨h.sl.mono k, h.byte⟩

theorem drawRoad_tri (c : Nat) (x : Arr Int) (k : Nat) (fr to : Int) (R : List Sl) (hx : CodesR x R) (hk : k ≤ x.l.length) :
    Tri Try.prog 31 [.pointer (some ⟨c, 0, none⟩), .int .i64 fr, .int .i64 to].toArray [cblk c x k] R
      (fun v L' R' => ∃ (r : XRoad) (k' : Nat), v = r.val ∧ MadeRoad fr to r ∧ k' ≤ x.l.length ∧ [cblk c x k'] = L' ∧ R = R') := by
  refine tri_enter 42 Try.call31 Try.func31 rfl rfl rfl ?_
  refine CJ_seq (CJ_region ?_)
  refine LJ_alloc tb rfl rfl ?_
  intro b6
  refine LJ_nil (seqK_normal (CJ_seq (CJ_region ?_)))
  refine LJ_q (yv_move (show _ = Value.int _ _ from rfl)) rfl ?_
  refine LJ_q (yv_move (show _ = Value.int _ _ from rfl)) rfl ?_
  refine LJ_q (yv_move (show _ = Value.pointer _ from rfl)) rfl ?_
  refine LJ_call rfl (range1 (by repeat (first | apply USeg.here | apply USeg.cons | apply USeg.app)) hx hk (by omega)) rfl ?_
  rintro v L' R' ⟨r1, k1, rfl, g1, g1', hk1, rfl, rfl⟩
  refine LJ_q (yv_move (show _ = Value.pointer _ from rfl)) rfl ?_
  refine LJ_call rfl (range1 (by repeat (first | apply USeg.here | apply USeg.cons | apply USeg.app)) hx hk1 (by omega)) rfl ?_
  rintro v L' R' ⟨r2, k2, rfl, g2, g2', hk2, rfl, rfl⟩
  refine LJ_q (yv_move (show _ = Value.pointer _ from rfl)) rfl ?_
  refine LJ_call rfl (next1 (by repeat (first | apply USeg.here | apply USeg.cons | apply USeg.app)) hx hk2 (by omega)) rfl ?_
  rintro v L' R' ⟨r3, k3, rfl, g3, g3', g3'', hk3, rfl, rfl⟩
  refine LJ_q (yv_gtr rfl rfl) rfl ?_
  refine LJ_q (yv_move (show _ = Value.pointer _ from rfl)) rfl ?_
  refine LJ_call rfl (range1 (by repeat (first | apply USeg.here | apply USeg.cons | apply USeg.app)) hx hk3 (by omega)) rfl ?_
  rintro v L' R' ⟨r4, k4, rfl, g4, g4', hk4, rfl, rfl⟩
  refine LJ_q (yv_build (qs := [(0, (Value.int _ _).cells.toList)]) (out := [_, _]) tb rfl rfl rfl rfl) rfl ?_
  refine LJ_q (yv_build (qs := [(0, (Value.int _ _).cells.toList), (1, (Value.int _ _).cells.toList), (2, (Value.int _ _).cells.toList), (3, (Value.int _ _).cells.toList), (4, (Value.bool _).cells.toList), (6, (Value.agg _).cells.toList)]) (out := [_, _, _, _, _, _, _, _, _, _]) tb rfl rfl rfl rfl) rfl ?_
  refine LJ_alloc tb rfl rfl ?_
  intro b7
  refine LJ_storeW tb rfl rfl rfl rfl (by repeat (first | apply zu0 | apply zu1 | apply zu2)) (by rfl) (by rfl) ?_
  refine LJ_nil (seqK_normal (CJ_seq ?_))
  refine CJ_drawn2 tb [] [0, 1, 2, 3, 4, 5, 6, 7] [8] ([Blk.mk b7 _ _]) _ mixed (by kernel_rfl) (by repeat (first | exact zs0 _ | exact zs1 _ | apply zs2 | apply zs3 | apply zs4 | apply zs5)) (by (repeat (first | apply List.Sublist.cons (a := Blk.mk b7 _ _) | apply List.Sublist.cons_cons)); exact List.Sublist.refl _) ?_
  refine DJ3_q (yv_field tb rfl rfl rfl) rfl rfl rfl rfl ?_
  refine DJ3_q (yv_field tb rfl rfl rfl) rfl rfl rfl rfl ?_
  refine DJ3_q (yv_load1 tb rfl rfl rfl (by repeat (first | exact zi0 | apply zi1 | apply zi2)) (by rfl)) rfl rfl rfl rfl ?_
  refine DJ3_q (yv_move (show _ = Value.pointer _ from rfl)) rfl rfl rfl rfl ?_
  refine DJ3_call rfl (next1 (by repeat (first | apply USeg.here | apply USeg.cons | apply USeg.app)) hx hk4 (by omega)) rfl rfl ?_
  rintro v L' R' ⟨r5, k5, rfl, g5, g5', g5'', hk5, rfl, rfl⟩
  refine ⟨(by repeat (first | exact zs0 _ | exact zs1 _ | apply zs2 | apply zs3 | apply zs4 | apply zs5)), (by first | exact allR_self _ | exact (fun r h => inR_self (by simp [h]))), ?_⟩
  refine DJ3_q (by first | exact yv_add64 rfl rfl (by omega) (by omega) | exact yv_addU rfl rfl (by omega) (by omega) | exact yv_add rfl rfl) rfl rfl rfl rfl ?_
  refine DJ3_q (yv_field tb rfl rfl rfl) rfl rfl rfl rfl ?_
  refine DJ3_q (yv_field tb rfl rfl rfl) rfl rfl rfl rfl ?_
  refine DJ3_phase ?_
  refine DJ_store1 (v := Value.int _ _) rfl rfl rfl rfl (by repeat (first | apply zu0 | apply zu1 | apply zu2)) (by first | exact icell_fit (by omega) | rfl) (by first | exact icell_set | rfl) (by rfl) (by repeat (first | exact zs0 _ | exact zs1 _ | apply zs2 | apply zs3 | apply zs4 | apply zs5)) ?_
  refine DJ_nil (seqK_normal (CJ_seq ?_))
  have g5q := g5' (by omega)
  refine CJ_region ?_
  refine LJ_q (yv_move (show _ = Value.pointer _ from rfl)) rfl ?_
  refine LJ_call rfl (range1 (by repeat (first | apply USeg.here | apply USeg.cons | apply USeg.app)) hx hk5 (by omega)) rfl ?_
  rintro v L' R' ⟨r6, k6, rfl, g6, g6', hk6, rfl, rfl⟩
  refine LJ_q (yv_field tb rfl rfl rfl) rfl ?_
  refine LJ_q (yv_field tb rfl rfl rfl) rfl ?_
  refine LJ_store1 (v := Value.int _ _) tb rfl rfl rfl rfl (by repeat (first | apply zu0 | apply zu1 | apply zu2)) (by first | exact icell_fit (by omega) | rfl) (by first | exact icell_set | rfl) (by rfl) ?_
  refine LJ_nil (seqK_normal (CJ_seq ?_))
  refine CJ_drawn2 tb [] [0, 1, 2, 3, 4, 5, 6, 7] [8] ([Blk.mk b7 _ _]) _ mixed (by kernel_rfl) (by repeat (first | exact zs0 _ | exact zs1 _ | apply zs2 | apply zs3 | apply zs4 | apply zs5)) (by (repeat (first | apply List.Sublist.cons (a := Blk.mk b7 _ _) | apply List.Sublist.cons_cons)); exact List.Sublist.refl _) ?_
  refine DJ3_q (yv_field tb rfl rfl rfl) rfl rfl rfl rfl ?_
  refine DJ3_q (yv_field tb rfl rfl rfl) rfl rfl rfl rfl ?_
  refine DJ3_q (yv_load1 tb rfl rfl rfl (by repeat (first | exact zi0 | apply zi1 | apply zi2)) (by rfl)) rfl rfl rfl rfl ?_
  refine DJ3_q (yv_move (show _ = Value.pointer _ from rfl)) rfl rfl rfl rfl ?_
  refine DJ3_call rfl (next1 (by repeat (first | apply USeg.here | apply USeg.cons | apply USeg.app)) hx hk6 (by omega)) rfl rfl ?_
  rintro v L' R' ⟨r7, k7, rfl, g7, g7', g7'', hk7, rfl, rfl⟩
  refine ⟨(by repeat (first | exact zs0 _ | exact zs1 _ | apply zs2 | apply zs3 | apply zs4 | apply zs5)), (by first | exact allR_self _ | exact (fun r h => inR_self (by simp [h]))), ?_⟩
  refine DJ3_q (by first | exact yv_add64 rfl rfl (by omega) (by omega) | exact yv_addU rfl rfl (by omega) (by omega) | exact yv_add rfl rfl) rfl rfl rfl rfl ?_
  refine DJ3_q (yv_field tb rfl rfl rfl) rfl rfl rfl rfl ?_
  refine DJ3_q (yv_field tb rfl rfl rfl) rfl rfl rfl rfl ?_
  refine DJ3_phase ?_
  refine DJ_store1 (v := Value.int _ _) rfl rfl rfl rfl (by repeat (first | apply zu0 | apply zu1 | apply zu2)) (by first | exact icell_fit (by omega) | rfl) (by first | exact icell_set | rfl) (by rfl) (by repeat (first | exact zs0 _ | exact zs1 _ | apply zs2 | apply zs3 | apply zs4 | apply zs5)) ?_
  refine DJ_nil (seqK_normal (CJ_seq ?_))
  have g7q := g7' (by omega)
  refine CJ_region ?_
  refine LJ_q (yv_loadN (row := [_, _, _, _, _, _, _, _, _, _]) tb rfl rfl rfl (by repeat (first | exact zi0 | apply zi1 | apply zi2)) (by rfl) (by rfl)) rfl ?_
  refine LJ_storeW tb rfl rfl rfl rfl (by repeat (first | apply zu0 | apply zu1 | apply zu2)) (by rfl) (by rfl) ?_
  refine LJ_nil (seqK_normal (CJ_ret ?_))
  refine retK_ret (L' := [cblk c x k7]) (R' := R) (res1 rfl (rv_cell (row := [_, _, _, _, _, _, _, _, _, _]) tb rfl rfl rfl (by repeat (first | exact zi0 | apply zi1 | apply zi2)) (by rfl) (by rfl))) ?hp ?hL ?hR
  case hp => exact ⟨⟨fr, to, r1, r2, decide (0 < r3), false, ⟨r4, r4 + r5⟩, ⟨r6, r6 + r7⟩⟩, k7, rfl, ⟨rfl, rfl, ⟨g1, g1'⟩, ⟨g2, g2'⟩, rfl, by dsimp only; omega, by dsimp only; omega⟩, hk7, rfl, rfl⟩
  case hL => exact (by repeat (first | exact zs0 _ | exact zs1 _ | apply zs2 | apply zs3 | apply zs4 | apply zs5))
  case hR => exact allR_self _

/-- a drawn curve -/
structure MadeCurve (l : List XPoint) : Prop where
  len : 1 ≤ l.length ∧ l.length ≤ 4
  ok : CurveOk l
  top : (l.getD 0 default).pres ≤ 3000

theorem CurveOk.snoc {l : List XPoint} {p : XPoint} (h : CurveOk l) (hl : 1 ≤ l.length) (hp : -1048576 ≤ p.flow ∧ p.flow ≤ 1048576 ∧ 0 ≤ p.pres ∧ p.pres ≤ 2199023255552) (hs : (l.getD (l.length - 1) default).flow < p.flow ∧ p.pres ≤ (l.getD (l.length - 1) default).pres) : CurveOk (l ++ [p]) := by
  refine ⟨fun i q hq => ?_, fun i q r hq hr => ?_⟩
  · rw [List.getElem?_append] at hq
    split at hq
    · exact h.pt i q hq
    · rw [List.getElem?_singleton] at hq
      split at hq
      · cases hq; exact hp
      · cases hq
  · rw [List.getElem?_append] at hq hr
    split at hr
    · rename_i h2
      rw [if_pos (by omega)] at hq
      exact h.st i q r hq hr
    · rename_i h2
      rw [List.getElem?_singleton] at hr
      split at hr
      · cases hr
        rw [if_pos (by omega)] at hq
        have e : i = l.length - 1 := by omega
        subst e
        rw [getD_some hq] at hs
        exact hs
      · cases hr

theorem getD_append_left {α : Type} {l m : List α} {i : Nat} {d : α} (h : i < l.length) : (l ++ m).getD i d = l.getD i d := by
  rw [List.getD_eq_getElem?_getD, List.getD_eq_getElem?_getD, List.getElem?_append_left h]
theorem getD_append_last {α : Type} {l : List α} {x d : α} {n : Nat} (h : n = l.length) : (l ++ [x]).getD n d = x := by
  subst h
  rw [List.getD_eq_getElem?_getD]; simp

structure CurveI (n : Int) (y : OwL XPoint) : Prop where
  n : 0 ≤ n ∧ (y.l.length : Int) + n ≤ 4
  len : 1 ≤ y.l.length
  cok : CurveOk y.l
  top : (y.l.getD 0 default).pres ≤ 3000
  last : -20 ≤ (y.l.getD (y.l.length - 1) default).flow ∧ (y.l.getD (y.l.length - 1) default).flow ≤ 40 * (y.l.length : Int) ∧ 0 ≤ (y.l.getD (y.l.length - 1) default).pres ∧ (y.l.getD (y.l.length - 1) default).pres ≤ 3000

theorem CurveI.next {n : Int} {y : OwL XPoint} (h : CurveI n y) (hn : 0 < n) {a b : Int} (ha : 1 ≤ a ∧ a ≤ 40) (hb : 0 ≤ b ∧ b ≤ 899) {o : Ow} {p : XPoint} (h1 : p.flow = (y.l.getD (y.l.length - 1) default).flow + a) (h2 : p.pres = max 0 ((y.l.getD (y.l.length - 1) default).pres - b)) : CurveI (n - 1) ⟨o, y.l ++ [p]⟩ := by
  have hl := h.len
  have hla := h.last
  have hnn := h.n
  have e1 : (y.l ++ [p]).length = y.l.length + 1 := by simp
  have e2 : (y.l ++ [p]).getD ((y.l ++ [p]).length - 1) default = p := getD_append_last (by omega)
  refine ⟨by dsimp only; omega, by dsimp only; omega, h.cok.snoc hl (by omega) (by omega), ?_, ?_⟩
  · dsimp only; rw [getD_append_left (by omega)]; exact h.top
  · dsimp only; rw [e2, e1]; omega

theorem drawCurve_tri (c : Nat) (x : Arr Int) (k : Nat) (R : List Sl) (hx : CodesR x R) (hk : k ≤ x.l.length) :
    Tri Try.prog 13 [.pointer (some ⟨c, 0, none⟩)].toArray [cblk c x k] R
      (fun v L' R' => ∃ (y : Arr XPoint) (k' : Nat), v = y.val ∧ MadeCurve y.l ∧ k' ≤ x.l.length ∧ [cblk c x k'] = L' ∧ ptsl y :: R = R') := by
  refine tri_enter 40 Try.call13 Try.func13 rfl rfl rfl ?_
  refine CJ_seq (CJ_region ?_)
  refine LJ_q (yv_assign (show _ = Value.slice _ _ _ from rfl)) rfl ?_
  refine LJ_nil (seqK_normal (CJ_seq (CJ_region ?_)))
  refine LJ_q (yv_move (show _ = Value.pointer _ from rfl)) rfl ?_
  refine LJ_call rfl (range1 (by repeat (first | apply USeg.here | apply USeg.cons | apply USeg.app)) hx hk (by omega)) rfl ?_
  rintro v L' R' ⟨r1, k1, rfl, g1, g1', hk1, rfl, rfl⟩
  refine LJ_q (yv_move (show _ = Value.pointer _ from rfl)) rfl ?_
  refine LJ_call rfl (range1 (by repeat (first | apply USeg.here | apply USeg.cons | apply USeg.app)) hx hk1 (by omega)) rfl ?_
  rintro v L' R' ⟨r2, k2, rfl, g2, g2', hk2, rfl, rfl⟩
  refine LJ_q (yv_build (qs := [(0, (Value.int _ _).cells.toList), (1, (Value.int _ _).cells.toList)]) (out := [_, _]) tb rfl rfl rfl rfl) rfl ?_
  refine LJ_g (gives_buildSlice (qs := [(0, (Value.agg _).cells.toList)]) (out := [_, _]) tb rfl rfl rfl rfl rfl rfl rfl) rfl ?_
  rintro v L' R' ⟨b11, rfl, rfl, hR11⟩
  replace hR11 := hR11.symm; subst hR11
  refine LJ_q (yv_assign (show _ = Value.slice _ _ _ from rfl)) rfl ?_
  refine LJ_nil (seqK_normal (CJ_seq (CJ_seq (CJ_region ?_))))
  refine LJ_q (yv_move (show _ = Value.pointer _ from rfl)) rfl ?_
  refine LJ_call rfl (next1 (by repeat (first | apply USeg.here | apply USeg.cons | apply USeg.app)) hx hk2 (by omega)) rfl ?_
  rintro v L' R' ⟨r3, k3, rfl, g3, g3', g3'', hk3, rfl, rfl⟩
  refine LJ_q (yv_assign (show _ = Value.int _ _ from rfl)) rfl ?_
  refine LJ_nil (seqK_normal (CJ_block ?_))
  refine CJ_forget [(0, Value.pointer _), (3, Value.slice _ _ _), (4, Value.int _ _)] (by repeat' (first | exact trivial | refine And.intro rfl ?_)) fun tq0 => ?_
  have g3q := g3' (by omega)
  refine CJ_L (built_ow (f := XPoint.cells) (n := 1) [⟨r1, r2⟩] rfl _) ?_
  refine CJ_loop [3, 4, 5, 14, 15, 16, 17, 18, 19, 20, 21, 22, 23, 24, 25, 26, 27, 28, 29, 30, 31, 32, 33, 34, 35, 36, 37, 38] ((⟨fun g => [(3, g.1.2.2.val), (4, .int .i64 g.1.2.1)], fun g => g.1.2.2.L 78 XPoint.cells ++ (cblk c x g.1.1 :: []), fun _ => R, fun g => g.1.2.1.toNat⟩ : Head {g : Nat × Int × OwL XPoint // g.1 ≤ x.l.length ∧ g.2.2.ok 2 XPoint.cells ∧ CurveI g.2.1 g.2.2})) (⟨(k3, r3, ⟨.own b11 1 [], [⟨r1, r2⟩]⟩), hk3, built_ok (fun _ => rfl) rfl (by decide), ⟨by dsimp only; simp only [List.length_singleton]; omega, by simp, ⟨fun i q hq => by (cases i with | zero => cases hq; dsimp only; omega | succ i => cases hq), fun i q r hq hr => by cases hr⟩, by simp; omega, by simp; omega⟩⟩) (by repeat' (first | exact trivial | refine And.intro rfl ?_)) (by repeat (first | exact zs0 _ | exact zs1 _ | apply zs2 | apply zs3 | apply zs4 | apply zs5)) (allR_self _) ?_
  rintro ⟨⟨kk, n, y⟩, hkk, hok, hI⟩ junk
  try dsimp only
  dsimp only at hkk hok hI
  refine CJ_seq (CJ_seq (CJ_region ?_))
  refine LJ_q (yv_move (show _ = Value.int _ _ from rfl)) rfl ?_
  refine LJ_q (yv_gtr rfl rfl) rfl ?_
  refine LJ_nil (seqK_normal ?_)
  refine CJ_cond (show _ = Value.bool _ from rfl) (fun hc0 => ?_) (fun hc0 => ?_)
  ·
   try simp only [zb1, zb2, zb3, zb4, zb5, zb6, zb7, zb8] at hc0
   have hl := hI.len
   have hnn := hI.n
   have hla := hI.last
   have hgl := get_D (l := y.l) (k := y.l.length - 1) default (by omega)
   refine CJ_skip (seqK_normal (CJ_seq (CJ_block (CJ_seq (CJ_region ?_)))))
   refine LJ_q (yv_move (show _ = Value.slice _ _ _ from rfl)) rfl ?_
   refine LJ_q (yv_move (show _ = Value.slice _ _ _ from rfl)) rfl ?_
   refine LJ_q (yv_len tb rfl rfl rfl) rfl ?_
   refine LJ_q (by first | exact yv_sub64 rfl rfl (by omega) (by omega) | exact yv_sub rfl rfl) rfl ?_
   refine LJ_q (yv_index_ow tb (y) _ rfl rfl rfl rfl (by assumption) (i := y.l.length - 1) (by first | rfl | omega | (simp; omega)) (by first | omega | (dsimp only; omega) | (dsimp only; rw [List.length_set]; omega))) rfl ?_
   refine LJ_q (yv_loadN_ow (row := [_, _]) tb (y) rfl rfl rfl (by repeat (first | apply OSeg.cons | exact OSeg.here | exact OSeg.last | exact OSeg.at (by assumption) | apply OSeg.app)) (by assumption) (fun _ => rfl) (by assumption) (by rfl) (by rfl)) rfl ?_
   refine LJ_alloc tb rfl rfl ?_
   intro b5
   refine LJ_storeW tb rfl rfl rfl rfl (by repeat (first | apply zu0 | apply zu1 | apply zu2)) (by rfl) (by rfl) ?_
   refine LJ_nil (seqK_normal ?_)
   refine CJ_drawn2 tb [] [0, 1, 2, 3, 6, 7, 8, 4, 5, 9, 10, 11, 12, 13] [14, 15] ([Blk.mk b5 _ _]) _ mixed (by kernel_rfl) (by repeat (first | exact zs0 _ | exact zs1 _ | apply zs2 | apply zs3 | apply zs4 | apply zs5)) (List.nil_sublist _) ?_
   refine DJ3_q (yv_move (show _ = Value.slice _ _ _ from rfl)) rfl rfl rfl rfl ?_
   refine DJ3_q (yv_field tb rfl rfl rfl) rfl rfl rfl rfl ?_
   refine DJ3_q (yv_load1 tb rfl rfl rfl (by repeat (first | exact zi0 | apply zi1 | apply zi2)) (by rfl)) rfl rfl rfl rfl ?_
   refine DJ3_q (yv_move (show _ = Value.pointer _ from rfl)) rfl rfl rfl rfl ?_
   refine DJ3_q (yv_field tb rfl rfl rfl) rfl rfl rfl rfl ?_
   refine DJ3_q (yv_load1 tb rfl rfl rfl (by repeat (first | exact zi0 | apply zi1 | apply zi2)) (by rfl)) rfl rfl rfl rfl ?_
   refine DJ3_q (yv_move (show _ = Value.pointer _ from rfl)) rfl rfl rfl rfl ?_
   refine DJ3_call rfl (range1 (by repeat (first | apply USeg.here | apply USeg.cons | apply USeg.app)) hx hkk (by omega)) rfl rfl ?_
   rintro v L' R' ⟨r4, k4, rfl, g4, g4', hk4, rfl, rfl⟩
   refine ⟨(by repeat (first | exact zs0 _ | exact zs1 _ | apply zs2 | apply zs3 | apply zs4 | apply zs5)), (by first | exact allR_self _ | exact (fun r h => inR_self (by simp [h]))), ?_⟩
   refine DJ3_q (by first | exact yv_add64 rfl rfl (by omega) (by omega) | exact yv_addU rfl rfl (by omega) (by omega) | exact yv_add rfl rfl) rfl rfl rfl rfl ?_
   refine DJ3_call rfl (next1 (by repeat (first | apply USeg.here | apply USeg.cons | apply USeg.app)) hx hk4 (by omega)) rfl rfl ?_
   rintro v L' R' ⟨r5, k5, rfl, g5, g5', g5'', hk5, rfl, rfl⟩
   refine ⟨(by repeat (first | exact zs0 _ | exact zs1 _ | apply zs2 | apply zs3 | apply zs4 | apply zs5)), (by first | exact allR_self _ | exact (fun r h => inR_self (by simp [h]))), ?_⟩
   refine DJ3_q (by first | exact yv_sub64 rfl rfl (by omega) (by omega) | exact yv_sub rfl rfl) rfl rfl rfl rfl ?_
   refine DJ3_q (yv_max2 rfl rfl) rfl rfl rfl rfl ?_
   refine DJ3_q (yv_build (qs := [(0, (Value.int _ _).cells.toList), (1, (Value.int _ _).cells.toList)]) (out := [_, _]) tb rfl rfl rfl rfl) rfl rfl rfl rfl ?_
   refine DJ3_g (gives_buildSlice (qs := [(0, (Value.agg _).cells.toList)]) (out := [_, _]) tb rfl rfl rfl rfl rfl rfl rfl) rfl rfl rfl ?_
   rintro v L' R' ⟨b37, rfl, rfl, hR37⟩
   replace hR37 := hR37.symm; subst hR37
   refine ⟨(by repeat (first | exact zs0 _ | exact zs1 _ | apply zs2 | apply zs3 | apply zs4 | apply zs5)), allR_self _, ?_⟩
   refine DJ3_phase ?_
   refine DJ_g (gives_append1 (f := XPoint.cells) (p := y) (a := ⟨(y.l.getD (y.l.length - 1) default).flow + r4, max 0 ((y.l.getD (y.l.length - 1) default).pres - r5)⟩) tb rfl rfl rfl rfl (hok) (by repeat (first | apply OSeg.cons | exact OSeg.here | exact OSeg.last | exact OSeg.at (by assumption) | apply OSeg.app)) (shown_own (by repeat (first | exact zi0 | apply zi1 | apply zi2)) rfl rfl) rfl (by first | omega | (simp only [List.length_cons, List.length_nil, List.length_append]; omega))) rfl rfl rfl ?_
   rintro v L' R' ⟨o38, rfl, hok38, rfl, rfl⟩
   refine ⟨(by repeat (first | exact zs0 _ | exact zs1 _ | apply zs2 | apply zs3 | apply zs4 | apply zs5)), allR_self _, ?_⟩
   refine DJ_q (yv_assign (show _ = Value.slice _ _ _ from rfl)) rfl rfl rfl ?_
   refine DJ_nil (blockK_normal (seqK_normal (CJ_region ?_)))
   refine LJ_q (yv_move (show _ = Value.int _ _ from rfl)) rfl ?_
   refine LJ_q (by first | exact yv_sub64 rfl rfl (by omega) (by omega) | exact yv_sub rfl rfl) rfl ?_
   refine LJ_q (yv_assign (show _ = Value.int _ _ from rfl)) rfl ?_
   refine LJ_nil ?_
   exact loopK_mk ⟨(k5, n - 1, _), hk5, hok38, hI.next hc0 ⟨g4, g4'⟩ ⟨g5, by have := g5' (by omega); omega⟩ rfl rfl⟩ (by repeat (first | exact Off.refl | apply Off.upd rfl | apply Off.havoc rfl | apply Off.updL rfl | apply Off.left rfl)) (by repeat' (first | exact trivial | refine And.intro rfl ?_)) (by repeat (first | exact zs0 _ | exact zs1 _ | apply zs2 | apply zs3 | apply zs4 | apply zs5)) (allR_self _) (by dsimp only; omega)
  ·
   try simp only [zb1, zb2, zb3, zb4, zb5, zb6, zb7, zb8] at hc0
   refine CJ_exit (seqK_exit (loopK_exit (blockK_exit (seqK_normal (CJ_seq ?_)))))
   refine CJ_frzO [] hok (fun _ => rfl) (by decide) (fun s hs => by cases hs) ?_
   refine CJ_region ?_
   refine LJ_q (yv_move (show _ = Value.slice _ _ _ from rfl)) rfl ?_
   refine LJ_q (yv_assign (show _ = Value.slice _ _ _ from rfl)) rfl ?_
   refine LJ_nil (seqK_normal (CJ_ret ?_))
   refine retK_ret (L' := [cblk c x kk]) (R' := ptsl y.arr :: R) (res1 rfl (rv_tmp (show _ = Value.slice _ _ _ from rfl))) ?hp ?hL ?hR
   case hp => exact ⟨y.arr, kk, rfl, ⟨⟨hI.len, by have := hI.n; dsimp only; omega⟩, hI.cok, hI.top⟩, hkk, rfl, rfl⟩
   case hL => exact (by repeat (first | exact zs0 _ | exact zs1 _ | apply zs2 | apply zs3 | apply zs4 | apply zs5))
   case hR => exact allR_self _

/-- a drawn door -/
structure MadeDoor (road : Int) (d : XDoor) : Prop where
  road : d.road = road
  other : d.other = -1
  len : 2 ≤ d.rests.l.length ∧ d.rests.l.length ≤ 4
  rest : ∀ (i : Nat) (v : Int), d.rests.l[i]? = some v → 0 ≤ v ∧ v ≤ 900
  falls : fallsB d.rests.l d.rests.l.length = true

theorem fallsB_append {l m : List Int} : ∀ {k : Nat}, k ≤ l.length → fallsB (l ++ m) k = fallsB l k
  | 0, _ => rfl
  | k + 1, hk => by
    rw [fallsB, fallsB, fallsB_append (by omega), getD_append_left (by omega)]
    rcases k with _ | k
    · rfl
    · rw [getD_append_left (by omega)]

structure DoorI (n : Int) (l : List Int) : Prop where
  n : 0 ≤ n ∧ (l.length : Int) + n ≤ 4 ∧ 2 ≤ (l.length : Int) + n
  len : 1 ≤ l.length
  rest : ∀ (i : Nat) (v : Int), l[i]? = some v → 0 ≤ v ∧ v ≤ 900
  falls : fallsB l l.length = true
  last : 260 - 60 * (l.length : Int) ≤ l.getD (l.length - 1) 0

theorem DoorI.next {n : Int} {l : List Int} (h : DoorI n l) (hn : 0 < n) {b v : Int} (hb : 1 ≤ b ∧ b ≤ 60) (hv : v = max 0 (l.getD (l.length - 1) 0 - b)) : DoorI (n - 1) (l ++ [v]) := by
  have hl := h.len
  have hnn := h.n
  have hla := h.last
  have hlr := h.rest _ _ (get_D (l := l) (k := l.length - 1) 0 (by omega))
  have e1 : (l ++ [v]).length = l.length + 1 := by simp
  refine ⟨by rw [e1]; omega, by omega, fun i w hw => ?_, ?_, ?_⟩
  · rw [List.getElem?_append] at hw
    split at hw
    · exact h.rest i w hw
    · rw [List.getElem?_singleton] at hw
      split at hw
      · cases hw; omega
      · cases hw
  · rw [e1, fallsB, fallsB_append (Nat.le_refl _), h.falls, getD_append_last rfl, getD_append_left (by omega)]
    simp only [Bool.true_and, Bool.or_eq_true, decide_eq_true_eq]
    omega
  · rw [e1, getD_append_last (by omega)]
    omega

theorem drawDoor_tri (c : Nat) (x : Arr Int) (k : Nat) (road : Int) (R : List Sl) (hx : CodesR x R) (hk : k ≤ x.l.length) :
    Tri Try.prog 14 [.pointer (some ⟨c, 0, none⟩), .int .i64 road].toArray [cblk c x k] R
      (fun v L' R' => ∃ (d : XDoor) (k' : Nat), v = d.val ∧ MadeDoor road d ∧ k' ≤ x.l.length ∧ [cblk c x k'] = L' ∧ d.sl :: R = R') := by
  refine tri_enter 36 Try.call14 Try.func14 rfl rfl rfl ?_
  refine CJ_seq (CJ_region ?_)
  refine LJ_alloc tb rfl rfl ?_
  intro b4
  refine LJ_nil (seqK_normal (CJ_seq (CJ_region ?_)))
  refine LJ_q (yv_move (show _ = Value.int _ _ from rfl)) rfl ?_
  refine LJ_q (yv_move (show _ = Value.pointer _ from rfl)) rfl ?_
  refine LJ_call rfl (range1 (by repeat (first | apply USeg.here | apply USeg.cons | apply USeg.app)) hx hk (by omega)) rfl ?_
  rintro v L' R' ⟨r1, k1, rfl, g1, g1', hk1, rfl, rfl⟩
  refine LJ_g (gives_buildSlice (qs := [(0, (Value.int _ _).cells.toList)]) (out := [_]) tb rfl rfl rfl rfl rfl rfl rfl) rfl ?_
  rintro v L' R' ⟨b10, rfl, rfl, hR10⟩
  replace hR10 := hR10.symm; subst hR10
  refine LJ_q (yv_build (qs := [(0, (Value.int _ _).cells.toList), (1, (Value.int _ _).cells.toList), (2, (Value.slice _ _ _).cells.toList)]) (out := [_, _, _]) tb rfl rfl rfl rfl) rfl ?_
  refine LJ_alloc tb rfl rfl ?_
  intro b5
  refine LJ_storeW tb rfl rfl rfl rfl (by repeat (first | apply zu0 | apply zu1 | apply zu2)) (by rfl) (by rfl) ?_
  refine LJ_nil (seqK_normal (CJ_seq (CJ_seq (CJ_region ?_))))
  refine LJ_q (yv_move (show _ = Value.pointer _ from rfl)) rfl ?_
  refine LJ_call rfl (range1 (by repeat (first | apply USeg.here | apply USeg.cons | apply USeg.app)) hx hk1 (by omega)) rfl ?_
  rintro v L' R' ⟨r2, k2, rfl, g2, g2', hk2, rfl, rfl⟩
  refine LJ_q (yv_assign (show _ = Value.int _ _ from rfl)) rfl ?_
  refine LJ_nil (seqK_normal (CJ_block ?_))
  refine CJ_forget [(0, Value.pointer _), (4, Value.pointer _), (5, Value.pointer _), (6, Value.int _ _)] (by repeat' (first | exact trivial | refine And.intro rfl ?_)) fun tq0 => ?_
  refine CJ_L (congrArg (List.cons _) (built_ow (f := icell) (n := 1) [r1] rfl _)) ?_
  refine CJ_loop [6, 14, 15, 16, 17, 18, 19, 20, 21, 22, 23, 24, 25, 26, 27, 28, 29, 30, 31, 32, 33, 34] ((⟨fun g => [(6, .int .i64 g.1.2.1)], fun g => ⟨b5, [.int .i64 road, .int .i64 (-1), g.1.2.2.val], 46⟩ :: (g.1.2.2.L 3 icell ++ (⟨b4, [.int .i64 0, .int .i64 0, .slice none 0 0], 46⟩ :: cblk c x g.1.1 :: [])), fun _ => R, fun g => g.1.2.1.toNat⟩ : Head {g : Nat × Int × OwL Int // g.1 ≤ x.l.length ∧ g.2.2.ok 1 icell ∧ DoorI g.2.1 g.2.2.l})) (⟨(k2, r2, ⟨.own b10 1 [], [r1]⟩), hk2, built_ok (fun _ => rfl) rfl (by decide), ⟨by dsimp only; simp only [List.length_singleton]; omega, by simp, fun i q hq => by (cases i with | zero => cases hq; omega | succ i => cases hq), rfl, by simp; omega⟩⟩) (by repeat' (first | exact trivial | refine And.intro rfl ?_)) (by repeat (first | exact zs0 _ | exact zs1 _ | apply zs2 | apply zs3 | apply zs4 | apply zs5)) (allR_self _) ?_
  rintro ⟨⟨kk, n, y⟩, hkk, hok, hI⟩ junk
  try dsimp only
  dsimp only at hkk hok hI
  refine CJ_seq (CJ_seq (CJ_region ?_))
  refine LJ_q (yv_move (show _ = Value.int _ _ from rfl)) rfl ?_
  refine LJ_q (yv_gtr rfl rfl) rfl ?_
  refine LJ_nil (seqK_normal ?_)
  refine CJ_cond (show _ = Value.bool _ from rfl) (fun hc0 => ?_) (fun hc0 => ?_)
  ·
   try simp only [zb1, zb2, zb3, zb4, zb5, zb6, zb7, zb8] at hc0
   have hl := hI.len
   have hnn := hI.n
   have hgl := get_D (l := y.l) (k := y.l.length - 1) 0 (by omega)
   have hlr := hI.rest _ _ hgl
   refine CJ_skip (seqK_normal (CJ_seq (CJ_block ?_)))
   refine CJ_drawn2 tb [] [0, 1, 2, 3, 4, 5, 6, 7, 8, 9, 10, 11, 12, 13, 14] [15, 16, 17] ([Blk.mk b5 _ _] ++ (y.L 3 icell ++ [])) _ mixed (by kernel_rfl) (by repeat (first | exact zs0 _ | exact zs1 _ | apply zs2 | apply zs3 | apply zs4 | apply zs5)) (List.nil_sublist _) ?_
   refine DJ3_q (yv_field tb rfl rfl rfl) rfl rfl rfl rfl ?_
   refine DJ3_q (yv_load1 tb rfl rfl rfl (by repeat (first | exact zi0 | apply zi1 | apply zi2)) (by rfl)) rfl rfl rfl rfl ?_
   refine DJ3_q (yv_field tb rfl rfl rfl) rfl rfl rfl rfl ?_
   refine DJ3_q (yv_load1 tb rfl rfl rfl (by repeat (first | exact zi0 | apply zi1 | apply zi2)) (by rfl)) rfl rfl rfl rfl ?_
   refine DJ3_q (yv_field tb rfl rfl rfl) rfl rfl rfl rfl ?_
   refine DJ3_q (yv_load1 tb rfl rfl rfl (by repeat (first | exact zi0 | apply zi1 | apply zi2)) (by rfl)) rfl rfl rfl rfl ?_
   refine DJ3_q (yv_len tb rfl rfl rfl) rfl rfl rfl rfl ?_
   refine DJ3_q (by first | exact yv_sub64 rfl rfl (by omega) (by omega) | exact yv_sub rfl rfl) rfl rfl rfl rfl ?_
   refine DJ3_q (yv_index_ow tb (y) _ rfl rfl rfl rfl (by assumption) (i := y.l.length - 1) (by first | rfl | omega | (simp; omega)) (by first | omega | (dsimp only; omega) | (dsimp only; rw [List.length_set]; omega))) rfl rfl rfl rfl ?_
   refine DJ3_q (yv_load1_ow tb (y) rfl rfl rfl (by repeat (first | apply OSeg.cons | exact OSeg.here | exact OSeg.last | exact OSeg.at (by assumption) | apply OSeg.app)) (by assumption) (fun _ => rfl) (by assumption) (by rfl)) rfl rfl rfl rfl ?_
   refine DJ3_q (yv_move (show _ = Value.pointer _ from rfl)) rfl rfl rfl rfl ?_
   refine DJ3_call rfl (range1 (by repeat (first | apply USeg.here | apply USeg.cons | apply USeg.app)) hx hkk (by omega)) rfl rfl ?_
   rintro v L' R' ⟨r4, k4, rfl, g4, g4', hk4, rfl, rfl⟩
   refine ⟨(by repeat (first | exact zs0 _ | exact zs1 _ | apply zs2 | apply zs3 | apply zs4 | apply zs5)), (by first | exact allR_self _ | exact (fun r h => inR_self (by simp [h]))), ?_⟩
   refine DJ3_q (by first | exact yv_sub64 rfl rfl (by omega) (by omega) | exact yv_sub rfl rfl) rfl rfl rfl rfl ?_
   refine DJ3_q (yv_max2 rfl rfl) rfl rfl rfl rfl ?_
   refine DJ3_g (gives_buildSlice (qs := [(0, (Value.int _ _).cells.toList)]) (out := [_]) tb rfl rfl rfl rfl rfl rfl rfl) rfl rfl rfl ?_
   rintro v L' R' ⟨b32, rfl, rfl, hR32⟩
   replace hR32 := hR32.symm; subst hR32
   refine ⟨(by repeat (first | exact zs0 _ | exact zs1 _ | apply zs2 | apply zs3 | apply zs4 | apply zs5)), allR_self _, ?_⟩
   refine DJ3_phase ?_
   refine DJ_g (gives_append1 (f := icell) (p := y) (a := max 0 (y.l.getD (y.l.length - 1) 0 - r4)) tb rfl rfl rfl rfl (hok) (by repeat (first | apply OSeg.cons | exact OSeg.here | exact OSeg.last | exact OSeg.at (by assumption) | apply OSeg.app)) (shown_own (by repeat (first | exact zi0 | apply zi1 | apply zi2)) rfl rfl) rfl (by first | omega | (simp only [List.length_cons, List.length_nil, List.length_append]; omega))) rfl rfl rfl ?_
   rintro v L' R' ⟨o33, rfl, hok33, rfl, rfl⟩
   refine ⟨(by repeat (first | exact zs0 _ | exact zs1 _ | apply zs2 | apply zs3 | apply zs4 | apply zs5)), allR_self _, ?_⟩
   refine DJ_q (yv_field tb rfl rfl rfl) rfl rfl rfl ?_
   refine DJ_store1 (v := Value.slice _ _ _) rfl rfl rfl rfl (by repeat (first | apply zu0 | apply zu1 | apply zu2)) (by first | exact icell_fit (by omega) | rfl) (by first | exact icell_set | rfl) (by rfl) (by repeat (first | exact zs0 _ | exact zs1 _ | apply zs2 | apply zs3 | apply zs4 | apply zs5)) ?_
   refine DJ_nil (blockK_normal (seqK_normal (CJ_region ?_)))
   refine LJ_q (yv_move (show _ = Value.int _ _ from rfl)) rfl ?_
   refine LJ_q (by first | exact yv_sub64 rfl rfl (by omega) (by omega) | exact yv_sub rfl rfl) rfl ?_
   refine LJ_q (yv_assign (show _ = Value.int _ _ from rfl)) rfl ?_
   refine LJ_nil ?_
   exact loopK_mk ⟨(k4, n - 1, _), hk4, hok33, hI.next hc0 ⟨g4, g4'⟩ rfl⟩ (by repeat (first | exact Off.refl | apply Off.upd rfl | apply Off.havoc rfl | apply Off.updL rfl | apply Off.left rfl)) (by repeat' (first | exact trivial | refine And.intro rfl ?_)) (by repeat (first | exact zs0 _ | exact zs1 _ | apply zs2 | apply zs3 | apply zs4 | apply zs5)) (allR_self _) (by dsimp only; omega)
  ·
   try simp only [zb1, zb2, zb3, zb4, zb5, zb6, zb7, zb8] at hc0
   refine CJ_exit (seqK_exit (loopK_exit (blockK_exit (seqK_normal (CJ_seq ?_)))))
   refine CJ_frz1 (A := [_]) (wd := 1) [] (fun _ => rfl) (by decide) hok (fun s hs => by cases hs) ?_
   refine CJ_L (by simp only [List.cons_append, List.nil_append]; rfl) ?_
   refine CJ_region ?_
   refine LJ_q (yv_loadN (row := [_, _, _]) tb rfl rfl rfl (by repeat (first | exact zi0 | apply zi1 | apply zi2)) (by rfl) (by rfl)) rfl ?_
   refine LJ_storeW tb rfl rfl rfl rfl (by repeat (first | apply zu0 | apply zu1 | apply zu2)) (by rfl) (by rfl) ?_
   refine LJ_nil (seqK_normal (CJ_ret ?_))
   refine retK_ret (L' := [cblk c x kk]) (R' := (y.arr.sl 1 icell []) :: R) (res1 rfl (rv_cell (row := [_, _, _]) tb rfl rfl rfl (by repeat (first | exact zi0 | apply zi1 | apply zi2)) (by rfl) (by rfl))) ?hp ?hL ?hR
   case hp => exact ⟨⟨road, -1, y.arr⟩, kk, rfl, ⟨rfl, rfl, by have := hI.n; dsimp only; omega, hI.rest, hI.falls⟩, hkk, rfl, rfl⟩
   case hL => exact (by repeat (first | exact zs0 _ | exact zs1 _ | apply zs2 | apply zs3 | apply zs4 | apply zs5))
   case hR => exact allR_self _
end Go.Proofs.Ytimnnhdeicpenaa
