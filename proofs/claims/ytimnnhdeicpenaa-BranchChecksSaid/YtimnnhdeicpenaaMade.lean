/-
  The draws: a made air. By an AI agent; no person has read it.
-/
import Derived.Test.YtimnnhdeicpenaaMadeS
set_option linter.unusedSimpArgs false
set_option linter.unusedVariables false
namespace Go.Proofs.Ytimnnhdeicpenaa
open Go.Aw Go
set_option maxRecDepth 20000
attribute [local irreducible] CJ LJ DJ Tri YV Gives seqK blockK loopK retK RV mergeK OwL.L

structure MadeO where
  places : OwL XPlace
  roads : OwL XRoad
  fans : OwL XFan
  doors : OwL XDoor
  tf : OwL Int
  td : OwL Int
  pres : OwL Int
  flows : OwL Int
abbrev MadeO.a (m : MadeO) : XAir := ⟨⟨m.places.arr, m.roads.arr⟩, m.fans.arr, m.doors.arr⟩
abbrev MadeO.t (m : MadeO) : XSetting := ⟨m.tf.arr, m.td.arr⟩
abbrev MadeO.x (m : MadeO) : XState := ⟨m.pres.arr, m.flows.arr⟩
/-- the blocks of a made air, with the codes' own one -/
abbrev MadeO.L (m : MadeO) (cb : Blk) : List Blk :=
  m.pres.L 3 icell ++ (m.places.L 70 XPlace.cells ++ (m.flows.L 3 icell ++ (m.fans.L 44 XFan.cells ++ (m.doors.L 46 XDoor.cells ++ (m.roads.L 64 XRoad.cells ++ (cb :: (m.tf.L 3 icell ++ (m.td.L 3 icell ++ []))))))))
structure MadeO.Ok (m : MadeO) : Prop where
  places : m.places.ok 2 XPlace.cells
  roads : m.roads.ok 10 XRoad.cells
  fans : m.fans.ok 4 XFan.cells
  doors : m.doors.ok 3 XDoor.cells
  tf : m.tf.ok 1 icell
  td : m.td.ok 1 icell
  pres : m.pres.ok 1 icell
  flows : m.flows.ok 1 icell

theorem PlacesD.snoc {sh : Nat} {pl : List XPlace} (h : PlacesD sh pl) (hl : pl.length < sh + 4) {z : Int} (hz : 0 ≤ z ∧ z ≤ 99) : PlacesD sh (pl ++ [⟨-z, false⟩]) := by
  have := h.len
  refine ⟨h.shb, by simp only [List.length_append, List.length_singleton]; omega, fun i p hp => ?_⟩
  rw [List.getElem?_append] at hp
  split at hp
  · exact h.val i p hp
  · rw [List.getElem?_singleton] at hp
    split at hp
    · cases hp
      refine ⟨by dsimp only; omega, ?_⟩
      dsimp only
      symm
      rw [decide_eq_false_iff_not]
      omega
    · cases hp

theorem rem_other {n f j : Int} (hf : 0 ≤ f ∧ f < n) (hj : 0 ≤ j ∧ j < n - 1) : 0 ≤ (f + 1 + j).tmod n ∧ (f + 1 + j).tmod n < n ∧ f ≠ (f + 1 + j).tmod n := by
  rw [Int.tmod_eq_emod_of_nonneg (by omega)]
  have h1 := Int.emod_nonneg (f + 1 + j) (show n ≠ 0 by omega)
  have h2 := Int.emod_lt_of_pos (f + 1 + j) (show 0 < n by omega)
  refine ⟨h1, h2, ?_⟩
  rcases Int.lt_or_le (f + 1 + j) n with h | h
  · rw [Int.emod_eq_of_lt (by omega) h]; omega
  · have : (f + 1 + j) % n = f + 1 + j - n := by
      have e : f + 1 + j = (f + 1 + j - n) + n := by omega
      rw [e, Int.add_emod_right, Int.emod_eq_of_lt (by omega) (by omega)]
      omega
    omega

theorem made_tri (c : Nat) (x : Arr Int) (k : Nat) (R : List Sl) (hx : CodesR x R) (hk : k ≤ x.l.length) :
    Tri Try.prog 11 [.pointer (some ⟨c, 0, none⟩)].toArray [cblk c x k] R
      (fun v L' R' => ∃ (m : MadeO) (k' : Nat) (S : List Sl), v = .tuple #[m.a.val, m.t.val, m.x.val] ∧ m.Ok ∧ MadeA m.a m.t m.x ∧ (∀ f ∈ m.fans.l, InR f.sl S) ∧ (∀ d ∈ m.doors.l, InR d.sl S) ∧ k' ≤ x.l.length ∧ m.L (cblk c x k') = L' ∧ S ++ R = R') := by
  refine tri_enter 189 Try.call11 Try.func11 rfl rfl rfl ?_
  refine CJ_seq (CJ_region ?_)
  refine LJ_alloc tb rfl rfl ?_
  intro b2
  refine LJ_alloc tb rfl rfl ?_
  intro b3
  refine LJ_alloc tb rfl rfl ?_
  intro b4
  refine LJ_nil (seqK_normal (CJ_seq (CJ_region ?_)))
  refine LJ_q (yv_build (qs := [(1, (Value.bool _).cells.toList)]) (out := [_, _]) tb rfl rfl rfl rfl) rfl ?_
  refine LJ_g (gives_buildSlice (qs := [(0, (Value.agg _).cells.toList)]) (out := [_, _]) tb rfl rfl rfl rfl rfl rfl rfl) rfl ?_
  rintro v L' R' ⟨b21, rfl, rfl, hR21⟩
  replace hR21 := hR21.symm; subst hR21
  refine LJ_q (yv_build (qs := [(0, (Value.slice _ _ _).cells.toList)]) (out := [_, _]) tb rfl rfl rfl rfl) rfl ?_
  refine LJ_q (yv_build (qs := [(0, (Value.agg _).cells.toList)]) (out := [_, _, _, _]) tb rfl rfl rfl rfl) rfl ?_
  refine LJ_alloc tb rfl rfl ?_
  intro b5
  refine LJ_storeW tb rfl rfl rfl rfl (by repeat (first | apply zu0 | apply zu1 | apply zu2)) (by rfl) (by rfl) ?_
  refine LJ_nil (seqK_normal (CJ_seq (CJ_seq ?_)))
  refine CJ_perm (List.perm_append_comm (l₁ := [_, _, _, _, _]) (l₂ := [_])) ?_
  refine CJ_L (congrArg (List.cons _) (congrArg (List.cons _) (built_ow (f := XPlace.cells) (n := 1) [⟨0, true⟩] rfl _))) ?_
  refine CJ_region ?_
  refine LJ_q (yv_move (show _ = Value.pointer _ from rfl)) rfl ?_
  refine LJ_call rfl (one1 (by repeat (first | apply USeg.here | apply USeg.cons | apply USeg.app)) hx hk (by omega)) rfl ?_
  rintro v L' R' ⟨r1, k1, rfl, hk1, rfl, rfl⟩
  refine LJ_nil (seqK_normal ?_)
  refine CJ_joinS [26, 27, 28, 29, 30, 31, 32, 33] ((⟨fun g => [], fun g => cblk c x k1 :: ⟨b5, [g.1.1.val, .slice none 0 0, .slice none 0 0, .slice none 0 0], 30⟩ :: (g.1.1.L 70 XPlace.cells ++ (⟨b4, [.slice none 0 0, .slice none 0 0], 37⟩ :: ⟨b3, [.slice none 0 0, .slice none 0 0], 33⟩ :: ⟨b2, [.slice none 0 0, .slice none 0 0, .slice none 0 0, .slice none 0 0], 30⟩ :: [])), fun _ => R, fun _ => 0⟩ : Head {g : OwL XPlace × Unit // g.1.ok 2 XPlace.cells ∧ g.1.l.length ≤ 2 ∧ PlacesD g.1.l.length g.1.l})) ?_ ?_
  ·
   skip
   refine CJ_cond (show _ = Value.bool _ from rfl) (fun hc0 => ?_) (fun hc0 => ?_)
   ·
    try simp only [zb1, zb2, zb3, zb4, zb5, zb6, zb7, zb8] at hc0
    refine CJ_region ?_
    refine LJ_q (yv_field tb rfl rfl rfl) rfl ?_
    refine LJ_q (yv_field tb rfl rfl rfl) rfl ?_
    refine LJ_q (yv_load1 tb rfl rfl rfl (by repeat (first | exact zi0 | apply zi1 | apply zi2)) (by rfl)) rfl ?_
    refine LJ_q (yv_build (qs := [(1, (Value.bool _).cells.toList), (0, (Value.int _ _).cells.toList)]) (out := [_, _]) tb rfl rfl rfl rfl) rfl ?_
    refine LJ_g (gives_buildSlice (qs := [(0, (Value.agg _).cells.toList)]) (out := [_, _]) tb rfl rfl rfl rfl rfl rfl rfl) rfl ?_
    rintro v L' R' ⟨b30, rfl, rfl, hR30⟩
    replace hR30 := hR30.symm; subst hR30
    refine LJ_g (gives_append1 (f := XPlace.cells) (p := ⟨.own b21 1 [], [⟨0, true⟩]⟩) (a := ⟨10, true⟩) tb rfl rfl rfl rfl (built_ok (fun _ => rfl) rfl (by decide)) (by repeat (first | apply OSeg.cons | exact OSeg.here | exact OSeg.last | exact OSeg.at (by assumption) | apply OSeg.app)) (shown_own (by repeat (first | exact zi0 | apply zi1 | apply zi2)) rfl rfl) rfl (by first | omega | (simp only [List.length_cons, List.length_nil, List.length_append]; omega))) rfl ?_
    rintro v L' R' ⟨o31, rfl, hok31, rfl, rfl⟩
    refine LJ_q (yv_field tb rfl rfl rfl) rfl ?_
    refine LJ_q (yv_field tb rfl rfl rfl) rfl ?_
    refine LJ_store1 (v := Value.slice _ _ _) tb rfl rfl rfl rfl (by repeat (first | apply zu0 | apply zu1 | apply zu2)) (by first | exact icell_fit (by omega) | rfl) (by first | exact icell_set | rfl) (by rfl) ?_
    refine LJ_nil ?_
    exact joinK_mk ⟨(⟨o31, _⟩, ()), hok31, by simp, ⟨by simp, by simp, fun i p hp => by (cases i with | zero => cases hp; exact ⟨by decide, rfl⟩ | succ i => (cases i with | zero => cases hp; exact ⟨by decide, rfl⟩ | succ i => cases hp))⟩⟩ (by repeat (first | exact Off.refl | apply Off.upd rfl | apply Off.havoc rfl | apply Off.updL rfl | apply Off.left rfl)) (by repeat' (first | exact trivial | refine And.intro rfl ?_)) (by repeat (first | exact zs0 _ | exact zs1 _ | apply zs2 | apply zs3 | apply zs4 | apply zs5)) (allR_self _)
   ·
    try simp only [zb1, zb2, zb3, zb4, zb5, zb6, zb7, zb8] at hc0
    refine CJ_skip ?_
    exact joinK_mk ⟨(⟨.own b21 1 [], [⟨0, true⟩]⟩, ()), built_ok (fun _ => rfl) rfl (by decide), by simp, ⟨by simp, by simp, fun i p hp => by (cases i with | zero => cases hp; exact ⟨by decide, rfl⟩ | succ i => cases hp)⟩⟩ (by repeat (first | exact Off.refl | apply Off.upd rfl | apply Off.havoc rfl | apply Off.updL rfl | apply Off.left rfl)) (by repeat' (first | exact trivial | refine And.intro rfl ?_)) (by repeat (first | exact zs0 _ | exact zs1 _ | apply zs2 | apply zs3 | apply zs4 | apply zs5)) (allR_self _)
  ·
   rintro ⟨⟨pl0, _⟩, hok0, hl0, hP0⟩ junk
   try dsimp only
   dsimp only at hok0 hl0 hP0
   refine CJ_seq (CJ_region ?_)
   refine LJ_q (yv_field tb rfl rfl rfl) rfl ?_
   refine LJ_q (yv_field tb rfl rfl rfl) rfl ?_
   refine LJ_q (yv_load1 tb rfl rfl rfl (by repeat (first | exact zi0 | apply zi1 | apply zi2)) (by rfl)) rfl ?_
   refine LJ_q (yv_len tb rfl rfl rfl) rfl ?_
   refine LJ_q (yv_assign (show _ = Value.int _ _ from rfl)) rfl ?_
   refine LJ_nil (seqK_normal (CJ_seq (CJ_seq (CJ_region ?_))))
   refine LJ_q (yv_move (show _ = Value.pointer _ from rfl)) rfl ?_
   refine LJ_call rfl (next1 (by repeat (first | apply USeg.here | apply USeg.cons | apply USeg.app)) hx hk1 (by omega)) rfl ?_
   rintro v L' R' ⟨r2, k2, rfl, g2, g2', g2'', hk2, rfl, rfl⟩
   refine LJ_q (yv_assign (show _ = Value.int _ _ from rfl)) rfl ?_
   refine LJ_nil (seqK_normal (CJ_block ?_))
   refine CJ_forget [(0, Value.pointer _), (2, Value.pointer _), (3, Value.pointer _), (4, Value.pointer _), (5, Value.pointer _), (6, Value.int _ _), (7, Value.int _ _)] (by repeat' (first | exact trivial | refine And.intro rfl ?_)) fun tq0 => ?_
   have g2q := g2' (by omega)
   refine CJ_loop [7, 40, 41, 42, 43, 44, 45, 46, 47, 48, 49, 50, 51, 52, 53, 54] ((⟨fun g => [(7, .int .i64 g.1.2.1)], fun g => cblk c x g.1.1 :: ⟨b5, [g.1.2.2.val, .slice none 0 0, .slice none 0 0, .slice none 0 0], 30⟩ :: (g.1.2.2.L 70 XPlace.cells ++ (⟨b4, [.slice none 0 0, .slice none 0 0], 37⟩ :: ⟨b3, [.slice none 0 0, .slice none 0 0], 33⟩ :: ⟨b2, [.slice none 0 0, .slice none 0 0, .slice none 0 0, .slice none 0 0], 30⟩ ::  [])), fun _ => R, fun g => g.1.2.1.toNat⟩ : Head {g : Nat × Int × OwL XPlace // g.1 ≤ x.l.length ∧ g.2.2.ok 2 XPlace.cells ∧ PlacesD pl0.l.length g.2.2.l ∧ 0 ≤ g.2.1 ∧ (g.2.2.l.length : Int) + g.2.1 ≤ (pl0.l.length : Int) + 4})) (⟨(k2, r2, pl0), hk2, hok0, hP0, g2, by dsimp only; omega⟩) (by repeat' (first | exact trivial | refine And.intro rfl ?_)) (by repeat (first | exact zs0 _ | exact zs1 _ | apply zs2 | apply zs3 | apply zs4 | apply zs5)) (allR_self _) ?_
   rintro ⟨⟨kk, m, pl⟩, hkk, hok, hP, hm0, hm1⟩ junk
   try dsimp only
   dsimp only at hkk hok hP hm0 hm1
   refine CJ_seq (CJ_seq ?_)
   have g2q := g2' (by omega)
   refine CJ_region ?_
   refine LJ_q (yv_move (show _ = Value.int _ _ from rfl)) rfl ?_
   refine LJ_q (yv_gtr rfl rfl) rfl ?_
   refine LJ_nil (seqK_normal ?_)
   refine CJ_cond (show _ = Value.bool _ from rfl) (fun hc1 => ?_) (fun hc1 => ?_)
   ·
    try simp only [zb1, zb2, zb3, zb4, zb5, zb6, zb7, zb8] at hc1
    refine CJ_skip (seqK_normal (CJ_seq (CJ_block ?_)))
    refine CJ_drawn2 tb [] [0, 1, 2, 3, 4, 5, 6, 7] [8, 9, 10, 11] ([Blk.mk b5 _ _]) _ mixed (by kernel_rfl) (by repeat (first | exact zs0 _ | exact zs1 _ | apply zs2 | apply zs3 | apply zs4 | apply zs5)) (List.nil_sublist _) ?_
    refine DJ3_q (yv_field tb rfl rfl rfl) rfl rfl rfl rfl ?_
    refine DJ3_q (yv_field tb rfl rfl rfl) rfl rfl rfl rfl ?_
    refine DJ3_q (yv_load1 tb rfl rfl rfl (by repeat (first | exact zi0 | apply zi1 | apply zi2)) (by rfl)) rfl rfl rfl rfl ?_
    refine DJ3_q (yv_move (show _ = Value.pointer _ from rfl)) rfl rfl rfl rfl ?_
    refine DJ3_call rfl (next1 (by repeat (first | apply USeg.here | apply USeg.cons | apply USeg.app)) hx hkk (by omega)) rfl rfl ?_
    rintro v L' R' ⟨r3, k3, rfl, g3, g3', g3'', hk3, rfl, rfl⟩
    refine ⟨(by repeat (first | exact zs0 _ | exact zs1 _ | apply zs2 | apply zs3 | apply zs4 | apply zs5)), (by first | exact allR_self _ | exact (fun r h => inR_self (by simp [h]))), ?_⟩
    have g3q := g3' (by omega)
    refine DJ3_q (yv_neg64 rfl (by omega) (by omega)) rfl rfl rfl rfl ?_
    refine DJ3_q (yv_build (qs := [(0, (Value.int _ _).cells.toList)]) (out := [_, _]) tb rfl rfl rfl rfl) rfl rfl rfl rfl ?_
    refine DJ3_g (gives_buildSlice (qs := [(0, (Value.agg _).cells.toList)]) (out := [_, _]) tb rfl rfl rfl rfl rfl rfl rfl) rfl rfl rfl ?_
    rintro v L' R' ⟨b51, rfl, rfl, hR51⟩
    replace hR51 := hR51.symm; subst hR51
    refine ⟨(by repeat (first | exact zs0 _ | exact zs1 _ | apply zs2 | apply zs3 | apply zs4 | apply zs5)), allR_self _, ?_⟩
    refine DJ3_phase ?_
    refine DJ_g (gives_append1 (f := XPlace.cells) (p := pl) (a := ⟨-r3, false⟩) tb rfl rfl rfl rfl (hok) (by repeat (first | apply OSeg.cons | exact OSeg.here | exact OSeg.last | exact OSeg.at (by assumption) | apply OSeg.app)) (shown_own (by repeat (first | exact zi0 | apply zi1 | apply zi2)) rfl rfl) rfl (by first | omega | (simp only [List.length_cons, List.length_nil, List.length_append]; omega))) rfl rfl rfl ?_
    rintro v L' R' ⟨o52, rfl, hok52, rfl, rfl⟩
    refine ⟨(by repeat (first | exact zs0 _ | exact zs1 _ | apply zs2 | apply zs3 | apply zs4 | apply zs5)), allR_self _, ?_⟩
    refine DJ_q (yv_field tb rfl rfl rfl) rfl rfl rfl ?_
    refine DJ_q (yv_field tb rfl rfl rfl) rfl rfl rfl ?_
    refine DJ_store1 (v := Value.slice _ _ _) rfl rfl rfl rfl (by repeat (first | apply zu0 | apply zu1 | apply zu2)) (by first | exact icell_fit (by omega) | rfl) (by first | exact icell_set | rfl) (by rfl) (by repeat (first | exact zs0 _ | exact zs1 _ | apply zs2 | apply zs3 | apply zs4 | apply zs5)) ?_
    refine DJ_nil (blockK_normal (seqK_normal (CJ_region ?_)))
    refine LJ_q (yv_move (show _ = Value.int _ _ from rfl)) rfl ?_
    refine LJ_q (by first | exact yv_sub64 rfl rfl (by omega) (by omega) | exact yv_sub rfl rfl) rfl ?_
    refine LJ_q (yv_assign (show _ = Value.int _ _ from rfl)) rfl ?_
    refine LJ_nil ?_
    exact loopK_mk ⟨(k3, m - 1, ⟨o52, _⟩), hk3, hok52, hP.snoc (by omega) (by omega), by dsimp only; omega, by dsimp only; simp only [List.length_append, List.length_singleton]; omega⟩ (by repeat (first | exact Off.refl | apply Off.upd rfl | apply Off.havoc rfl | apply Off.updL rfl | apply Off.left rfl)) (by repeat' (first | exact trivial | refine And.intro rfl ?_)) (by repeat (first | exact zs0 _ | exact zs1 _ | apply zs2 | apply zs3 | apply zs4 | apply zs5)) (allR_self _) (by dsimp only; omega)
   ·
    try simp only [zb1, zb2, zb3, zb4, zb5, zb6, zb7, zb8] at hc1
    refine CJ_exit (seqK_exit (loopK_exit (blockK_exit (seqK_normal (CJ_seq ?_)))))
    have hsb := hP.shb
    have hnp := hP.len
    refine CJ_region ?_
    refine LJ_q (yv_field tb rfl rfl rfl) rfl ?_
    refine LJ_q (yv_field tb rfl rfl rfl) rfl ?_
    refine LJ_q (yv_load1 tb rfl rfl rfl (by repeat (first | exact zi0 | apply zi1 | apply zi2)) (by rfl)) rfl ?_
    refine LJ_q (yv_len tb rfl rfl rfl) rfl ?_
    refine LJ_q (yv_assign (show _ = Value.int _ _ from rfl)) rfl ?_
    refine LJ_nil (seqK_normal (CJ_seq (CJ_region ?_)))
    refine LJ_q (yv_move (show _ = Value.int _ _ from rfl)) rfl ?_
    refine LJ_g (gives_makeSlice tb rfl rfl rfl rfl rfl rfl rfl (by omega) (by omega)) rfl ?_
    rintro v L' R' ⟨b60, rfl, rfl, hR60⟩
    replace hR60 := hR60.symm; subst hR60
    refine LJ_q (yv_build (qs := [(0, (Value.slice _ _ _).cells.toList)]) (out := [_, _]) tb rfl rfl rfl rfl) rfl ?_
    refine LJ_alloc tb rfl rfl ?_
    intro b9
    refine LJ_storeW tb rfl rfl rfl rfl (by repeat (first | apply zu0 | apply zu1 | apply zu2)) (by rfl) (by rfl) ?_
    refine LJ_nil (seqK_normal (CJ_seq (CJ_seq (CJ_region ?_))))
    refine LJ_q (yv_move (show _ = Value.int _ _ from rfl)) rfl ?_
    refine LJ_q (yv_assign (show _ = Value.int _ _ from rfl)) rfl ?_
    refine LJ_nil (seqK_normal (CJ_block ?_))
    refine CJ_forget [(0, Value.pointer _), (2, Value.pointer _), (3, Value.pointer _), (4, Value.pointer _), (5, Value.pointer _), (6, Value.int _ _), (8, Value.int _ _), (9, Value.pointer _), (10, Value.int _ _)] (by repeat' (first | exact trivial | refine And.intro rfl ?_)) fun tq1 => ?_
    refine CJ_L (congrArg (List.cons _) (made_ow (f := icell) (x := (0 : Int)) rfl _)) ?_
    refine CJ_loop [10, 63, 64, 65, 66, 67, 68, 69, 70, 71, 72, 73] ((⟨fun g => [(10, .int .i64 ((g.1.2.1 : Nat) : Int))], fun g => ⟨b9, [(⟨.own b60 pl.l.length [], g.1.2.2⟩ : OwL Int).val, .slice none 0 0], 37⟩ :: ((⟨.own b60 pl.l.length [], g.1.2.2⟩ : OwL Int).L 3 icell ++ (cblk c x g.1.1 :: ⟨b5, [pl.val, .slice none 0 0, .slice none 0 0, .slice none 0 0], 30⟩ :: (pl.L 70 XPlace.cells ++ (⟨b4, [.slice none 0 0, .slice none 0 0], 37⟩ :: ⟨b3, [.slice none 0 0, .slice none 0 0], 33⟩ :: ⟨b2, [.slice none 0 0, .slice none 0 0, .slice none 0 0, .slice none 0 0], 30⟩ ::  [])))), fun _ => R, fun g => pl.l.length - g.1.2.1⟩ : Head {g : Nat × Nat × List Int // g.1 ≤ x.l.length ∧ (pl0.l.length ≤ g.2.1 ∧ g.2.1 ≤ pl.l.length) ∧ (⟨.own b60 pl.l.length [], g.2.2⟩ : OwL Int).ok 1 icell ∧ PresD pl0.l.length pl.l.length g.2.1 g.2.2})) (⟨(kk, pl0.l.length, List.replicate pl.l.length 0), hkk, ⟨Nat.le_refl _, by dsimp only; omega⟩, made_ok (fun _ => rfl) (by simp only [maxLen]; omega), ⟨by simp, fun j p hp => by rw [List.getElem?_replicate] at hp; split at hp; cases hp; exact ⟨by omega, fun _ => rfl⟩; cases hp⟩⟩) (by repeat' (first | exact trivial | refine And.intro rfl ?_)) (by dsimp only; rw [rep_val]; exact List.Sublist.refl _) (allR_self _) ?_
    rintro ⟨⟨kk2, i, pr⟩, hkk2, ⟨hi1, hi2⟩, hokp, hPr⟩ junk
    try dsimp only
    dsimp only at hkk2 hi1 hi2 hokp hPr
    refine CJ_seq (CJ_seq (CJ_region ?_))
    refine LJ_q (yv_move (show _ = Value.int _ _ from rfl)) rfl ?_
    refine LJ_q (yv_move (show _ = Value.int _ _ from rfl)) rfl ?_
    refine LJ_q (yv_lss rfl rfl) rfl ?_
    refine LJ_nil (seqK_normal ?_)
    refine CJ_cond (show _ = Value.bool _ from rfl) (fun hc2 => ?_) (fun hc2 => ?_)
    ·
     try simp only [zb1, zb2, zb3, zb4, zb5, zb6, zb7, zb8] at hc2
     have hprl := hPr.len
     have hpri := get_D (l := pr) (k := i) 0 (by omega)
     refine CJ_skip (seqK_normal (CJ_seq (CJ_block ?_)))
     refine CJ_drawn2 tb [] [0, 1, 2, 3, 4, 5] [6] ([Blk.mk b9 _ _]) _ mixed (by kernel_rfl) (by repeat (first | exact zs0 _ | exact zs1 _ | apply zs2 | apply zs3 | apply zs4 | apply zs5)) (by (repeat (first | apply List.Sublist.cons (a := Blk.mk b69 _ _) | apply List.Sublist.cons_cons)); exact List.Sublist.refl _) ?_
     refine DJ3_q (yv_field tb rfl rfl rfl) rfl rfl rfl rfl ?_
     refine DJ3_q (yv_load1 tb rfl rfl rfl (by repeat (first | exact zi0 | apply zi1 | apply zi2)) (by rfl)) rfl rfl rfl rfl ?_
     refine DJ3_q (yv_move (show _ = Value.int _ _ from rfl)) rfl rfl rfl rfl ?_
     refine DJ3_q (yv_move (show _ = Value.pointer _ from rfl)) rfl rfl rfl rfl ?_
     refine DJ3_call rfl (range1 (by repeat (first | apply USeg.here | apply USeg.cons | apply USeg.app)) hx hkk2 (by omega)) rfl rfl ?_
     rintro v L' R' ⟨r4, k4, rfl, g4, g4', hk4, rfl, rfl⟩
     refine ⟨(by repeat (first | exact zs0 _ | exact zs1 _ | apply zs2 | apply zs3 | apply zs4 | apply zs5)), (by first | exact allR_self _ | exact (fun r h => inR_self (by simp [h]))), ?_⟩
     refine DJ3_q (yv_index_ow tb ((⟨.own b60 pl.l.length [], pr⟩ : OwL Int)) _ rfl rfl rfl rfl (by assumption) (i := i) (by first | rfl | omega | (simp; omega)) (by first | omega | (dsimp only; omega) | (dsimp only; rw [List.length_set]; omega))) rfl rfl rfl rfl ?_
     refine DJ3_phase ?_
     refine DJ_g0 (gives_store1_ow tb ((⟨.own b60 pl.l.length [], pr⟩ : OwL Int)) (r4) rfl rfl rfl rfl (by repeat (first | apply OSeg.cons | exact OSeg.here | exact OSeg.last | exact OSeg.at (by assumption) | apply OSeg.app)) (by assumption) (fun _ => rfl) (by assumption) (by decide) (by rfl) (by rfl)) rfl rfl ?_
     rintro v L' R' ⟨rfl, rfl⟩
     refine ⟨(by repeat (first | exact zs0 _ | exact zs1 _ | apply zs2 | apply zs3 | apply zs4 | apply zs5)), allR_self _, ?_⟩
     refine DJ_nil (blockK_normal (seqK_normal (CJ_region ?_)))
     refine LJ_q (yv_move (show _ = Value.int _ _ from rfl)) rfl ?_
     refine LJ_q (by first | exact yv_add64 rfl rfl (by omega) (by omega) | exact yv_addU rfl rfl (by omega) (by omega) | exact yv_add rfl rfl) rfl ?_
     refine LJ_q (yv_assign (show _ = Value.int _ _ from rfl)) rfl ?_
     refine LJ_nil ?_
     exact loopK_mk ⟨(k4, i + 1, pr.set i r4), hk4, ⟨by dsimp only; omega, by dsimp only; omega⟩, OwL.set_ok (p := (⟨.own b60 pl.l.length [], pr⟩ : OwL Int)) (fun _ => rfl) hokp, hPr.next hi1 ⟨g4, g4'⟩⟩ (by repeat (first | exact Off.refl | apply Off.upd rfl | apply Off.havoc rfl | apply Off.updL rfl | apply Off.left rfl)) (by repeat' (first | exact trivial | refine And.intro rfl ?_)) (by dsimp only; rw [OwL.set_val]; exact (by repeat (first | exact zs0 _ | exact zs1 _ | apply zs2 | apply zs3 | apply zs4 | apply zs5))) (allR_self _) (by dsimp only; omega)
    ·
     try simp only [zb1, zb2, zb3, zb4, zb5, zb6, zb7, zb8] at hc2
     obtain rfl : i = pl.l.length := by omega
     refine CJ_exit (seqK_exit (loopK_exit (blockK_exit (seqK_normal (CJ_seq (CJ_region ?_))))))
     refine LJ_q (yv_move (show _ = Value.int _ _ from rfl)) rfl ?_
     refine LJ_g (gives_makeSlice tb rfl rfl rfl rfl rfl rfl rfl (by omega) (by omega)) rfl ?_
     rintro v L' R' ⟨b75, rfl, rfl, hR75⟩
     replace hR75 := hR75.symm; subst hR75
     refine LJ_q (yv_assign (show _ = Value.slice _ _ _ from rfl)) rfl ?_
     refine LJ_nil (seqK_normal (CJ_seq (CJ_seq ?_)))
     refine CJ_L (made_ow (f := icell) (x := (0 : Int)) rfl _) ?_
     have hprl := hPr.len
     refine CJ_region ?_
     refine LJ_q (yv_move (show _ = Value.int _ _ from rfl)) rfl ?_
     refine LJ_q (yv_gtr rfl rfl) rfl ?_
     refine LJ_nil (seqK_normal ?_)
     refine CJ_joinS [12, 13, 14, 15, 78, 79, 80, 81, 82, 83, 84, 85, 86, 87, 88, 89, 90, 91, 92, 93, 94, 95, 96, 97, 98, 99, 100, 101, 102, 103, 104, 105, 106, 107, 108, 109, 110, 111, 112, 113, 114, 115, 116, 117, 118, 119, 120, 121, 122, 123, 124, 125, 126, 127, 128, 129, 130, 131, 132, 133, 134, 135] ((⟨fun g => [], fun g => (⟨.own b75 pl.l.length [], g.1.2.2.2⟩ : OwL Int).L 3 icell ++ (⟨b9, [(⟨.own b60 pl.l.length [], pr⟩ : OwL Int).val, g.1.2.2.1.val], 37⟩ :: ((⟨.own b60 pl.l.length [], pr⟩ : OwL Int).L 3 icell ++ (cblk c x g.1.1 :: ⟨b5, [pl.val, g.1.2.1.val, .slice none 0 0, .slice none 0 0], 30⟩ :: (pl.L 70 XPlace.cells ++ (⟨b4, [.slice none 0 0, .slice none 0 0], 37⟩ :: ⟨b3, [.slice none 0 0, .slice none 0 0], 33⟩ :: ⟨b2, [.slice none 0 0, .slice none 0 0, .slice none 0 0, .slice none 0 0], 30⟩ ::  (g.1.2.1.L 64 XRoad.cells ++ (g.1.2.2.1.L 3 icell ++ []))))))), fun _ => R, fun _ => 0⟩ : Head {g : Nat × OwL XRoad × OwL Int × List Int // g.1 ≤ x.l.length ∧ (g.2.1.ok 10 XRoad.cells ∧ g.2.2.1.ok 1 icell ∧ (⟨.own b75 pl.l.length [], g.2.2.2⟩ : OwL Int).ok 1 icell) ∧ ∃ m, Drawn pl.l.length m g.2.1.l g.2.2.1.l g.2.2.2})) ?_ ?_
     ·
      skip
      refine CJ_cond (show _ = Value.bool _ from rfl) (fun hc3 => ?_) (fun hc3 => ?_)
      ·
       try simp only [zb1, zb2, zb3, zb4, zb5, zb6, zb7, zb8] at hc3
       refine CJ_seq (CJ_region ?_)
       refine LJ_q (yv_move (show _ = Value.pointer _ from rfl)) rfl ?_
       refine LJ_call rfl (next1 (by repeat (first | apply USeg.here | apply USeg.cons | apply USeg.app)) hx hkk2 (by omega)) rfl ?_
       rintro v L' R' ⟨r5, k5, rfl, g5, g5', g5'', hk5, rfl, rfl⟩
       refine LJ_q (yv_assign (show _ = Value.int _ _ from rfl)) rfl ?_
       refine LJ_nil (seqK_normal (CJ_block ?_))
       refine CJ_forgetW [12, 13, 14, 15, 78, 79, 80, 81, 82, 83, 84, 85, 86, 87, 88, 89, 90, 91, 92, 93, 94, 95, 96, 97, 98, 99, 100, 101, 102, 103, 104, 105, 106, 107, 108, 109, 110, 111, 112, 113, 114, 115, 116, 117, 118, 119, 120, 121, 122, 123, 124, 125, 126, 127, 128, 129, 130, 131, 132, 133, 134, 135] (by repeat (first | apply Off.upd rfl | apply Off.havoc rfl | refine Off.updL (t' := havoc _ _ _) rfl ?_ | exact Off.refl)) [(12, Value.int _ _)] (by repeat' (first | exact trivial | refine And.intro rfl ?_)) fun tq2 => ?_
       have g5q := g5' (by omega)
       refine CJ_loop [12, 13, 14, 15, 80, 81, 82, 83, 84, 85, 86, 87, 88, 89, 90, 91, 92, 93, 94, 95, 96, 97, 98, 99, 100, 101, 102, 103, 104, 105, 106, 107, 108, 109, 110, 111, 112, 113, 114, 115, 116, 117, 118, 119, 120, 121, 122, 123, 124, 125, 126, 127, 128, 129, 130, 131, 132, 133, 134, 135] ((⟨fun g => [(12, .int .i64 g.1.2.1)], fun g => (⟨.own b75 pl.l.length [], g.1.2.2.2.2⟩ : OwL Int).L 3 icell ++ (⟨b9, [(⟨.own b60 pl.l.length [], pr⟩ : OwL Int).val, g.1.2.2.2.1.val], 37⟩ :: ((⟨.own b60 pl.l.length [], pr⟩ : OwL Int).L 3 icell ++ (cblk c x g.1.1 :: ⟨b5, [pl.val, g.1.2.2.1.val, .slice none 0 0, .slice none 0 0], 30⟩ :: (pl.L 70 XPlace.cells ++ (⟨b4, [.slice none 0 0, .slice none 0 0], 37⟩ :: ⟨b3, [.slice none 0 0, .slice none 0 0], 33⟩ :: ⟨b2, [.slice none 0 0, .slice none 0 0, .slice none 0 0, .slice none 0 0], 30⟩ ::  (g.1.2.2.1.L 64 XRoad.cells ++ (g.1.2.2.2.1.L 3 icell ++ []))))))), fun _ => R, fun g => g.1.2.1.toNat⟩ : Head {g : Nat × Int × OwL XRoad × OwL Int × List Int // g.1 ≤ x.l.length ∧ (g.2.2.1.ok 10 XRoad.cells ∧ g.2.2.2.1.ok 1 icell ∧ (⟨.own b75 pl.l.length [], g.2.2.2.2⟩ : OwL Int).ok 1 icell) ∧ Drawn pl.l.length g.2.1 g.2.2.1.l g.2.2.2.1.l g.2.2.2.2})) (⟨(k5, r5, OwL.nil, OwL.nil, List.replicate pl.l.length 0), hk5, ⟨OwL.nil_ok, OwL.nil_ok, made_ok (fun _ => rfl) (by simp only [maxLen]; omega)⟩, Drawn.zero (by dsimp only; omega)⟩) (by repeat' (first | exact trivial | refine And.intro rfl ?_)) (by dsimp only; rw [nil_L, nil_L]; exact List.Sublist.refl _) (allR_self _) ?_
       rintro ⟨⟨kk3, mm, rl, fl, nl⟩, hkk3, ⟨hokr, hokf, hokn⟩, hD⟩ junk
       try dsimp only
       dsimp only at hkk3 hokr hokf hokn hD
       refine CJ_seq (CJ_seq (CJ_region ?_))
       refine LJ_q (yv_move (show _ = Value.int _ _ from rfl)) rfl ?_
       refine LJ_q (yv_gtr rfl rfl) rfl ?_
       refine LJ_nil (seqK_normal ?_)
       refine CJ_cond (show _ = Value.bool _ from rfl) (fun hc4 => ?_) (fun hc4 => ?_)
       ·
        try simp only [zb1, zb2, zb3, zb4, zb5, zb6, zb7, zb8] at hc4
        have hDm := hD.m
        have hDl := hD.len
        have hDr := hD.roads.len
        refine CJ_skip (seqK_normal (CJ_seq (CJ_block (CJ_seq (CJ_region ?_)))))
        refine LJ_q (yv_move (show _ = Value.pointer _ from rfl)) rfl ?_
        refine LJ_q (yv_move (show _ = Value.int _ _ from rfl)) rfl ?_
        refine LJ_call rfl (next1 (by repeat (first | apply USeg.here | apply USeg.cons | apply USeg.app)) hx hkk3 (by omega)) rfl ?_
        rintro v L' R' ⟨r6, k6, rfl, g6, g6', g6'', hk6, rfl, rfl⟩
        refine LJ_q (yv_assign (show _ = Value.int _ _ from rfl)) rfl ?_
        refine LJ_nil (seqK_normal (CJ_seq ?_))
        have g6q := g6' (by omega)
        refine CJ_region ?_
        refine LJ_q (yv_move (show _ = Value.pointer _ from rfl)) rfl ?_
        refine LJ_q (yv_move (show _ = Value.int _ _ from rfl)) rfl ?_
        refine LJ_q (yv_move (show _ = Value.int _ _ from rfl)) rfl ?_
        refine LJ_q (by first | exact yv_add64 rfl rfl (by omega) (by omega) | exact yv_addU rfl rfl (by omega) (by omega) | exact yv_add rfl rfl) rfl ?_
        refine LJ_q (yv_move (show _ = Value.pointer _ from rfl)) rfl ?_
        refine LJ_q (yv_move (show _ = Value.int _ _ from rfl)) rfl ?_
        refine LJ_q (by first | exact yv_sub64 rfl rfl (by omega) (by omega) | exact yv_sub rfl rfl) rfl ?_
        refine LJ_call rfl (next1 (by repeat (first | apply USeg.here | apply USeg.cons | apply USeg.app)) hx hk6 (by omega)) rfl ?_
        rintro v L' R' ⟨r7, k7, rfl, g7, g7', g7'', hk7, rfl, rfl⟩
        have g7q := g7' (by omega)
        refine LJ_q (by first | exact yv_add64 rfl rfl (by omega) (by omega) | exact yv_addU rfl rfl (by omega) (by omega) | exact yv_add rfl rfl) rfl ?_
        refine LJ_q (yv_move (show _ = Value.int _ _ from rfl)) rfl ?_
        refine LJ_q (by first | exact yv_remU rfl rfl (by omega) (by omega) | exact yv_rem rfl rfl (by omega)) rfl ?_
        refine LJ_call rfl (road1 (by repeat (first | apply USeg.here | apply USeg.cons | apply USeg.app)) hx hk7) rfl ?_
        rintro v L' R' ⟨rd, k8, rfl, hrd, hk8, rfl, rfl⟩
        refine LJ_alloc tb rfl rfl ?_
        intro b14
        refine LJ_storeW tb rfl rfl rfl rfl (by repeat (first | apply zu0 | apply zu1 | apply zu2)) (by rfl) (by rfl) ?_
        refine LJ_nil (seqK_normal (CJ_seq (CJ_region ?_)))
        refine LJ_q (yv_move (show _ = Value.pointer _ from rfl)) rfl ?_
        refine LJ_call rfl (one1 (by repeat (first | apply USeg.here | apply USeg.cons | apply USeg.app)) hx hk8 (by omega)) rfl ?_
        rintro v L' R' ⟨cl, k9, rfl, hk9, rfl, rfl⟩
        refine LJ_q (yv_field tb rfl rfl rfl) rfl ?_
        refine LJ_store1 (v := Value.bool _) tb rfl rfl rfl rfl (by repeat (first | apply zu0 | apply zu1 | apply zu2)) (by first | exact icell_fit (by omega) | rfl) (by first | exact icell_set | rfl) (by rfl) ?_
        refine LJ_nil (seqK_normal (CJ_seq (CJ_region ?_)))
        refine LJ_q (yv_move (show _ = Value.pointer _ from rfl)) rfl ?_
        refine LJ_call rfl (range1 (by repeat (first | apply USeg.here | apply USeg.cons | apply USeg.app)) hx hk9 (by omega)) rfl ?_
        rintro v L' R' ⟨r8, k10, rfl, g8, g8', hk10, rfl, rfl⟩
        refine LJ_q (yv_assign (show _ = Value.int _ _ from rfl)) rfl ?_
        refine LJ_nil (seqK_normal (CJ_seq (CJ_seq (CJ_region ?_))))
        refine LJ_q (yv_field tb rfl rfl rfl) rfl ?_
        refine LJ_q (yv_load1 tb rfl rfl rfl (by repeat (first | exact zi0 | apply zi1 | apply zi2)) (by rfl)) rfl ?_
        refine LJ_nil (seqK_normal ?_)
        refine CJ_joinS [15] ((⟨fun g => [(15, .int .i64 g.1)], fun g => ⟨b14, XRoad.cells { rd with closed := cl }, 64⟩ :: ((⟨.own b75 pl.l.length [], nl⟩ : OwL Int).L 3 icell ++ (⟨b9, [(⟨.own b60 pl.l.length [], pr⟩ : OwL Int).val, fl.val], 37⟩ :: ((⟨.own b60 pl.l.length [], pr⟩ : OwL Int).L 3 icell ++ (cblk c x k10 :: ⟨b5, [pl.val, rl.val, .slice none 0 0, .slice none 0 0], 30⟩ :: (pl.L 70 XPlace.cells ++ (⟨b4, [.slice none 0 0, .slice none 0 0], 37⟩ :: ⟨b3, [.slice none 0 0, .slice none 0 0], 33⟩ :: ⟨b2, [.slice none 0 0, .slice none 0 0, .slice none 0 0, .slice none 0 0], 30⟩ ::  (rl.L 64 XRoad.cells ++ (fl.L 3 icell ++ [])))))))), fun _ => R, fun _ => 0⟩ : Head {q : Int // (-60 ≤ q ∧ q ≤ 60) ∧ (cl = true → q = 0)})) ?_ ?_
        ·
         skip
         refine CJ_cond (show _ = Value.bool _ from rfl) (fun hc5 => ?_) (fun hc5 => ?_)
         ·
          try simp only [zb1, zb2, zb3, zb4, zb5, zb6, zb7, zb8] at hc5
          refine CJ_region ?_
          refine LJ_q (yv_assign (show _ = Value.int _ _ from rfl)) rfl ?_
          refine LJ_nil ?_
          exact joinK_mk ⟨0, by omega, fun _ => rfl⟩ (by repeat (first | exact Off.refl | apply Off.upd rfl | apply Off.havoc rfl | apply Off.updL rfl | apply Off.left rfl)) (by repeat' (first | exact trivial | refine And.intro rfl ?_)) (by repeat (first | exact zs0 _ | exact zs1 _ | apply zs2 | apply zs3 | apply zs4 | apply zs5)) (allR_self _)
         ·
          try simp only [zb1, zb2, zb3, zb4, zb5, zb6, zb7, zb8] at hc5
          refine CJ_skip ?_
          exact joinK_mk ⟨r8, ⟨g8, g8'⟩, fun h => absurd h (by first | exact hc5 | (rw [hc5]; decide))⟩ (by repeat (first | exact Off.refl | apply Off.upd rfl | apply Off.havoc rfl | apply Off.updL rfl | apply Off.left rfl)) (by repeat' (first | exact trivial | refine And.intro rfl ?_)) (by repeat (first | exact zs0 _ | exact zs1 _ | apply zs2 | apply zs3 | apply zs4 | apply zs5)) (allR_self _)
        ·
         rintro ⟨q, hq, hqc⟩ junk
         try dsimp only
         obtain ⟨rr, hrr⟩ : ∃ rr : XRoad, rr = { rd with closed := cl } := ⟨_, rfl⟩
         rw [← hrr]
         have hto := rem_other (n := (pl.l.length : Int)) ⟨g6, g6q⟩ ⟨g7, g7q⟩
         have hf1 : rr.fr = r6 := by rw [hrr]; exact hrd.fr
         have hf2 : rr.to = (r6 + 1 + r7).tmod pl.l.length := by rw [hrr]; exact hrd.to
         have hG : RoadG pl.l.length rr := ⟨⟨by omega, by omega, by rw [hrr]; exact hrd.rest⟩, by omega, by rw [hrr]; exact hrd.len, by rw [hrr]; exact hrd.area⟩
         have hcl : rr.closed = true → q = 0 := by rw [hrr]; exact hqc
         have hv1 := hD.small rr.fr.toNat
         have hg1 := get_D (l := nl) (k := rr.fr.toNat) 0 (by omega)
         have hg2 := get_D (l := nl.set rr.fr.toNat (nl.getD rr.fr.toNat 0 + q)) (k := rr.to.toNat) 0 (by rw [List.length_set]; omega)
         have hv2 : -360 ≤ (nl.set rr.fr.toNat (nl.getD rr.fr.toNat 0 + q)).getD rr.to.toNat 0 ∧ (nl.set rr.fr.toNat (nl.getD rr.fr.toNat 0 + q)).getD rr.to.toNat 0 ≤ 360 := by
           rw [getD_set (by omega)]
           have := hD.small rr.to.toNat
           split <;> omega
         refine CJ_seq ?_
         refine CJ_joinS [106, 107, 108, 109, 110, 111, 112, 113, 114, 115, 116, 117, 118, 119] ((⟨fun _ => [], fun g => ⟨b14, rr.cells, 64⟩ :: ((⟨.own b75 pl.l.length [], nl⟩ : OwL Int).L 3 icell ++ (⟨b9, [(⟨.own b60 pl.l.length [], pr⟩ : OwL Int).val, (⟨g.1.2, fl.l ++ [q]⟩ : OwL Int).val], 37⟩ :: ((⟨.own b60 pl.l.length [], pr⟩ : OwL Int).L 3 icell ++ (cblk c x k10 :: ⟨b5, [pl.val, (⟨g.1.1, rl.l ++ [rr]⟩ : OwL XRoad).val, .slice none 0 0, .slice none 0 0], 30⟩ :: (pl.L 70 XPlace.cells ++ (⟨b4, [.slice none 0 0, .slice none 0 0], 37⟩ :: ⟨b3, [.slice none 0 0, .slice none 0 0], 33⟩ :: ⟨b2, [.slice none 0 0, .slice none 0 0, .slice none 0 0, .slice none 0 0], 30⟩ ::  ((⟨g.1.1, rl.l ++ [rr]⟩ : OwL XRoad).L 64 XRoad.cells ++ ((⟨g.1.2, fl.l ++ [q]⟩ : OwL Int).L 3 icell ++ [])))))))), fun _ => R, fun _ => 0⟩ : Head {g : Ow × Ow // (⟨g.1, rl.l ++ [rr]⟩ : OwL XRoad).ok 10 XRoad.cells ∧ (⟨g.2, fl.l ++ [q]⟩ : OwL Int).ok 1 icell})) ?_ ?_
         ·
          skip
          refine CJ_tree tb [] [0, 1, 2, 3, 6, 7, 8, 4, 5, 9, 10, 11, 12] [13, 14, 15] ([Blk.mk b14 _ _, Blk.mk b9 _ _, Blk.mk b5 _ _]) [] 13 mixed (by kernel_rfl) rfl rfl (by repeat (first | exact zs0 _ | exact zs1 _ | apply zs2 | apply zs3 | apply zs4 | apply zs5)) fun hT26 => ?_
          refine WZ_q 0 hT26 (List.nil_sublist _) (by kernel_rfl) rfl rfl rfl rfl rfl (yv_field tb rfl rfl rfl) ?_
          refine WZ_q 1 hT26 (List.nil_sublist _) (by kernel_rfl) rfl rfl rfl rfl rfl (yv_field tb rfl rfl rfl) ?_
          refine WZ_q 2 hT26 (List.nil_sublist _) (by kernel_rfl) rfl rfl rfl rfl rfl (yv_load1 tb rfl rfl rfl (by repeat (first | exact zi0 | apply zi1 | apply zi2)) (by rfl)) ?_
          refine WZ_q 3 hT26 (List.nil_sublist _) (by kernel_rfl) rfl rfl rfl rfl rfl (yv_loadN (row := [_, _, _, _, _, _, _, _, _, _]) tb rfl rfl rfl (by repeat (first | exact zi0 | apply zi1 | apply zi2)) (by rfl) (by rfl)) ?_
          refine WZ_q 6 hT26 (List.nil_sublist _) (by kernel_rfl) rfl rfl rfl rfl rfl (yv_field tb rfl rfl rfl) ?_
          refine WZ_q 7 hT26 (List.nil_sublist _) (by kernel_rfl) rfl rfl rfl rfl rfl (yv_load1 tb rfl rfl rfl (by repeat (first | exact zi0 | apply zi1 | apply zi2)) (by rfl)) ?_
          refine WZ_q 8 hT26 (List.nil_sublist _) (by kernel_rfl) rfl rfl rfl rfl rfl (yv_move (show _ = Value.int _ _ from rfl)) ?_
          refine WZ_branch [4, 9] hT26 (List.nil_sublist _) (by kernel_rfl) ?_
          refine WSteps_cons ?_ ?_
          ·
           skip
           refine WStep_g rfl (gives_buildSlice (qs := [(0, (Value.agg _).cells.toList)]) (out := [_, _, _, _, _, _, _, _, _, _]) tb rfl rfl rfl rfl rfl rfl rfl) rfl rfl ?_
           rintro v L' R' ⟨b110, rfl, rfl, hR110⟩
           replace hR110 := hR110.symm; subst hR110
           refine ⟨(by repeat (first | exact zs0 _ | exact zs1 _ | apply zs2 | apply zs3 | apply zs4 | apply zs5)), allR_self _, ?_⟩
           refine WZ_branch [5, 9] hT26 (List.nil_sublist _) (by kernel_rfl) ?_
           refine WSteps_cons ?_ ?_
           ·
            skip
            refine WStep_g rfl (gives_append1 (f := XRoad.cells) (p := rl) (a := rr) tb rfl rfl rfl rfl (hokr) (by repeat (first | apply OSeg.cons | exact OSeg.here | exact OSeg.last | exact OSeg.at (by assumption) | apply OSeg.app)) (shown_own (by repeat (first | exact zi0 | apply zi1 | apply zi2)) rfl rfl) rfl (by first | omega | (simp only [List.length_cons, List.length_nil, List.length_append]; omega))) rfl rfl ?_
            rintro v L' R' ⟨o111, rfl, hok111, rfl, rfl⟩
            refine ⟨(by repeat (first | exact zs0 _ | exact zs1 _ | apply zs2 | apply zs3 | apply zs4 | apply zs5)), allR_self _, ?_⟩
            refine WZ_branch [9] hT26 (List.nil_sublist _) (by kernel_rfl) ?_
            refine WSteps_cons ?_ WSteps_nil
            refine WStep_g rfl (gives_buildSlice (qs := [(0, (Value.int _ _).cells.toList)]) (out := [_]) tb rfl rfl rfl rfl rfl rfl rfl) rfl rfl ?_
            rintro v L' R' ⟨b115, rfl, rfl, hR115⟩
            replace hR115 := hR115.symm; subst hR115
            refine ⟨(by repeat (first | exact zs0 _ | exact zs1 _ | apply zs2 | apply zs3 | apply zs4 | apply zs5)), allR_self _, ?_⟩
            refine WZ_branch [10] hT26 (List.nil_sublist _) (by kernel_rfl) ?_
            refine WSteps_cons ?_ WSteps_nil
            refine WStep_g rfl (gives_append1 (f := icell) (p := fl) (a := q) tb rfl rfl rfl rfl (hokf) (by repeat (first | apply OSeg.cons | exact OSeg.here | exact OSeg.last | exact OSeg.at (by assumption) | apply OSeg.app)) (shown_own (by repeat (first | exact zi0 | apply zi1 | apply zi2)) rfl rfl) rfl (by first | omega | (simp only [List.length_cons, List.length_nil, List.length_append]; omega))) rfl rfl ?_
            rintro v L' R' ⟨o116, rfl, hok116, rfl, rfl⟩
            refine ⟨(by repeat (first | exact zs0 _ | exact zs1 _ | apply zs2 | apply zs3 | apply zs4 | apply zs5)), allR_self _, ?_⟩
            refine WZ_q 11 hT26 (List.nil_sublist _) (by kernel_rfl) rfl rfl rfl rfl rfl (yv_field tb rfl rfl rfl) ?_
            refine WZ_q 12 hT26 (List.nil_sublist _) (by kernel_rfl) rfl rfl rfl rfl rfl (yv_field tb rfl rfl rfl) ?_
            refine WZ_endL hT26 (List.nil_sublist _) (by kernel_rfl) rfl ?_
            refine DJ_store1 (v := Value.slice _ _ _) rfl rfl rfl rfl (by repeat (first | apply zu0 | apply zu1 | apply zu2)) (by first | exact icell_fit (by omega) | rfl) (by first | exact icell_set | rfl) (by rfl) (by repeat (first | exact zs0 _ | exact zs1 _ | apply zs2 | apply zs3 | apply zs4 | apply zs5)) ?_
            refine DJ_q (yv_field tb rfl rfl rfl) rfl rfl rfl ?_
            refine DJ_store1 (v := Value.slice _ _ _) rfl rfl rfl rfl (by repeat (first | apply zu0 | apply zu1 | apply zu2)) (by first | exact icell_fit (by omega) | rfl) (by first | exact icell_set | rfl) (by rfl) (by repeat (first | exact zs0 _ | exact zs1 _ | apply zs2 | apply zs3 | apply zs4 | apply zs5)) ?_
            refine DJ_nil ?_
            exact joinK_mk ⟨(o111, o116), hok111, hok116⟩ (by repeat (first | exact Off.refl | apply Off.upd rfl | apply Off.havoc rfl | apply Off.updL rfl | apply Off.left rfl)) (by repeat' (first | exact trivial | refine And.intro rfl ?_)) (by repeat (first | exact zs0 _ | exact zs1 _ | apply zs2 | apply zs3 | apply zs4 | apply zs5)) (allR_self _)
           refine WSteps_cons ?_ WSteps_nil
           refine WStep_g rfl (gives_buildSlice (qs := [(0, (Value.int _ _).cells.toList)]) (out := [_]) tb rfl rfl rfl rfl rfl rfl rfl) rfl rfl ?_
           rintro v L' R' ⟨b115, rfl, rfl, hR115⟩
           replace hR115 := hR115.symm; subst hR115
           refine ⟨(by repeat (first | exact zs0 _ | exact zs1 _ | apply zs2 | apply zs3 | apply zs4 | apply zs5)), allR_self _, ?_⟩
           refine WZ_branch [5] hT26 (List.nil_sublist _) (by kernel_rfl) ?_
           refine WSteps_cons ?_ WSteps_nil
           refine WStep_g rfl (gives_append1 (f := XRoad.cells) (p := rl) (a := rr) tb rfl rfl rfl rfl (hokr) (by repeat (first | apply OSeg.cons | exact OSeg.here | exact OSeg.last | exact OSeg.at (by assumption) | apply OSeg.app)) (shown_own (by repeat (first | exact zi0 | apply zi1 | apply zi2)) rfl rfl) rfl (by first | omega | (simp only [List.length_cons, List.length_nil, List.length_append]; omega))) rfl rfl ?_
           rintro v L' R' ⟨o111, rfl, hok111, rfl, rfl⟩
           refine ⟨(by repeat (first | exact zs0 _ | exact zs1 _ | apply zs2 | apply zs3 | apply zs4 | apply zs5)), allR_self _, ?_⟩
           refine WZ_branch [10] hT26 (List.nil_sublist _) (by kernel_rfl) ?_
           refine WSteps_cons ?_ WSteps_nil
           refine WStep_g rfl (gives_append1 (f := icell) (p := fl) (a := q) tb rfl rfl rfl rfl (hokf) (by repeat (first | apply OSeg.cons | exact OSeg.here | exact OSeg.last | exact OSeg.at (by assumption) | apply OSeg.app)) (shown_own (by repeat (first | exact zi0 | apply zi1 | apply zi2)) rfl rfl) rfl (by first | omega | (simp only [List.length_cons, List.length_nil, List.length_append]; omega))) rfl rfl ?_
           rintro v L' R' ⟨o116, rfl, hok116, rfl, rfl⟩
           refine ⟨(by repeat (first | exact zs0 _ | exact zs1 _ | apply zs2 | apply zs3 | apply zs4 | apply zs5)), allR_self _, ?_⟩
           refine WZ_q 11 hT26 (List.nil_sublist _) (by kernel_rfl) rfl rfl rfl rfl rfl (yv_field tb rfl rfl rfl) ?_
           refine WZ_q 12 hT26 (List.nil_sublist _) (by kernel_rfl) rfl rfl rfl rfl rfl (yv_field tb rfl rfl rfl) ?_
           refine WZ_endL hT26 (List.nil_sublist _) (by kernel_rfl) rfl ?_
           refine DJ_store1 (v := Value.slice _ _ _) rfl rfl rfl rfl (by repeat (first | apply zu0 | apply zu1 | apply zu2)) (by first | exact icell_fit (by omega) | rfl) (by first | exact icell_set | rfl) (by rfl) (by repeat (first | exact zs0 _ | exact zs1 _ | apply zs2 | apply zs3 | apply zs4 | apply zs5)) ?_
           refine DJ_q (yv_field tb rfl rfl rfl) rfl rfl rfl ?_
           refine DJ_store1 (v := Value.slice _ _ _) rfl rfl rfl rfl (by repeat (first | apply zu0 | apply zu1 | apply zu2)) (by first | exact icell_fit (by omega) | rfl) (by first | exact icell_set | rfl) (by rfl) (by repeat (first | exact zs0 _ | exact zs1 _ | apply zs2 | apply zs3 | apply zs4 | apply zs5)) ?_
           refine DJ_nil ?_
           exact joinK_mk ⟨(o111, o116), hok111, hok116⟩ (by repeat (first | exact Off.refl | apply Off.upd rfl | apply Off.havoc rfl | apply Off.updL rfl | apply Off.left rfl)) (by repeat' (first | exact trivial | refine And.intro rfl ?_)) (by repeat (first | exact zs0 _ | exact zs1 _ | apply zs2 | apply zs3 | apply zs4 | apply zs5)) (allR_self _)
          refine WSteps_cons ?_ WSteps_nil
          refine WStep_g rfl (gives_buildSlice (qs := [(0, (Value.int _ _).cells.toList)]) (out := [_]) tb rfl rfl rfl rfl rfl rfl rfl) rfl rfl ?_
          rintro v L' R' ⟨b115, rfl, rfl, hR115⟩
          replace hR115 := hR115.symm; subst hR115
          refine ⟨(by repeat (first | exact zs0 _ | exact zs1 _ | apply zs2 | apply zs3 | apply zs4 | apply zs5)), allR_self _, ?_⟩
          refine WZ_branch [4] hT26 (List.nil_sublist _) (by kernel_rfl) ?_
          refine WSteps_cons ?_ WSteps_nil
          refine WStep_g rfl (gives_buildSlice (qs := [(0, (Value.agg _).cells.toList)]) (out := [_, _, _, _, _, _, _, _, _, _]) tb rfl rfl rfl rfl rfl rfl rfl) rfl rfl ?_
          rintro v L' R' ⟨b110, rfl, rfl, hR110⟩
          replace hR110 := hR110.symm; subst hR110
          refine ⟨(by repeat (first | exact zs0 _ | exact zs1 _ | apply zs2 | apply zs3 | apply zs4 | apply zs5)), allR_self _, ?_⟩
          refine WZ_branch [5] hT26 (List.nil_sublist _) (by kernel_rfl) ?_
          refine WSteps_cons ?_ WSteps_nil
          refine WStep_g rfl (gives_append1 (f := XRoad.cells) (p := rl) (a := rr) tb rfl rfl rfl rfl (hokr) (by repeat (first | apply OSeg.cons | exact OSeg.here | exact OSeg.last | exact OSeg.at (by assumption) | apply OSeg.app)) (shown_own (by repeat (first | exact zi0 | apply zi1 | apply zi2)) rfl rfl) rfl (by first | omega | (simp only [List.length_cons, List.length_nil, List.length_append]; omega))) rfl rfl ?_
          rintro v L' R' ⟨o111, rfl, hok111, rfl, rfl⟩
          refine ⟨(by repeat (first | exact zs0 _ | exact zs1 _ | apply zs2 | apply zs3 | apply zs4 | apply zs5)), allR_self _, ?_⟩
          refine WZ_branch [10] hT26 (List.nil_sublist _) (by kernel_rfl) ?_
          refine WSteps_cons ?_ WSteps_nil
          refine WStep_g rfl (gives_append1 (f := icell) (p := fl) (a := q) tb rfl rfl rfl rfl (hokf) (by repeat (first | apply OSeg.cons | exact OSeg.here | exact OSeg.last | exact OSeg.at (by assumption) | apply OSeg.app)) (shown_own (by repeat (first | exact zi0 | apply zi1 | apply zi2)) rfl rfl) rfl (by first | omega | (simp only [List.length_cons, List.length_nil, List.length_append]; omega))) rfl rfl ?_
          rintro v L' R' ⟨o116, rfl, hok116, rfl, rfl⟩
          refine ⟨(by repeat (first | exact zs0 _ | exact zs1 _ | apply zs2 | apply zs3 | apply zs4 | apply zs5)), allR_self _, ?_⟩
          refine WZ_q 11 hT26 (List.nil_sublist _) (by kernel_rfl) rfl rfl rfl rfl rfl (yv_field tb rfl rfl rfl) ?_
          refine WZ_q 12 hT26 (List.nil_sublist _) (by kernel_rfl) rfl rfl rfl rfl rfl (yv_field tb rfl rfl rfl) ?_
          refine WZ_endL hT26 (List.nil_sublist _) (by kernel_rfl) rfl ?_
          refine DJ_store1 (v := Value.slice _ _ _) rfl rfl rfl rfl (by repeat (first | apply zu0 | apply zu1 | apply zu2)) (by first | exact icell_fit (by omega) | rfl) (by first | exact icell_set | rfl) (by rfl) (by repeat (first | exact zs0 _ | exact zs1 _ | apply zs2 | apply zs3 | apply zs4 | apply zs5)) ?_
          refine DJ_q (yv_field tb rfl rfl rfl) rfl rfl rfl ?_
          refine DJ_store1 (v := Value.slice _ _ _) rfl rfl rfl rfl (by repeat (first | apply zu0 | apply zu1 | apply zu2)) (by first | exact icell_fit (by omega) | rfl) (by first | exact icell_set | rfl) (by rfl) (by repeat (first | exact zs0 _ | exact zs1 _ | apply zs2 | apply zs3 | apply zs4 | apply zs5)) ?_
          refine DJ_nil ?_
          exact joinK_mk ⟨(o111, o116), hok111, hok116⟩ (by repeat (first | exact Off.refl | apply Off.upd rfl | apply Off.havoc rfl | apply Off.updL rfl | apply Off.left rfl)) (by repeat' (first | exact trivial | refine And.intro rfl ?_)) (by repeat (first | exact zs0 _ | exact zs1 _ | apply zs2 | apply zs3 | apply zs4 | apply zs5)) (allR_self _)
         ·
          rintro ⟨⟨o111, o116⟩, hok111, hok116⟩ junk
          try dsimp only
          dsimp only at hok111 hok116
          refine CJ_seq (CJ_region ?_)
          refine LJ_q (yv_move (show _ = Value.slice _ _ _ from rfl)) rfl ?_
          refine LJ_q (yv_field tb rfl rfl rfl) rfl ?_
          refine LJ_q (yv_load1 tb rfl rfl rfl (by repeat (first | exact zi0 | apply zi1 | apply zi2)) (by rfl)) rfl ?_
          refine LJ_q (yv_index_ow tb ((⟨.own b75 pl.l.length [], nl⟩ : OwL Int)) _ rfl rfl ((show _ = Value.slice _ _ _ from rfl).trans (own_val hDl)) rfl (by assumption) (i := rr.fr.toNat) (by first | rfl | omega | (simp; omega)) (by first | omega | (dsimp only; omega) | (dsimp only; rw [List.length_set]; omega))) rfl ?_
          refine LJ_q (yv_load1_ow tb ((⟨.own b75 pl.l.length [], nl⟩ : OwL Int)) rfl rfl rfl (by repeat (first | apply OSeg.cons | exact OSeg.here | exact OSeg.last | exact OSeg.at (by assumption) | apply OSeg.app)) (by assumption) (fun _ => rfl) (by assumption) (by rfl)) rfl ?_
          refine LJ_q (yv_move (show _ = Value.int _ _ from rfl)) rfl ?_
          refine LJ_q (by first | exact yv_add64 rfl rfl (by omega) (by omega) | exact yv_addU rfl rfl (by omega) (by omega) | exact yv_add rfl rfl) rfl ?_
          refine LJ_q (yv_index_ow tb ((⟨.own b75 pl.l.length [], nl⟩ : OwL Int)) _ rfl rfl ((show _ = Value.slice _ _ _ from rfl).trans (own_val hDl)) rfl (by assumption) (i := rr.fr.toNat) (by first | rfl | omega | (simp; omega)) (by first | omega | (dsimp only; omega) | (dsimp only; rw [List.length_set]; omega))) rfl ?_
          refine LJ_g0 (gives_store1_ow tb ((⟨.own b75 pl.l.length [], nl⟩ : OwL Int)) (nl.getD rr.fr.toNat 0 + q) rfl rfl rfl rfl (by repeat (first | apply OSeg.cons | exact OSeg.here | exact OSeg.last | exact OSeg.at (by assumption) | apply OSeg.app)) (by assumption) (fun _ => rfl) (by assumption) (by decide) (by rfl) (by rfl)) ?_
          rintro v L' R' ⟨rfl, rfl⟩
          refine LJ_nil (seqK_normal ?_)
          have hokn2 := OwL.set_ok (f := icell) (wd := 1) (p := (⟨.own b75 pl.l.length [], nl⟩ : OwL Int)) (i := rr.fr.toNat) (x := nl.getD rr.fr.toNat 0 + q) (fun _ => rfl) hokn
          refine CJ_region ?_
          refine LJ_q (yv_move (show _ = Value.slice _ _ _ from rfl)) rfl ?_
          refine LJ_q (yv_field tb rfl rfl rfl) rfl ?_
          refine LJ_q (yv_load1 tb rfl rfl rfl (by repeat (first | exact zi0 | apply zi1 | apply zi2)) (by rfl)) rfl ?_
          refine LJ_q (yv_index_ow tb ((⟨.own b75 pl.l.length [], nl.set rr.fr.toNat (nl.getD rr.fr.toNat 0 + q)⟩ : OwL Int)) _ rfl rfl ((show _ = Value.slice _ _ _ from rfl).trans (own_val (by rw [List.length_set]; exact hDl))) rfl (by assumption) (i := rr.to.toNat) (by first | rfl | omega | (simp; omega)) (by first | omega | (dsimp only; omega) | (dsimp only; rw [List.length_set]; omega))) rfl ?_
          refine LJ_q (yv_load1_ow tb ((⟨.own b75 pl.l.length [], nl.set rr.fr.toNat (nl.getD rr.fr.toNat 0 + q)⟩ : OwL Int)) rfl rfl rfl (by repeat (first | apply OSeg.cons | exact OSeg.here | exact OSeg.last | exact OSeg.at (by assumption) | apply OSeg.app)) (by assumption) (fun _ => rfl) (by assumption) (by rfl)) rfl ?_
          refine LJ_q (yv_move (show _ = Value.int _ _ from rfl)) rfl ?_
          refine LJ_q (by first | exact yv_sub64 rfl rfl (by omega) (by omega) | exact yv_sub rfl rfl) rfl ?_
          refine LJ_q (yv_index_ow tb ((⟨.own b75 pl.l.length [], nl.set rr.fr.toNat (nl.getD rr.fr.toNat 0 + q)⟩ : OwL Int)) _ rfl rfl ((show _ = Value.slice _ _ _ from rfl).trans (own_val (by rw [List.length_set]; exact hDl))) rfl (by assumption) (i := rr.to.toNat) (by first | rfl | omega | (simp; omega)) (by first | omega | (dsimp only; omega) | (dsimp only; rw [List.length_set]; omega))) rfl ?_
          refine LJ_g0 (gives_store1_ow tb ((⟨.own b75 pl.l.length [], nl.set rr.fr.toNat (nl.getD rr.fr.toNat 0 + q)⟩ : OwL Int)) ((nl.set rr.fr.toNat (nl.getD rr.fr.toNat 0 + q)).getD rr.to.toNat 0 - q) rfl rfl rfl rfl (by repeat (first | apply OSeg.cons | exact OSeg.here | exact OSeg.last | exact OSeg.at (by assumption) | apply OSeg.app)) (by assumption) (fun _ => rfl) (by assumption) (by decide) (by rfl) (by rfl)) ?_
          rintro v L' R' ⟨rfl, rfl⟩
          refine LJ_nil (blockK_normal (seqK_normal (CJ_region ?_)))
          refine LJ_q (yv_move (show _ = Value.int _ _ from rfl)) rfl ?_
          refine LJ_q (by first | exact yv_sub64 rfl rfl (by omega) (by omega) | exact yv_sub rfl rfl) rfl ?_
          refine LJ_q (yv_assign (show _ = Value.int _ _ from rfl)) rfl ?_
          refine LJ_nil ?_
          exact loopK_mk ⟨(k10, mm - 1, ⟨o111, _⟩, ⟨o116, _⟩, netStep nl rr q), hk10, ⟨hok111, hok116, OwL.set_ok (p := (⟨.own b75 pl.l.length [], nl.set rr.fr.toNat (nl.getD rr.fr.toNat 0 + q)⟩ : OwL Int)) (fun _ => rfl) hokn2⟩, hD.next (by omega) hG hq hcl⟩ (by repeat (first | exact Off.refl | apply Off.upd rfl | apply Off.havoc rfl | apply Off.updL rfl | apply Off.left rfl)) (by repeat' (first | exact trivial | refine And.intro rfl ?_)) (by repeat (first | exact zs0 _ | exact zs1 _ | apply zs2 | apply zs3 | apply zs4 | apply zs5)) (allR_self _) (by dsimp only; omega)
       ·
        try simp only [zb1, zb2, zb3, zb4, zb5, zb6, zb7, zb8] at hc4
        refine CJ_exit (seqK_exit (loopK_exit (blockK_exit ?_)))
        exact joinK_mk ⟨(kk3, rl, fl, nl), hkk3, ⟨hokr, hokf, hokn⟩, mm, hD⟩ (by repeat (first | exact Off.refl | apply Off.upd rfl | apply Off.havoc rfl | apply Off.updL rfl | apply Off.left rfl)) (by repeat' (first | exact trivial | refine And.intro rfl ?_)) (by repeat (first | exact zs0 _ | exact zs1 _ | apply zs2 | apply zs3 | apply zs4 | apply zs5)) (allR_self _)
      ·
       try simp only [zb1, zb2, zb3, zb4, zb5, zb6, zb7, zb8] at hc3
       refine CJ_skip ?_
       exact joinK_mk ⟨(kk2, OwL.nil, OwL.nil, List.replicate pl.l.length 0), hkk2, ⟨OwL.nil_ok, OwL.nil_ok, made_ok (fun _ => rfl) (by simp only [maxLen]; omega)⟩, 0, Drawn.zero (by omega)⟩ (by repeat (first | exact Off.refl | apply Off.upd rfl | apply Off.havoc rfl | apply Off.updL rfl | apply Off.left rfl)) (by repeat' (first | exact trivial | refine And.intro rfl ?_)) (by dsimp only; rw [nil_L, nil_L]; exact (by repeat (first | exact zs0 _ | exact zs1 _ | apply zs2 | apply zs3 | apply zs4 | apply zs5))) (allR_self _)
     ·
      rintro ⟨⟨kk4, rl, fl, nl⟩, hkk4, ⟨hokr, hokf, hokn⟩, mm, hD⟩ junk
      try dsimp only
      dsimp only at hkk4 hokr hokf hokn hD
      refine CJ_seq (CJ_seq (CJ_region ?_))
      refine LJ_q (yv_move (show _ = Value.int _ _ from rfl)) rfl ?_
      refine LJ_q (yv_assign (show _ = Value.int _ _ from rfl)) rfl ?_
      refine LJ_nil (seqK_normal (CJ_block ?_))
      refine CJ_forget [(0, Value.pointer _), (2, Value.pointer _), (3, Value.pointer _), (4, Value.pointer _), (5, Value.pointer _), (6, Value.int _ _), (8, Value.int _ _), (9, Value.pointer _), (11, Value.slice _ _ _), (16, Value.int _ _)] (by repeat' (first | exact trivial | refine And.intro rfl ?_)) fun tq3 => ?_
      have hDl := hD.len
      have hDm := hD.m
      refine CJ_loop [16, 17, 18, 137, 138, 139, 140, 141, 142, 143, 144, 145, 146, 147, 148, 149, 150, 151, 152, 153, 154, 155, 156, 157, 158, 159, 160, 161, 162, 163, 164, 165, 166, 167, 168, 169, 170, 171, 172, 173, 174, 175, 176] ((⟨fun g => [(16, .int .i64 ((g.1.2.1 : Nat) : Int))], fun g => (⟨.own b75 pl.l.length [], nl⟩ : OwL Int).L 3 icell ++ (⟨b9, [(⟨.own b60 pl.l.length [], pr⟩ : OwL Int).val, g.1.2.2.2.val], 37⟩ :: ((⟨.own b60 pl.l.length [], pr⟩ : OwL Int).L 3 icell ++ (cblk c x g.1.1 :: ⟨b5, [pl.val, g.1.2.2.1.val, .slice none 0 0, .slice none 0 0], 30⟩ :: (pl.L 70 XPlace.cells ++ (⟨b4, [.slice none 0 0, .slice none 0 0], 37⟩ :: ⟨b3, [.slice none 0 0, .slice none 0 0], 33⟩ :: ⟨b2, [.slice none 0 0, .slice none 0 0, .slice none 0 0, .slice none 0 0], 30⟩ ::  (g.1.2.2.1.L 64 XRoad.cells ++ (g.1.2.2.2.L 3 icell ++ []))))))), fun _ => R, fun g => pl.l.length - g.1.2.1⟩ : Head {g : Nat × Nat × OwL XRoad × OwL Int // g.1 ≤ x.l.length ∧ (pl0.l.length ≤ g.2.1 ∧ g.2.1 ≤ pl.l.length) ∧ (g.2.2.1.ok 10 XRoad.cells ∧ g.2.2.2.ok 1 icell) ∧ Shafted pl0.l.length pl.l.length g.2.1 nl g.2.2.1.l g.2.2.2.l})) (⟨(kk4, pl0.l.length, rl, fl), hkk4, ⟨Nat.le_refl _, by dsimp only; omega⟩, ⟨hokr, hokf⟩, hD.shafted _⟩) (by repeat' (first | exact trivial | refine And.intro rfl ?_)) (by repeat (first | exact zs0 _ | exact zs1 _ | apply zs2 | apply zs3 | apply zs4 | apply zs5)) (allR_self _) ?_
      rintro ⟨⟨kk5, j, rl, fl⟩, hkk5, ⟨hj1, hj2⟩, ⟨hokr2, hokf2⟩, hS⟩ junk
      try dsimp only
      dsimp only at hkk5 hj1 hj2 hokr2 hokf2 hS
      refine CJ_seq (CJ_seq (CJ_region ?_))
      refine LJ_q (yv_move (show _ = Value.int _ _ from rfl)) rfl ?_
      refine LJ_q (yv_move (show _ = Value.int _ _ from rfl)) rfl ?_
      refine LJ_q (yv_lss rfl rfl) rfl ?_
      refine LJ_nil (seqK_normal ?_)
      refine CJ_cond (show _ = Value.bool _ from rfl) (fun hc6 => ?_) (fun hc6 => ?_)
      ·
       try simp only [zb1, zb2, zb3, zb4, zb5, zb6, zb7, zb8] at hc6
       have hSl := hS.len
       have hSr := hS.roads.len
       have hnj := get_D (l := nl) (k := j) 0 (by omega)
       have hnb := hD.small j
       refine CJ_skip (seqK_normal (CJ_seq (CJ_block (CJ_seq ?_))))
       refine CJ_drawn tb [0, 1, 2, 3, 6, 7, 8, 9, 10, 4, 5, 11, 12, 13] (((⟨.own b75 pl.l.length [], nl⟩ : OwL Int).L 3 icell ++ [])) mixed (by kernel_rfl) (by repeat (first | exact zs0 _ | exact zs1 _ | apply zs2 | apply zs3 | apply zs4 | apply zs5)) ?_
       refine DJ_q (yv_move (show _ = Value.pointer _ from rfl)) rfl rfl rfl ?_
       refine DJ_q (yv_move (show _ = Value.int _ _ from rfl)) rfl rfl rfl ?_
       refine DJ_q (yv_move (show _ = Value.pointer _ from rfl)) rfl rfl rfl ?_
       refine DJ_q (yv_move (show _ = Value.int _ _ from rfl)) rfl rfl rfl ?_
       refine DJ_q (yv_move (show _ = Value.slice _ _ _ from rfl)) rfl rfl rfl ?_
       refine DJ_q (yv_move (show _ = Value.int _ _ from rfl)) rfl rfl rfl ?_
       refine DJ_q (yv_index_ow tb ((⟨.own b75 pl.l.length [], nl⟩ : OwL Int)) _ rfl rfl ((show _ = Value.slice _ _ _ from rfl).trans (own_val hDl)) rfl (by assumption) (i := j) (by first | rfl | omega | (simp; omega)) (by first | omega | (dsimp only; omega) | (dsimp only; rw [List.length_set]; omega))) rfl rfl rfl ?_
       refine DJ_q (yv_load1_ow tb ((⟨.own b75 pl.l.length [], nl⟩ : OwL Int)) rfl rfl rfl (by repeat (first | apply OSeg.cons | exact OSeg.here | exact OSeg.last | exact OSeg.at (by assumption) | apply OSeg.app)) (by assumption) (fun _ => rfl) (by assumption) (by rfl)) rfl rfl rfl ?_
       refine DJ_q (yv_neg64 rfl (by omega) (by omega)) rfl rfl rfl ?_
       refine DJ_call rfl (next1 (by repeat (first | apply USeg.here | apply USeg.cons | apply USeg.app)) hx hkk5 (by omega)) rfl rfl ?_
       rintro v L' R' ⟨r9, k11, rfl, g9, g9', g9'', hk11, rfl, rfl⟩
       refine ⟨(by repeat (first | exact zs0 _ | exact zs1 _ | apply zs2 | apply zs3 | apply zs4 | apply zs5)), (by first | exact allR_self _ | exact (fun r h => inR_self (by simp [h]))), ?_⟩
       have g9q := g9' (by omega)
       refine DJ_call rfl (road1 (by repeat (first | apply USeg.here | apply USeg.cons | apply USeg.app)) hx hk11) rfl rfl ?_
       rintro v L' R' ⟨rd, k12, rfl, hrd, hk12, rfl, rfl⟩
       refine ⟨(by repeat (first | exact zs0 _ | exact zs1 _ | apply zs2 | apply zs3 | apply zs4 | apply zs5)), (by first | exact allR_self _ | exact (fun r h => inR_self (by simp [h]))), ?_⟩
       refine DJ_alloc rfl rfl ?_
       intro b17
       refine DJ_storeW rfl rfl rfl rfl (by repeat (first | apply zu0 | apply zu1 | apply zu2)) (by rfl) (by rfl) (by repeat (first | exact zs0 _ | exact zs1 _ | apply zs2 | apply zs3 | apply zs4 | apply zs5)) ?_
       refine DJ_q (yv_assign (show _ = Value.int _ _ from rfl)) rfl rfl rfl ?_
       refine DJ_nil (seqK_normal (CJ_seq (CJ_seq (CJ_region ?_))))
       refine LJ_q (yv_move (show _ = Value.pointer _ from rfl)) rfl ?_
       refine LJ_call rfl (one1 (by repeat (first | apply USeg.here | apply USeg.cons | apply USeg.app)) hx hk12 (by omega)) rfl ?_
       rintro v L' R' ⟨b, k13, rfl, hk13, rfl, rfl⟩
       have hf1 := hrd.fr
       have hf2 := hrd.to
       have hG1 : RoadG pl.l.length rd := ⟨⟨by omega, by omega, hrd.rest⟩, by omega, hrd.len, hrd.area⟩
       refine LJ_nil (seqK_normal ?_)
       refine CJ_joinS [18, 155, 156, 157, 158, 159, 160, 161, 162] ((⟨fun g => [(18, .int .i64 g.1.2)], fun g => ⟨b17, g.1.1.cells, 64⟩ :: ((⟨.own b75 pl.l.length [], nl⟩ : OwL Int).L 3 icell ++ (⟨b9, [(⟨.own b60 pl.l.length [], pr⟩ : OwL Int).val, fl.val], 37⟩ :: ((⟨.own b60 pl.l.length [], pr⟩ : OwL Int).L 3 icell ++ (cblk c x k13 :: ⟨b5, [pl.val, rl.val, .slice none 0 0, .slice none 0 0], 30⟩ :: (pl.L 70 XPlace.cells ++ (⟨b4, [.slice none 0 0, .slice none 0 0], 37⟩ :: ⟨b3, [.slice none 0 0, .slice none 0 0], 33⟩ :: ⟨b2, [.slice none 0 0, .slice none 0 0, .slice none 0 0, .slice none 0 0], 30⟩ ::  (rl.L 64 XRoad.cells ++ (fl.L 3 icell ++ [])))))))), fun _ => R, fun _ => 0⟩ : Head {g : XRoad × Int // RoadG pl.l.length g.1 ∧ (-600 ≤ g.2 ∧ g.2 ≤ 600) ∧ g.1.closed = false ∧ ((g.1.fr = (j : Int) ∧ g.1.to < (pl0.l.length : Int) ∧ g.2 = -(nl.getD j 0)) ∨ (g.1.to = (j : Int) ∧ g.1.fr < (pl0.l.length : Int) ∧ g.2 = nl.getD j 0))})) ?_ ?_
       ·
        skip
        refine CJ_cond (show _ = Value.bool _ from rfl) (fun hc7 => ?_) (fun hc7 => ?_)
        ·
         try simp only [zb1, zb2, zb3, zb4, zb5, zb6, zb7, zb8] at hc7
         refine CJ_region ?_
         refine LJ_q (yv_field tb rfl rfl rfl) rfl ?_
         refine LJ_q (yv_load1 tb rfl rfl rfl (by repeat (first | exact zi0 | apply zi1 | apply zi2)) (by rfl)) rfl ?_
         refine LJ_q (yv_field tb rfl rfl rfl) rfl ?_
         refine LJ_q (yv_load1 tb rfl rfl rfl (by repeat (first | exact zi0 | apply zi1 | apply zi2)) (by rfl)) rfl ?_
         refine LJ_q (yv_move (show _ = Value.int _ _ from rfl)) rfl ?_
         refine LJ_q (yv_neg64 rfl (by omega) (by omega)) rfl ?_
         refine LJ_q (yv_field tb rfl rfl rfl) rfl ?_
         refine LJ_store1 (v := Value.int _ _) tb rfl rfl rfl rfl (by repeat (first | apply zu0 | apply zu1 | apply zu2)) (by first | exact icell_fit (by omega) | rfl) (by first | exact icell_set | rfl) (by rfl) ?_
         refine LJ_q (yv_field tb rfl rfl rfl) rfl ?_
         refine LJ_store1 (v := Value.int _ _) tb rfl rfl rfl rfl (by repeat (first | apply zu0 | apply zu1 | apply zu2)) (by first | exact icell_fit (by omega) | rfl) (by first | exact icell_set | rfl) (by rfl) ?_
         refine LJ_q (yv_assign (show _ = Value.int _ _ from rfl)) rfl ?_
         refine LJ_nil ?_
         exact joinK_mk ⟨({ rd with fr := rd.to, to := rd.fr }, - -(nl.getD j 0)), ⟨⟨hG1.d.to, hG1.d.fr, hrd.rest⟩, (fun h => hG1.ne h.symm), hrd.len, hrd.area⟩, by dsimp only; omega, hrd.closed, .inr ⟨hf1, by dsimp only; omega, by dsimp only; omega⟩⟩ (by repeat (first | exact Off.refl | apply Off.upd rfl | apply Off.havoc rfl | apply Off.updL rfl | apply Off.left rfl)) (by repeat' (first | exact trivial | refine And.intro rfl ?_)) (by repeat (first | exact zs0 _ | exact zs1 _ | apply zs2 | apply zs3 | apply zs4 | apply zs5)) (allR_self _)
        ·
         try simp only [zb1, zb2, zb3, zb4, zb5, zb6, zb7, zb8] at hc7
         refine CJ_skip ?_
         exact joinK_mk ⟨(rd, -(nl.getD j 0)), hG1, by dsimp only; omega, hrd.closed, .inl ⟨hf1, by dsimp only; omega, rfl⟩⟩ (by repeat (first | exact Off.refl | apply Off.upd rfl | apply Off.havoc rfl | apply Off.updL rfl | apply Off.left rfl)) (by repeat' (first | exact trivial | refine And.intro rfl ?_)) (by repeat (first | exact zs0 _ | exact zs1 _ | apply zs2 | apply zs3 | apply zs4 | apply zs5)) (allR_self _)
       ·
        rintro ⟨⟨rr, q⟩, hG, hq, hcl, hend⟩ junk
        try dsimp only
        dsimp only at hG hq hcl hend
        refine CJ_tree tb [] [0, 1, 2, 3, 6, 7, 8, 4, 5, 9, 10, 11, 12] [13, 14, 15] ([Blk.mk b17 _ _, Blk.mk b9 _ _, Blk.mk b5 _ _]) [] 13 mixed (by kernel_rfl) rfl rfl (by repeat (first | exact zs0 _ | exact zs1 _ | apply zs2 | apply zs3 | apply zs4 | apply zs5)) fun hT35 => ?_
        refine WZ_q 0 hT35 (List.nil_sublist _) (by kernel_rfl) rfl rfl rfl rfl rfl (yv_field tb rfl rfl rfl) ?_
        refine WZ_q 1 hT35 (List.nil_sublist _) (by kernel_rfl) rfl rfl rfl rfl rfl (yv_field tb rfl rfl rfl) ?_
        refine WZ_q 2 hT35 (List.nil_sublist _) (by kernel_rfl) rfl rfl rfl rfl rfl (yv_load1 tb rfl rfl rfl (by repeat (first | exact zi0 | apply zi1 | apply zi2)) (by rfl)) ?_
        refine WZ_q 3 hT35 (List.nil_sublist _) (by kernel_rfl) rfl rfl rfl rfl rfl (yv_loadN (row := [_, _, _, _, _, _, _, _, _, _]) tb rfl rfl rfl (by repeat (first | exact zi0 | apply zi1 | apply zi2)) (by rfl) (by rfl)) ?_
        refine WZ_q 6 hT35 (List.nil_sublist _) (by kernel_rfl) rfl rfl rfl rfl rfl (yv_field tb rfl rfl rfl) ?_
        refine WZ_q 7 hT35 (List.nil_sublist _) (by kernel_rfl) rfl rfl rfl rfl rfl (yv_load1 tb rfl rfl rfl (by repeat (first | exact zi0 | apply zi1 | apply zi2)) (by rfl)) ?_
        refine WZ_q 8 hT35 (List.nil_sublist _) (by kernel_rfl) rfl rfl rfl rfl rfl (yv_move (show _ = Value.int _ _ from rfl)) ?_
        refine WZ_branch [4, 9] hT35 (List.nil_sublist _) (by kernel_rfl) ?_
        refine WSteps_cons ?_ ?_
        ·
         skip
         refine WStep_g rfl (gives_buildSlice (qs := [(0, (Value.agg _).cells.toList)]) (out := [_, _, _, _, _, _, _, _, _, _]) tb rfl rfl rfl rfl rfl rfl rfl) rfl rfl ?_
         rintro v L' R' ⟨b167, rfl, rfl, hR167⟩
         replace hR167 := hR167.symm; subst hR167
         refine ⟨(by repeat (first | exact zs0 _ | exact zs1 _ | apply zs2 | apply zs3 | apply zs4 | apply zs5)), allR_self _, ?_⟩
         refine WZ_branch [5, 9] hT35 (List.nil_sublist _) (by kernel_rfl) ?_
         refine WSteps_cons ?_ ?_
         ·
          skip
          refine WStep_g rfl (gives_append1 (f := XRoad.cells) (p := rl) (a := rr) tb rfl rfl rfl rfl (hokr2) (by repeat (first | apply OSeg.cons | exact OSeg.here | exact OSeg.last | exact OSeg.at (by assumption) | apply OSeg.app)) (shown_own (by repeat (first | exact zi0 | apply zi1 | apply zi2)) rfl rfl) rfl (by first | omega | (simp only [List.length_cons, List.length_nil, List.length_append]; omega))) rfl rfl ?_
          rintro v L' R' ⟨o168, rfl, hok168, rfl, rfl⟩
          refine ⟨(by repeat (first | exact zs0 _ | exact zs1 _ | apply zs2 | apply zs3 | apply zs4 | apply zs5)), allR_self _, ?_⟩
          refine WZ_branch [9] hT35 (List.nil_sublist _) (by kernel_rfl) ?_
          refine WSteps_cons ?_ WSteps_nil
          refine WStep_g rfl (gives_buildSlice (qs := [(0, (Value.int _ _).cells.toList)]) (out := [_]) tb rfl rfl rfl rfl rfl rfl rfl) rfl rfl ?_
          rintro v L' R' ⟨b172, rfl, rfl, hR172⟩
          replace hR172 := hR172.symm; subst hR172
          refine ⟨(by repeat (first | exact zs0 _ | exact zs1 _ | apply zs2 | apply zs3 | apply zs4 | apply zs5)), allR_self _, ?_⟩
          refine WZ_branch [10] hT35 (List.nil_sublist _) (by kernel_rfl) ?_
          refine WSteps_cons ?_ WSteps_nil
          refine WStep_g rfl (gives_append1 (f := icell) (p := fl) (a := q) tb rfl rfl rfl rfl (hokf2) (by repeat (first | apply OSeg.cons | exact OSeg.here | exact OSeg.last | exact OSeg.at (by assumption) | apply OSeg.app)) (shown_own (by repeat (first | exact zi0 | apply zi1 | apply zi2)) rfl rfl) rfl (by first | omega | (simp only [List.length_cons, List.length_nil, List.length_append]; omega))) rfl rfl ?_
          rintro v L' R' ⟨o173, rfl, hok173, rfl, rfl⟩
          refine ⟨(by repeat (first | exact zs0 _ | exact zs1 _ | apply zs2 | apply zs3 | apply zs4 | apply zs5)), allR_self _, ?_⟩
          refine WZ_q 11 hT35 (List.nil_sublist _) (by kernel_rfl) rfl rfl rfl rfl rfl (yv_field tb rfl rfl rfl) ?_
          refine WZ_q 12 hT35 (List.nil_sublist _) (by kernel_rfl) rfl rfl rfl rfl rfl (yv_field tb rfl rfl rfl) ?_
          refine WZ_endL hT35 (List.nil_sublist _) (by kernel_rfl) rfl ?_
          refine DJ_store1 (v := Value.slice _ _ _) rfl rfl rfl rfl (by repeat (first | apply zu0 | apply zu1 | apply zu2)) (by first | exact icell_fit (by omega) | rfl) (by first | exact icell_set | rfl) (by rfl) (by repeat (first | exact zs0 _ | exact zs1 _ | apply zs2 | apply zs3 | apply zs4 | apply zs5)) ?_
          refine DJ_q (yv_field tb rfl rfl rfl) rfl rfl rfl ?_
          refine DJ_store1 (v := Value.slice _ _ _) rfl rfl rfl rfl (by repeat (first | apply zu0 | apply zu1 | apply zu2)) (by first | exact icell_fit (by omega) | rfl) (by first | exact icell_set | rfl) (by rfl) (by repeat (first | exact zs0 _ | exact zs1 _ | apply zs2 | apply zs3 | apply zs4 | apply zs5)) ?_
          refine DJ_nil (blockK_normal (seqK_normal (CJ_region ?_)))
          refine LJ_q (yv_move (show _ = Value.int _ _ from rfl)) rfl ?_
          refine LJ_q (by first | exact yv_add64 rfl rfl (by omega) (by omega) | exact yv_addU rfl rfl (by omega) (by omega) | exact yv_add rfl rfl) rfl ?_
          refine LJ_q (yv_assign (show _ = Value.int _ _ from rfl)) rfl ?_
          refine LJ_nil ?_
          exact loopK_mk ⟨(k13, j + 1, ⟨o168, _⟩, ⟨o173, _⟩), hk13, ⟨by dsimp only; omega, by dsimp only; omega⟩, ⟨hok168, hok173⟩, hS.next hj1 hG hq hcl hend⟩ (by repeat (first | exact Off.refl | apply Off.upd rfl | apply Off.havoc rfl | apply Off.updL rfl | apply Off.left rfl)) (by repeat' (first | exact trivial | refine And.intro rfl ?_)) (by repeat (first | exact zs0 _ | exact zs1 _ | apply zs2 | apply zs3 | apply zs4 | apply zs5)) (allR_self _) (by dsimp only; omega)
         refine WSteps_cons ?_ WSteps_nil
         refine WStep_g rfl (gives_buildSlice (qs := [(0, (Value.int _ _).cells.toList)]) (out := [_]) tb rfl rfl rfl rfl rfl rfl rfl) rfl rfl ?_
         rintro v L' R' ⟨b172, rfl, rfl, hR172⟩
         replace hR172 := hR172.symm; subst hR172
         refine ⟨(by repeat (first | exact zs0 _ | exact zs1 _ | apply zs2 | apply zs3 | apply zs4 | apply zs5)), allR_self _, ?_⟩
         refine WZ_branch [5] hT35 (List.nil_sublist _) (by kernel_rfl) ?_
         refine WSteps_cons ?_ WSteps_nil
         refine WStep_g rfl (gives_append1 (f := XRoad.cells) (p := rl) (a := rr) tb rfl rfl rfl rfl (hokr2) (by repeat (first | apply OSeg.cons | exact OSeg.here | exact OSeg.last | exact OSeg.at (by assumption) | apply OSeg.app)) (shown_own (by repeat (first | exact zi0 | apply zi1 | apply zi2)) rfl rfl) rfl (by first | omega | (simp only [List.length_cons, List.length_nil, List.length_append]; omega))) rfl rfl ?_
         rintro v L' R' ⟨o168, rfl, hok168, rfl, rfl⟩
         refine ⟨(by repeat (first | exact zs0 _ | exact zs1 _ | apply zs2 | apply zs3 | apply zs4 | apply zs5)), allR_self _, ?_⟩
         refine WZ_branch [10] hT35 (List.nil_sublist _) (by kernel_rfl) ?_
         refine WSteps_cons ?_ WSteps_nil
         refine WStep_g rfl (gives_append1 (f := icell) (p := fl) (a := q) tb rfl rfl rfl rfl (hokf2) (by repeat (first | apply OSeg.cons | exact OSeg.here | exact OSeg.last | exact OSeg.at (by assumption) | apply OSeg.app)) (shown_own (by repeat (first | exact zi0 | apply zi1 | apply zi2)) rfl rfl) rfl (by first | omega | (simp only [List.length_cons, List.length_nil, List.length_append]; omega))) rfl rfl ?_
         rintro v L' R' ⟨o173, rfl, hok173, rfl, rfl⟩
         refine ⟨(by repeat (first | exact zs0 _ | exact zs1 _ | apply zs2 | apply zs3 | apply zs4 | apply zs5)), allR_self _, ?_⟩
         refine WZ_q 11 hT35 (List.nil_sublist _) (by kernel_rfl) rfl rfl rfl rfl rfl (yv_field tb rfl rfl rfl) ?_
         refine WZ_q 12 hT35 (List.nil_sublist _) (by kernel_rfl) rfl rfl rfl rfl rfl (yv_field tb rfl rfl rfl) ?_
         refine WZ_endL hT35 (List.nil_sublist _) (by kernel_rfl) rfl ?_
         refine DJ_store1 (v := Value.slice _ _ _) rfl rfl rfl rfl (by repeat (first | apply zu0 | apply zu1 | apply zu2)) (by first | exact icell_fit (by omega) | rfl) (by first | exact icell_set | rfl) (by rfl) (by repeat (first | exact zs0 _ | exact zs1 _ | apply zs2 | apply zs3 | apply zs4 | apply zs5)) ?_
         refine DJ_q (yv_field tb rfl rfl rfl) rfl rfl rfl ?_
         refine DJ_store1 (v := Value.slice _ _ _) rfl rfl rfl rfl (by repeat (first | apply zu0 | apply zu1 | apply zu2)) (by first | exact icell_fit (by omega) | rfl) (by first | exact icell_set | rfl) (by rfl) (by repeat (first | exact zs0 _ | exact zs1 _ | apply zs2 | apply zs3 | apply zs4 | apply zs5)) ?_
         refine DJ_nil (blockK_normal (seqK_normal (CJ_region ?_)))
         refine LJ_q (yv_move (show _ = Value.int _ _ from rfl)) rfl ?_
         refine LJ_q (by first | exact yv_add64 rfl rfl (by omega) (by omega) | exact yv_addU rfl rfl (by omega) (by omega) | exact yv_add rfl rfl) rfl ?_
         refine LJ_q (yv_assign (show _ = Value.int _ _ from rfl)) rfl ?_
         refine LJ_nil ?_
         exact loopK_mk ⟨(k13, j + 1, ⟨o168, _⟩, ⟨o173, _⟩), hk13, ⟨by dsimp only; omega, by dsimp only; omega⟩, ⟨hok168, hok173⟩, hS.next hj1 hG hq hcl hend⟩ (by repeat (first | exact Off.refl | apply Off.upd rfl | apply Off.havoc rfl | apply Off.updL rfl | apply Off.left rfl)) (by repeat' (first | exact trivial | refine And.intro rfl ?_)) (by repeat (first | exact zs0 _ | exact zs1 _ | apply zs2 | apply zs3 | apply zs4 | apply zs5)) (allR_self _) (by dsimp only; omega)
        refine WSteps_cons ?_ WSteps_nil
        refine WStep_g rfl (gives_buildSlice (qs := [(0, (Value.int _ _).cells.toList)]) (out := [_]) tb rfl rfl rfl rfl rfl rfl rfl) rfl rfl ?_
        rintro v L' R' ⟨b172, rfl, rfl, hR172⟩
        replace hR172 := hR172.symm; subst hR172
        refine ⟨(by repeat (first | exact zs0 _ | exact zs1 _ | apply zs2 | apply zs3 | apply zs4 | apply zs5)), allR_self _, ?_⟩
        refine WZ_branch [4] hT35 (List.nil_sublist _) (by kernel_rfl) ?_
        refine WSteps_cons ?_ WSteps_nil
        refine WStep_g rfl (gives_buildSlice (qs := [(0, (Value.agg _).cells.toList)]) (out := [_, _, _, _, _, _, _, _, _, _]) tb rfl rfl rfl rfl rfl rfl rfl) rfl rfl ?_
        rintro v L' R' ⟨b167, rfl, rfl, hR167⟩
        replace hR167 := hR167.symm; subst hR167
        refine ⟨(by repeat (first | exact zs0 _ | exact zs1 _ | apply zs2 | apply zs3 | apply zs4 | apply zs5)), allR_self _, ?_⟩
        refine WZ_branch [5] hT35 (List.nil_sublist _) (by kernel_rfl) ?_
        refine WSteps_cons ?_ WSteps_nil
        refine WStep_g rfl (gives_append1 (f := XRoad.cells) (p := rl) (a := rr) tb rfl rfl rfl rfl (hokr2) (by repeat (first | apply OSeg.cons | exact OSeg.here | exact OSeg.last | exact OSeg.at (by assumption) | apply OSeg.app)) (shown_own (by repeat (first | exact zi0 | apply zi1 | apply zi2)) rfl rfl) rfl (by first | omega | (simp only [List.length_cons, List.length_nil, List.length_append]; omega))) rfl rfl ?_
        rintro v L' R' ⟨o168, rfl, hok168, rfl, rfl⟩
        refine ⟨(by repeat (first | exact zs0 _ | exact zs1 _ | apply zs2 | apply zs3 | apply zs4 | apply zs5)), allR_self _, ?_⟩
        refine WZ_branch [10] hT35 (List.nil_sublist _) (by kernel_rfl) ?_
        refine WSteps_cons ?_ WSteps_nil
        refine WStep_g rfl (gives_append1 (f := icell) (p := fl) (a := q) tb rfl rfl rfl rfl (hokf2) (by repeat (first | apply OSeg.cons | exact OSeg.here | exact OSeg.last | exact OSeg.at (by assumption) | apply OSeg.app)) (shown_own (by repeat (first | exact zi0 | apply zi1 | apply zi2)) rfl rfl) rfl (by first | omega | (simp only [List.length_cons, List.length_nil, List.length_append]; omega))) rfl rfl ?_
        rintro v L' R' ⟨o173, rfl, hok173, rfl, rfl⟩
        refine ⟨(by repeat (first | exact zs0 _ | exact zs1 _ | apply zs2 | apply zs3 | apply zs4 | apply zs5)), allR_self _, ?_⟩
        refine WZ_q 11 hT35 (List.nil_sublist _) (by kernel_rfl) rfl rfl rfl rfl rfl (yv_field tb rfl rfl rfl) ?_
        refine WZ_q 12 hT35 (List.nil_sublist _) (by kernel_rfl) rfl rfl rfl rfl rfl (yv_field tb rfl rfl rfl) ?_
        refine WZ_endL hT35 (List.nil_sublist _) (by kernel_rfl) rfl ?_
        refine DJ_store1 (v := Value.slice _ _ _) rfl rfl rfl rfl (by repeat (first | apply zu0 | apply zu1 | apply zu2)) (by first | exact icell_fit (by omega) | rfl) (by first | exact icell_set | rfl) (by rfl) (by repeat (first | exact zs0 _ | exact zs1 _ | apply zs2 | apply zs3 | apply zs4 | apply zs5)) ?_
        refine DJ_q (yv_field tb rfl rfl rfl) rfl rfl rfl ?_
        refine DJ_store1 (v := Value.slice _ _ _) rfl rfl rfl rfl (by repeat (first | apply zu0 | apply zu1 | apply zu2)) (by first | exact icell_fit (by omega) | rfl) (by first | exact icell_set | rfl) (by rfl) (by repeat (first | exact zs0 _ | exact zs1 _ | apply zs2 | apply zs3 | apply zs4 | apply zs5)) ?_
        refine DJ_nil (blockK_normal (seqK_normal (CJ_region ?_)))
        refine LJ_q (yv_move (show _ = Value.int _ _ from rfl)) rfl ?_
        refine LJ_q (by first | exact yv_add64 rfl rfl (by omega) (by omega) | exact yv_addU rfl rfl (by omega) (by omega) | exact yv_add rfl rfl) rfl ?_
        refine LJ_q (yv_assign (show _ = Value.int _ _ from rfl)) rfl ?_
        refine LJ_nil ?_
        exact loopK_mk ⟨(k13, j + 1, ⟨o168, _⟩, ⟨o173, _⟩), hk13, ⟨by dsimp only; omega, by dsimp only; omega⟩, ⟨hok168, hok173⟩, hS.next hj1 hG hq hcl hend⟩ (by repeat (first | exact Off.refl | apply Off.upd rfl | apply Off.havoc rfl | apply Off.updL rfl | apply Off.left rfl)) (by repeat' (first | exact trivial | refine And.intro rfl ?_)) (by repeat (first | exact zs0 _ | exact zs1 _ | apply zs2 | apply zs3 | apply zs4 | apply zs5)) (allR_self _) (by dsimp only; omega)
      ·
       try simp only [zb1, zb2, zb3, zb4, zb5, zb6, zb7, zb8] at hc6
       obtain rfl : j = pl.l.length := by omega
       have hSl := hS.len
       have hSr := hS.roads.len
       have hprl := hPr.len
       refine CJ_exit (seqK_exit (loopK_exit (blockK_exit (seqK_normal (CJ_seq (CJ_region ?_))))))
       refine LJ_q (yv_move (show _ = Value.pointer _ from rfl)) rfl ?_
       refine LJ_call rfl (Tri.spl (.appB (.consB (.appB (.consL (.consL (.appB (.consB (.consB (.consB (.appB (.appB .nil))))))))))) (equipped_tri c b5 x kk5 rl.l.length rl.o.cap pl.val rl.o.addr R hx hkk5 (by omega))) rfl ?_
       rintro v L' R' ⟨L1, rfl, fans, doors, sf, sd, k14, S, rfl, ⟨ho1, ho2, ho3, ho4⟩, hFD, hDD, hif, hid, hk14, rfl, rfl⟩
       simp only [List.append_assoc, List.cons_append, List.nil_append]
       have hxs : CodesR x (S ++ R) := hx.mono fun r h => inR_self (by simp [h])
       have hFm := hFD.m
       have hDm2 := hDD.m
       have hFl := hFD.len
       have hDl2 := hDD.len
       refine LJ_alloc tb rfl rfl ?_
       intro b19
       refine LJ_storeW tb rfl rfl rfl rfl (by repeat (first | apply zu0 | apply zu1 | apply zu2)) (by rfl) (by rfl) ?_
       refine LJ_nil (seqK_normal (CJ_seq (CJ_region ?_)))
       refine LJ_q (yv_move (show _ = Value.pointer _ from rfl)) rfl ?_
       refine LJ_q (yv_loadN (row := [_, _]) tb rfl rfl rfl (by repeat (first | exact zi0 | apply zi1 | apply zi2)) (by rfl) (by rfl)) rfl ?_
       refine LJ_q (yv_loadN (row := [_, _]) tb rfl rfl rfl (by repeat (first | exact zi0 | apply zi1 | apply zi2)) (by rfl) (by rfl)) rfl ?_
       refine LJ_call rfl (fit_lent (n := rl.l.length) (pres := (⟨.own b60 pl.l.length [], pr⟩ : OwL Int)) ⟨pl.arr, rl.arr⟩ (.consB (.appB (.consB (.appB (.appB (.consB (.consB (.consB (.appL (.appB (.consL (.consL (.appB (.appB (.appB (.appB .nil)))))))))))))))) (by repeat (first | exact inB_here | apply inB_cons | apply inB_app)) (by repeat (first | exact inB_here | apply inB_cons | apply inB_app)) (by repeat (first | exact inB_here | apply inB_cons | apply inB_app)) (by repeat (first | exact inB_here | apply inB_cons | apply inB_app)) (by repeat (first | exact inB_here | apply inB_cons | apply inB_app)) (by repeat (first | exact inB_here | apply inB_cons | apply inB_app)) ho1 ho2 ho3 ho4 hokp hokf2 (fun f hf => (hif f hf).mono fun r hr => inR_self (by simp [hr])) (fun d hd => (hid d hd).mono fun r hr => inR_self (by simp [hr])) hxs hk14 hokr2 hFD hDD hSr.symm (by omega) hS.roads.flow (fun i p hp => (hPr.val i p hp).1) (fun i r hr => by dsimp only; rw [hprl]; exact (hS.roads.road i r hr).d)) rfl ?_
       rintro v L' R' ⟨rl', k15, rfl, hFI, hk15, rfl, rfl⟩
       simp only [List.append_assoc, List.cons_append, List.nil_append]
       have hrv : rl.val = (⟨rl.o, rl'⟩ : OwL XRoad).val := by simp only [OwL.val, hFI.len]
       refine LJ_nil (seqK_normal (CJ_seq ?_))
       rw [hrv]
       refine CJ_drawn2 tb [188] [0, 1, 2, 3, 5, 4] [6, 7, 8] ([Blk.mk b19 _ _, Blk.mk b9 _ _, Blk.mk b5 _ _]) _ mixed (by kernel_rfl) (by repeat (first | exact zs0 _ | exact zs1 _ | apply zs2 | apply zs3 | apply zs4 | apply zs5)) (by (repeat (first | apply List.Sublist.cons (a := Blk.mk b2 _ _) | apply List.Sublist.cons (a := Blk.mk b3 _ _) | apply List.Sublist.cons (a := Blk.mk b4 _ _) | apply List.Sublist.cons_cons)); exact List.Sublist.refl _) ?_
       refine DJ3_q (yv_loadN (row := [_, _, _, _]) tb rfl rfl rfl (by repeat (first | exact zi0 | apply zi1 | apply zi2)) (by rfl) (by rfl)) rfl rfl rfl rfl ?_
       refine DJ3_q (yv_move (show _ = Value.pointer _ from rfl)) rfl rfl rfl rfl ?_
       refine DJ3_q (yv_loadN (row := [_, _, _, _]) tb rfl rfl rfl (by repeat (first | exact zi0 | apply zi1 | apply zi2)) (by rfl) (by rfl)) rfl rfl rfl rfl ?_
       refine DJ3_q (yv_loadN (row := [_, _]) tb rfl rfl rfl (by repeat (first | exact zi0 | apply zi1 | apply zi2)) (by rfl) (by rfl)) rfl rfl rfl rfl ?_
       refine DJ3_ql (yv_loadN (row := [_, _]) tb rfl rfl rfl (by repeat (first | exact zi0 | apply zi1 | apply zi2)) (by rfl) (by rfl)) rfl rfl rfl rfl ?_
       refine DJ3_call rfl (doubts_lent (a := ⟨⟨pl.arr, (⟨rl.o, rl'⟩ : OwL XRoad).arr⟩, fans.arr, doors.arr⟩) (.consB (.appB (.consB (.appB (.appB (.consB (.consB (.consB (.appB (.appB (.appB (.appB (.appB (.consL (.consB (.appB .nil)))))))))))))))) (by repeat (first | exact inB_here | apply inB_cons | apply inB_app)) (by repeat (first | exact inB_here | apply inB_cons | apply inB_app)) ho3 ho4 hxs hk15 (by omega) (by omega)) rfl rfl ?_
       rintro v L' R' ⟨tf, td, k16, rfl, ⟨ht1, ht2⟩, hdf, hdd, hk16, rfl, rfl⟩
       simp only [List.append_assoc, List.cons_append, List.nil_append]
       refine ⟨(by repeat (first | exact zs0 _ | exact zs1 _ | apply zs2 | apply zs3 | apply zs4 | apply zs5)), (by first | exact allR_self _ | exact (fun r h => inR_self (by simp [h]))), ?_⟩
       refine DJ3_phase ?_
       refine DJ_storeW rfl rfl rfl rfl (by repeat (first | apply zu0 | apply zu1 | apply zu2)) (by rfl) (by rfl) (by repeat (first | exact zs0 _ | exact zs1 _ | apply zs2 | apply zs3 | apply zs4 | apply zs5)) ?_
       refine DJ_storeW rfl rfl rfl rfl (by repeat (first | apply zu0 | apply zu1 | apply zu2)) (by rfl) (by rfl) (by repeat (first | exact zs0 _ | exact zs1 _ | apply zs2 | apply zs3 | apply zs4 | apply zs5)) ?_
       refine DJ_storeW rfl rfl rfl rfl (by repeat (first | apply zu0 | apply zu1 | apply zu2)) (by rfl) (by rfl) (by repeat (first | exact zs0 _ | exact zs1 _ | apply zs2 | apply zs3 | apply zs4 | apply zs5)) ?_
       refine DJ_nil (seqK_normal (CJ_ret ?_))
       refine retK_ret (L' := MadeO.L ⟨pl, ⟨rl.o, rl'⟩, fans, doors, tf, td, (⟨.own b60 pl.l.length [], pr⟩ : OwL Int), fl⟩ (cblk c x k16)) (R' := S ++ R) (res3 rfl (rv_cell (row := [_, _, _, _]) tb rfl rfl rfl (by repeat (first | exact zi0 | apply zi1 | apply zi2)) (by rfl) (by rfl)) (rv_cell (row := [_, _]) tb rfl rfl rfl (by repeat (first | exact zi0 | apply zi1 | apply zi2)) (by rfl) (by rfl)) (rv_cell (row := [_, _]) tb rfl rfl rfl (by repeat (first | exact zi0 | apply zi1 | apply zi2)) (by rfl) (by rfl))) ?hp ?hL ?hR
       case hp =>
        have hMA := madeA_of (a := MadeO.a ⟨pl, ⟨rl.o, rl'⟩, fans, doors, tf, td, (⟨.own b60 pl.l.length [], pr⟩ : OwL Int), fl⟩) (s := ⟨sf.arr, sd.arr⟩) (t := MadeO.t ⟨pl, ⟨rl.o, rl'⟩, fans, doors, tf, td, (⟨.own b60 pl.l.length [], pr⟩ : OwL Int), fl⟩) (x := MadeO.x ⟨pl, ⟨rl.o, rl'⟩, fans, doors, tf, td, (⟨.own b60 pl.l.length [], pr⟩ : OwL Int), fl⟩) hP hPr hS hFD hDD ⟨hFI.len, hFI.done, hFI.todo⟩ hdf hdd
        exact ⟨⟨pl, ⟨rl.o, rl'⟩, fans, doors, tf, td, (⟨.own b60 pl.l.length [], pr⟩ : OwL Int), fl⟩, k16, S, rfl, ⟨hok, OwL.len_ok (fun _ => rfl) hokr2 hFI.len, ho1, ho2, ht1, ht2, hokp, hokf2⟩, hMA, hif, hid, hk16, rfl, rfl⟩
       case hL => exact (by repeat (first | exact zs0 _ | exact zs1 _ | apply zs2 | apply zs3 | apply zs4 | apply zs5))
       case hR => exact allR_self _
end Go.Proofs.Ytimnnhdeicpenaa
