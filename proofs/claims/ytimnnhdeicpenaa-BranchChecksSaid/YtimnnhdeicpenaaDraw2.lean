/-
  The draws: what an air is equipped with, settings. By an AI agent; no person has read it.
-/
import Derived.Test.YtimnnhdeicpenaaDraw1
set_option linter.unusedSimpArgs false
set_option linter.unusedVariables false
namespace Go.Proofs.Ytimnnhdeicpenaa
open Go.Aw Go
set_option maxRecDepth 20000
attribute [local irreducible] CJ LJ DJ Tri YV Gives seqK blockK loopK retK RV mergeK OwL.L

theorem curve1 {c : Nat} {x : Arr Int} {k : Nat} {L : List Blk} {F : List Value → List Blk} {R : List Sl} (hu : USeg c (ccells x k) 68 L F) (hx : CodesR x R) (hk : k ≤ x.l.length) :
    Tri Try.prog 13 [.pointer (some ⟨c, 0, none⟩)].toArray L R
      (fun v L' R' => ∃ (y : Arr XPoint) (k' : Nat), v = y.val ∧ MadeCurve y.l ∧ k' ≤ x.l.length ∧ F (ccells x k') = L' ∧ ptsl y :: R = R') :=
  (Tri.at1 (Post' := fun v cs' R' => ∃ (y : Arr XPoint) (k' : Nat), v = y.val ∧ MadeCurve y.l ∧ k' ≤ x.l.length ∧ cs' = ccells x k' ∧ ptsl y :: R = R') hu (drawCurve_tri c x k R hx hk)
    (fun v L' R' ⟨y, k', h1, h2, h5, h6, h7⟩ => ⟨_, h6, y, k', h1, h2, h5, rfl, h7⟩)).mono
    (fun v L' R' ⟨cs', h0, y, k', h1, h2, h5, h6, h7⟩ => ⟨y, k', h1, h2, h5, by rw [← h6]; exact h0, h7⟩)
theorem door1 {c : Nat} {x : Arr Int} {k : Nat} {road : Int} {L : List Blk} {F : List Value → List Blk} {R : List Sl} (hu : USeg c (ccells x k) 68 L F) (hx : CodesR x R) (hk : k ≤ x.l.length) :
    Tri Try.prog 14 [.pointer (some ⟨c, 0, none⟩), .int .i64 road].toArray L R
      (fun v L' R' => ∃ (d : XDoor) (k' : Nat), v = d.val ∧ MadeDoor road d ∧ k' ≤ x.l.length ∧ F (ccells x k') = L' ∧ d.sl :: R = R') :=
  (Tri.at1 (Post' := fun v cs' R' => ∃ (d : XDoor) (k' : Nat), v = d.val ∧ MadeDoor road d ∧ k' ≤ x.l.length ∧ cs' = ccells x k' ∧ d.sl :: R = R') hu (drawDoor_tri c x k road R hx hk)
    (fun v L' R' ⟨y, k', h1, h2, h5, h6, h7⟩ => ⟨_, h6, y, k', h1, h2, h5, rfl, h7⟩)).mono
    (fun v L' R' ⟨cs', h0, y, k', h1, h2, h5, h6, h7⟩ => ⟨y, k', h1, h2, h5, by rw [← h6]; exact h0, h7⟩)
theorem road1 {c : Nat} {x : Arr Int} {k : Nat} {fr to : Int} {L : List Blk} {F : List Value → List Blk} {R : List Sl} (hu : USeg c (ccells x k) 68 L F) (hx : CodesR x R) (hk : k ≤ x.l.length) :
    Tri Try.prog 31 [.pointer (some ⟨c, 0, none⟩), .int .i64 fr, .int .i64 to].toArray L R
      (fun v L' R' => ∃ (r : XRoad) (k' : Nat), v = r.val ∧ MadeRoad fr to r ∧ k' ≤ x.l.length ∧ F (ccells x k') = L' ∧ R = R') :=
  (Tri.at1 (Post' := fun v cs' R' => ∃ (r : XRoad) (k' : Nat), v = r.val ∧ MadeRoad fr to r ∧ k' ≤ x.l.length ∧ cs' = ccells x k' ∧ R = R') hu (drawRoad_tri c x k fr to R hx hk)
    (fun v L' R' ⟨y, k', h1, h2, h5, h6, h7⟩ => ⟨_, h6, y, k', h1, h2, h5, rfl, h7⟩)).mono
    (fun v L' R' ⟨cs', h0, y, k', h1, h2, h5, h6, h7⟩ => ⟨y, k', h1, h2, h5, by rw [← h6]; exact h0, h7⟩)

structure FanD (n : Nat) (f : XFan) : Prop where
  road : 0 ≤ f.road ∧ f.road < n
  curve : MadeCurve f.curve.l
structure DoorD (n : Nat) (d : XDoor) : Prop where
  road : 0 ≤ d.road ∧ d.road < n
  made : MadeDoor d.road d
/-- fans with their states -/
structure FansD (n : Nat) (m : Int) (fans : List XFan) (sf : List Int) : Prop where
  m : 0 ≤ m ∧ (fans.length : Int) + m ≤ 2
  len : sf.length = fans.length
  fan : ∀ f ∈ fans, FanD n f
  st : ∀ s ∈ sf, 0 ≤ s ∧ s ≤ 2
structure DoorsD (n : Nat) (m : Int) (doors : List XDoor) (sd : List Int) : Prop where
  m : 0 ≤ m ∧ (doors.length : Int) + m ≤ 2
  len : sd.length = doors.length
  door : ∀ d ∈ doors, DoorD n d
  st : ∀ (i : Nat) (d : XDoor) (s : Int), doors[i]? = some d → sd[i]? = some s → 0 ≤ s ∧ s < d.rests.l.length

theorem FansD.next {n : Nat} {m : Int} {fans : List XFan} {sf : List Int} (h : FansD n m fans sf) (hm : 0 < m) {f : XFan} (hf : FanD n f) {s : Int} (hs : 0 ≤ s ∧ s ≤ 2) : FansD n (m - 1) (fans ++ [f]) (sf ++ [s]) := by
  have := h.m
  refine ⟨by simp only [List.length_append, List.length_singleton]; omega, by simp [h.len], fun g hg => ?_, fun t ht => ?_⟩
  · rcases List.mem_append.1 hg with hg | hg
    · exact h.fan g hg
    · rw [List.mem_singleton.1 hg]; exact hf
  · rcases List.mem_append.1 ht with ht | ht
    · exact h.st t ht
    · rw [List.mem_singleton.1 ht]; exact hs
theorem FansD.zero {n : Nat} {m : Int} {fans : List XFan} {sf : List Int} (h : FansD n m fans sf) : FansD n 0 fans sf := ⟨by have := h.m; omega, h.len, h.fan, h.st⟩
theorem DoorsD.zero {n : Nat} {m : Int} {doors : List XDoor} {sd : List Int} (h : DoorsD n m doors sd) : DoorsD n 0 doors sd := ⟨by have := h.m; omega, h.len, h.door, h.st⟩
theorem DoorsD.next {n : Nat} {m : Int} {doors : List XDoor} {sd : List Int} (h : DoorsD n m doors sd) (hm : 0 < m) {d : XDoor} (hd : DoorD n d) {s : Int} (hs : 0 ≤ s ∧ s < d.rests.l.length) : DoorsD n (m - 1) (doors ++ [d]) (sd ++ [s]) := by
  have := h.m
  refine ⟨by simp only [List.length_append, List.length_singleton]; omega, by simp [h.len], fun g hg => ?_, fun i d' s' h1 h2 => ?_⟩
  · rcases List.mem_append.1 hg with hg | hg
    · exact h.door g hg
    · rw [List.mem_singleton.1 hg]; exact hd
  · have hl := h.len
    rw [List.getElem?_append] at h1 h2
    split at h1
    · rw [if_pos (by omega)] at h2
      exact h.st i d' s' h1 h2
    · rw [if_neg (by omega)] at h2
      rw [List.getElem?_singleton] at h1 h2
      split at h1
      · rw [if_pos (by omega)] at h2
        cases h1; cases h2; exact hs
      · cases h1

theorem equipped_tri (c ab : Nat) (x : Arr Int) (k n rc : Nat) (pv : Value) (ra : Option Addr) (R : List Sl) (hx : CodesR x R) (hk : k ≤ x.l.length) (hn : n ≤ 100) :
    Tri Try.prog 32 [.pointer (some ⟨c, 0, none⟩), .pointer (some ⟨ab, 0, none⟩)].toArray [cblk c x k, ⟨ab, [pv, .slice ra n rc, .slice none 0 0, .slice none 0 0], 30⟩] R
      (fun v L' R' => ∃ (fans : OwL XFan) (doors : OwL XDoor) (sf sd : OwL Int) (k' : Nat) (S : List Sl), v = .agg #[sf.val, sd.val] ∧ (fans.ok 4 XFan.cells ∧ doors.ok 3 XDoor.cells ∧ sf.ok 1 icell ∧ sd.ok 1 icell) ∧ FansD n 0 fans.l sf.l ∧ DoorsD n 0 doors.l sd.l ∧
        (∀ f ∈ fans.l, InR f.sl S) ∧ (∀ d ∈ doors.l, InR d.sl S) ∧ k' ≤ x.l.length ∧
        cblk c x k' :: ⟨ab, [pv, .slice ra n rc, fans.val, doors.val], 30⟩ :: (fans.L 44 XFan.cells ++ (doors.L 46 XDoor.cells ++ (sf.L 3 icell ++ (sd.L 3 icell ++ [])))) = L' ∧ S ++ R = R') := by
  refine tri_enter 88 Try.call32 Try.func32 rfl rfl rfl ?_
  refine CJ_seq (CJ_region ?_)
  refine LJ_alloc tb rfl rfl ?_
  intro b4
  refine LJ_nil (seqK_normal (CJ_seq (CJ_region ?_)))
  refine LJ_alloc tb rfl rfl ?_
  intro b5
  refine LJ_nil (seqK_normal (CJ_seq (CJ_region ?_)))
  refine LJ_q (yv_move (show _ = Value.pointer _ from rfl)) rfl ?_
  refine LJ_q (yv_nilCheck rfl) rfl ?_
  refine LJ_q (yv_field tb rfl rfl rfl) rfl ?_
  refine LJ_q (yv_field tb rfl rfl rfl) rfl ?_
  refine LJ_q (yv_load1 tb rfl rfl rfl (by repeat (first | exact zi0 | apply zi1 | apply zi2)) (by rfl)) rfl ?_
  refine LJ_q (yv_len tb rfl rfl rfl) rfl ?_
  refine LJ_q (yv_assign (show _ = Value.int _ _ from rfl)) rfl ?_
  refine LJ_nil (seqK_normal (CJ_seq (CJ_seq (CJ_region ?_))))
  refine LJ_q (yv_move (show _ = Value.pointer _ from rfl)) rfl ?_
  refine LJ_call rfl (next1 (by repeat (first | apply USeg.here | apply USeg.cons | apply USeg.app)) hx hk (by omega)) rfl ?_
  rintro v L' R' ⟨r1, k1, rfl, g1, g1', g1'', hk1, rfl, rfl⟩
  refine LJ_q (yv_assign (show _ = Value.int _ _ from rfl)) rfl ?_
  refine LJ_nil (seqK_normal (CJ_block ?_))
  refine CJ_forget [(0, Value.pointer _), (1, Value.pointer _), (4, Value.pointer _), (5, Value.pointer _), (6, Value.int _ _), (7, Value.int _ _)] (by repeat' (first | exact trivial | refine And.intro rfl ?_)) fun tq0 => ?_
  refine CJ_loop [7, 18, 19, 20, 21, 22, 23, 24, 25, 26, 27, 28, 29, 30, 31, 32, 33, 34, 35, 36, 37, 38, 39, 40, 41, 42, 43, 44, 45, 46, 47, 48, 49, 50, 51] ((⟨fun g => [(7, .int .i64 g.1.2.1)], fun g => ⟨b5, [g.1.2.2.2.1.val, .slice none 0 0], 33⟩ :: ⟨b4, [.slice none 0 0, .slice none 0 0], 33⟩ :: cblk c x g.1.1 :: ⟨ab, [pv, .slice ra n rc, g.1.2.2.1.val, .slice none 0 0], 30⟩ :: (g.1.2.2.1.L 44 XFan.cells ++ (g.1.2.2.2.1.L 3 icell ++ [])), fun g => g.1.2.2.2.2 ++ R, fun g => g.1.2.1.toNat⟩ : Head {g : Nat × Int × OwL XFan × OwL Int × List Sl // g.1 ≤ x.l.length ∧ (∃ m, g.2.1 ≤ m ∧ FansD n m g.2.2.1.l g.2.2.2.1.l) ∧ (g.2.2.1.ok 4 XFan.cells ∧ g.2.2.2.1.ok 1 icell) ∧ (∀ f ∈ g.2.2.1.l, InR f.sl g.2.2.2.2)})) (⟨(k1, r1, OwL.nil, OwL.nil, []), hk1, ⟨r1, Int.le_refl _, ⟨⟨g1, by have := g1' (by omega); simp only [List.length_nil]; omega⟩, rfl, (fun _ h => by cases h), (fun _ h => by cases h)⟩⟩, ⟨OwL.nil_ok, OwL.nil_ok⟩, (fun _ h => by cases h)⟩) (by repeat' (first | exact trivial | refine And.intro rfl ?_)) (by dsimp only; rw [nil_L, nil_L]; exact List.Sublist.refl _) (allR_self _) ?_
  rintro ⟨⟨kk, m, fans, sf, S⟩, hkk, ⟨m', hm', hD⟩, ⟨hokf, hoks⟩, hin⟩ junk
  try dsimp only
  dsimp only at hkk hm' hD hokf hoks hin
  refine CJ_seq (CJ_seq (CJ_region ?_))
  refine LJ_q (yv_move (show _ = Value.int _ _ from rfl)) rfl ?_
  refine LJ_q (yv_gtr rfl rfl) rfl ?_
  refine LJ_q (yv_move (show _ = Value.bool _ from rfl)) rfl ?_
  apply LJ_and (G := [_, _]) (j := 2) (cj := 20) rfl rfl (by rfl) rfl (show _ = Value.bool _ from rfl) rfl
  ·
   intro hg3
   try simp only [zb1, zb2, zb3, zb4, zb5, zb6, zb7, zb8] at hg3
   refine LJ_q (yv_move (show _ = Value.int _ _ from rfl)) rfl ?_
   refine LJ_q (yv_gtr rfl rfl) rfl ?_
   exact LJ_merge_end (show _ = Value.bool _ from rfl) (by repeat (first | exact Off.refl | apply Off.upd rfl | apply Off.havoc rfl | apply Off.updL rfl | apply Off.left rfl)) (by repeat (first | exact zs0 _ | exact zs1 _ | apply zs2 | apply zs3 | apply zs4 | apply zs5)) (by first | exact allR_self _ | exact fun r h => inR_self (by simp [h]))
  intro junk3
  refine LJ_nil (seqK_normal ?_)
  refine CJ_cond (show _ = Value.bool _ from rfl) (fun hc0 => ?_) (fun hc0 => ?_)
  ·
   try simp only [zb1, zb2, zb3, zb4, zb5, zb6, zb7, zb8] at hc0
   have hxs : CodesR x (S ++ R) := hx.mono fun r h => inR_self (by simp [h])
   have hml := hD.m
   have hll := hD.len
   refine CJ_skip (seqK_normal (CJ_seq (CJ_block (CJ_seq ?_))))
   refine CJ_drawn2 tb [26] [0, 1, 2, 3, 4, 5, 6, 8, 10, 12, 7, 9, 11, 13, 14, 15] [16, 17, 18, 19] ([Blk.mk ab _ _]) _ mixed (by kernel_rfl) (by repeat (first | exact zs0 _ | exact zs1 _ | apply zs2 | apply zs3 | apply zs4 | apply zs5)) (List.nil_sublist _) ?_
   refine DJ3_ql (yv_move (show _ = Value.pointer _ from rfl)) rfl rfl rfl rfl ?_
   refine DJ3_q (yv_move (show _ = Value.pointer _ from rfl)) rfl rfl rfl rfl ?_
   refine DJ3_q (yv_nilCheck rfl) rfl rfl rfl rfl ?_
   refine DJ3_q (yv_field tb rfl rfl rfl) rfl rfl rfl rfl ?_
   refine DJ3_q (yv_load1 tb rfl rfl rfl (by repeat (first | exact zi0 | apply zi1 | apply zi2)) (by rfl)) rfl rfl rfl rfl ?_
   refine DJ3_q (yv_move (show _ = Value.pointer _ from rfl)) rfl rfl rfl rfl ?_
   refine DJ3_q (yv_move (show _ = Value.int _ _ from rfl)) rfl rfl rfl rfl ?_
   refine DJ3_q (yv_move (show _ = Value.pointer _ from rfl)) rfl rfl rfl rfl ?_
   refine DJ3_q (yv_move (show _ = Value.pointer _ from rfl)) rfl rfl rfl rfl ?_
   refine DJ3_q (yv_move (show _ = Value.pointer _ from rfl)) rfl rfl rfl rfl ?_
   refine DJ3_call rfl (next1 (by repeat (first | apply USeg.here | apply USeg.cons | apply USeg.app)) hxs hkk (by omega)) rfl rfl ?_
   rintro v L' R' ⟨r2, k2, rfl, g2, g2', g2'', hk2, rfl, rfl⟩
   refine ⟨(by repeat (first | exact zs0 _ | exact zs1 _ | apply zs2 | apply zs3 | apply zs4 | apply zs5)), (by first | exact allR_self _ | exact (fun r h => inR_self (by simp [h]))), ?_⟩
   refine DJ3_call rfl (one1 (by repeat (first | apply USeg.here | apply USeg.cons | apply USeg.app)) hxs hk2 (by omega)) rfl rfl ?_
   rintro v L' R' ⟨r3, k3, rfl, hk3, rfl, rfl⟩
   refine ⟨(by repeat (first | exact zs0 _ | exact zs1 _ | apply zs2 | apply zs3 | apply zs4 | apply zs5)), (by first | exact allR_self _ | exact (fun r h => inR_self (by simp [h]))), ?_⟩
   refine DJ3_call rfl (one1 (by repeat (first | apply USeg.here | apply USeg.cons | apply USeg.app)) hxs hk3 (by omega)) rfl rfl ?_
   rintro v L' R' ⟨r4, k4, rfl, hk4, rfl, rfl⟩
   refine ⟨(by repeat (first | exact zs0 _ | exact zs1 _ | apply zs2 | apply zs3 | apply zs4 | apply zs5)), (by first | exact allR_self _ | exact (fun r h => inR_self (by simp [h]))), ?_⟩
   refine DJ3_call rfl (curve1 (by repeat (first | apply USeg.here | apply USeg.cons | apply USeg.app)) hxs hk4) rfl rfl ?_
   rintro v L' R' ⟨y, k5, rfl, hy, hk5, rfl, rfl⟩
   refine ⟨(by repeat (first | exact zs0 _ | exact zs1 _ | apply zs2 | apply zs3 | apply zs4 | apply zs5)), (by first | exact allR_self _ | exact (fun r h => inR_self (by simp [h]))), ?_⟩
   have hxs2 : CodesR x (ptsl y :: (S ++ R)) := hxs.mono fun r h => inR_self (by simp [h])
   refine DJ3_q (yv_build (qs := [(0, (Value.int _ _).cells.toList), (1, (Value.bool _).cells.toList), (2, (Value.bool _).cells.toList), (3, (Value.slice _ _ _).cells.toList)]) (out := [_, _, _, _]) tb rfl rfl rfl rfl) rfl rfl rfl rfl ?_
   refine DJ3_g (gives_buildSlice (qs := [(0, (Value.agg _).cells.toList)]) (out := [_, _, _, _]) tb rfl rfl rfl rfl rfl rfl rfl) rfl rfl rfl ?_
   rintro v L' R' ⟨b41, rfl, rfl, hR41⟩
   replace hR41 := hR41.symm; subst hR41
   refine ⟨(by repeat (first | exact zs0 _ | exact zs1 _ | apply zs2 | apply zs3 | apply zs4 | apply zs5)), allR_self _, ?_⟩
   refine DJ3_phase ?_
   refine DJ_g (gives_append1 (f := XFan.cells) (p := fans) (a := ⟨r2, r3, r4, y⟩) tb rfl rfl rfl rfl (hokf) (by repeat (first | apply OSeg.cons | exact OSeg.here | exact OSeg.last | exact OSeg.at (by assumption) | apply OSeg.app)) (shown_own (by repeat (first | exact zi0 | apply zi1 | apply zi2)) rfl rfl) rfl (by first | omega | (simp only [List.length_cons, List.length_nil, List.length_append]; omega))) rfl rfl rfl ?_
   rintro v L' R' ⟨o42, rfl, hok42, rfl, rfl⟩
   refine ⟨(by repeat (first | exact zs0 _ | exact zs1 _ | apply zs2 | apply zs3 | apply zs4 | apply zs5)), allR_self _, ?_⟩
   refine DJ_q (yv_nilCheck rfl) rfl rfl rfl ?_
   refine DJ_q (yv_field tb rfl rfl rfl) rfl rfl rfl ?_
   refine DJ_store1 (v := Value.slice _ _ _) rfl rfl rfl rfl (by repeat (first | apply zu0 | apply zu1 | apply zu2)) (by first | exact icell_fit (by omega) | rfl) (by first | exact icell_set | rfl) (by rfl) (by repeat (first | exact zs0 _ | exact zs1 _ | apply zs2 | apply zs3 | apply zs4 | apply zs5)) ?_
   refine DJ_nil (seqK_normal ?_)
   refine CJ_drawn2 tb [] [0, 1, 2, 3, 4] [5, 6, 7] ([Blk.mk b5 _ _]) _ mixed (by kernel_rfl) (by repeat (first | exact zs0 _ | exact zs1 _ | apply zs2 | apply zs3 | apply zs4 | apply zs5)) (List.nil_sublist _) ?_
   refine DJ3_q (yv_field tb rfl rfl rfl) rfl rfl rfl rfl ?_
   refine DJ3_q (yv_load1 tb rfl rfl rfl (by repeat (first | exact zi0 | apply zi1 | apply zi2)) (by rfl)) rfl rfl rfl rfl ?_
   refine DJ3_q (yv_move (show _ = Value.pointer _ from rfl)) rfl rfl rfl rfl ?_
   refine DJ3_call rfl (next1 (by repeat (first | apply USeg.here | apply USeg.cons | apply USeg.app)) hxs2 hk5 (by omega)) rfl rfl ?_
   rintro v L' R' ⟨r6, k6, rfl, g6, g6', g6'', hk6, rfl, rfl⟩
   refine ⟨(by repeat (first | exact zs0 _ | exact zs1 _ | apply zs2 | apply zs3 | apply zs4 | apply zs5)), (by first | exact allR_self _ | exact (fun r h => inR_self (by simp [h]))), ?_⟩
   refine DJ3_g (gives_buildSlice (qs := [(0, (Value.int _ _).cells.toList)]) (out := [_]) tb rfl rfl rfl rfl rfl rfl rfl) rfl rfl rfl ?_
   rintro v L' R' ⟨b49, rfl, rfl, hR49⟩
   replace hR49 := hR49.symm; subst hR49
   refine ⟨(by repeat (first | exact zs0 _ | exact zs1 _ | apply zs2 | apply zs3 | apply zs4 | apply zs5)), allR_self _, ?_⟩
   refine DJ3_phase ?_
   refine DJ_g (gives_append1 (f := icell) (p := sf) (a := r6) tb rfl rfl rfl rfl (hoks) (by repeat (first | apply OSeg.cons | exact OSeg.here | exact OSeg.last | exact OSeg.at (by assumption) | apply OSeg.app)) (shown_own (by repeat (first | exact zi0 | apply zi1 | apply zi2)) rfl rfl) rfl (by first | omega | (simp only [List.length_cons, List.length_nil, List.length_append]; omega))) rfl rfl rfl ?_
   rintro v L' R' ⟨o50, rfl, hok50, rfl, rfl⟩
   refine ⟨(by repeat (first | exact zs0 _ | exact zs1 _ | apply zs2 | apply zs3 | apply zs4 | apply zs5)), allR_self _, ?_⟩
   refine DJ_q (yv_field tb rfl rfl rfl) rfl rfl rfl ?_
   refine DJ_store1 (v := Value.slice _ _ _) rfl rfl rfl rfl (by repeat (first | apply zu0 | apply zu1 | apply zu2)) (by first | exact icell_fit (by omega) | rfl) (by first | exact icell_set | rfl) (by rfl) (by repeat (first | exact zs0 _ | exact zs1 _ | apply zs2 | apply zs3 | apply zs4 | apply zs5)) ?_
   refine DJ_nil (blockK_normal (seqK_normal (CJ_region ?_)))
   refine LJ_q (yv_move (show _ = Value.int _ _ from rfl)) rfl ?_
   refine LJ_q (by first | exact yv_sub64 rfl rfl (by omega) (by omega) | exact yv_sub rfl rfl) rfl ?_
   refine LJ_q (yv_assign (show _ = Value.int _ _ from rfl)) rfl ?_
   refine LJ_nil ?_
   have hq2 := g2' (by omega)
   have hq6 := g6' (by omega)
   exact loopK_mk ⟨(k6, m - 1, _, _, ptsl y :: S), hk6, ⟨m' - 1, by dsimp only; omega, hD.next (by omega) ⟨⟨g2, by dsimp only; omega⟩, hy⟩ ⟨g6, by omega⟩⟩, ⟨hok42, hok50⟩, (fun f hf => by rcases List.mem_append.1 hf with h | h; exact (hin f h).mono (fun r hr => inR_self (by simp [hr])); rw [List.mem_singleton.1 h]; exact inR_self (by simp))⟩ (by repeat (first | exact Off.refl | apply Off.upd rfl | apply Off.havoc rfl | apply Off.updL rfl | apply Off.left rfl)) (by repeat' (first | exact trivial | refine And.intro rfl ?_)) (by repeat (first | exact zs0 _ | exact zs1 _ | apply zs2 | apply zs3 | apply zs4 | apply zs5)) (allR_self _) (by dsimp only; omega)
  ·
   try simp only [zb1, zb2, zb3, zb4, zb5, zb6, zb7, zb8] at hc0
   refine CJ_exit (seqK_exit (loopK_exit (blockK_exit (seqK_normal (CJ_seq (CJ_seq ?_))))))
   have hx8 : CodesR x (S ++ R) := hx.mono fun r h => inR_self (by simp [h])
   refine CJ_region ?_
   refine LJ_q (yv_move (show _ = Value.pointer _ from rfl)) rfl ?_
   refine LJ_call rfl (next1 (by repeat (first | apply USeg.here | apply USeg.cons | apply USeg.app)) hx8 hkk (by omega)) rfl ?_
   rintro v L' R' ⟨r7, k7, rfl, g7, g7', g7'', hk7, rfl, rfl⟩
   refine LJ_q (yv_assign (show _ = Value.int _ _ from rfl)) rfl ?_
   refine LJ_nil (seqK_normal (CJ_block ?_))
   refine CJ_forget [(0, Value.pointer _), (1, Value.pointer _), (4, Value.pointer _), (5, Value.pointer _), (6, Value.int _ _), (8, Value.int _ _)] (by repeat' (first | exact trivial | refine And.intro rfl ?_)) fun tq1 => ?_
   refine CJ_loop [8, 9, 54, 55, 56, 57, 58, 59, 60, 61, 62, 63, 64, 65, 66, 67, 68, 69, 70, 71, 72, 73, 74, 75, 76, 77, 78, 79, 80, 81, 82, 83, 84, 85, 86] ((⟨fun g => [(8, .int .i64 g.1.2.1)], fun g => ⟨b5, [sf.val, g.1.2.2.2.1.val], 33⟩ :: ⟨b4, [.slice none 0 0, .slice none 0 0], 33⟩ :: cblk c x g.1.1 :: ⟨ab, [pv, .slice ra n rc, fans.val, g.1.2.2.1.val], 30⟩ :: (fans.L 44 XFan.cells ++ (g.1.2.2.1.L 46 XDoor.cells ++ (sf.L 3 icell ++ (g.1.2.2.2.1.L 3 icell ++ [])))), fun g => g.1.2.2.2.2 ++ (S ++ R), fun g => g.1.2.1.toNat⟩ : Head {g : Nat × Int × OwL XDoor × OwL Int × List Sl // g.1 ≤ x.l.length ∧ (∃ m, g.2.1 ≤ m ∧ DoorsD n m g.2.2.1.l g.2.2.2.1.l) ∧ (g.2.2.1.ok 3 XDoor.cells ∧ g.2.2.2.1.ok 1 icell) ∧ (∀ d ∈ g.2.2.1.l, InR d.sl g.2.2.2.2)})) (⟨(k7, r7, OwL.nil, OwL.nil, []), hk7, ⟨r7, Int.le_refl _, ⟨⟨g7, by have := g7' (by omega); simp only [List.length_nil]; omega⟩, rfl, (fun _ h => by cases h), (fun _ _ _ h => by cases h)⟩⟩, ⟨OwL.nil_ok, OwL.nil_ok⟩, (fun _ h => by cases h)⟩) (by repeat' (first | exact trivial | refine And.intro rfl ?_)) (by dsimp only; rw [nil_L, nil_L]; exact List.Sublist.refl _) (allR_self _) ?_
   rintro ⟨⟨kk2, m2, doors, sd, S2⟩, hkk2, ⟨m2', hm2', hD2⟩, ⟨hokd, hokt⟩, hin2⟩ junk
   try dsimp only
   dsimp only at hkk2 hm2' hD2 hokd hokt hin2
   refine CJ_seq (CJ_seq (CJ_region ?_))
   refine LJ_q (yv_move (show _ = Value.int _ _ from rfl)) rfl ?_
   refine LJ_q (yv_gtr rfl rfl) rfl ?_
   refine LJ_q (yv_move (show _ = Value.bool _ from rfl)) rfl ?_
   apply LJ_and (G := [_, _]) (j := 2) (cj := 56) rfl rfl (by rfl) rfl (show _ = Value.bool _ from rfl) rfl
   ·
    intro hg3
    try simp only [zb1, zb2, zb3, zb4, zb5, zb6, zb7, zb8] at hg3
    refine LJ_q (yv_move (show _ = Value.int _ _ from rfl)) rfl ?_
    refine LJ_q (yv_gtr rfl rfl) rfl ?_
    exact LJ_merge_end (show _ = Value.bool _ from rfl) (by repeat (first | exact Off.refl | apply Off.upd rfl | apply Off.havoc rfl | apply Off.updL rfl | apply Off.left rfl)) (by repeat (first | exact zs0 _ | exact zs1 _ | apply zs2 | apply zs3 | apply zs4 | apply zs5)) (by first | exact allR_self _ | exact fun r h => inR_self (by simp [h]))
   intro junk3
   refine LJ_nil (seqK_normal ?_)
   refine CJ_cond (show _ = Value.bool _ from rfl) (fun hc1 => ?_) (fun hc1 => ?_)
   ·
    try simp only [zb1, zb2, zb3, zb4, zb5, zb6, zb7, zb8] at hc1
    have hx2 : CodesR x (S2 ++ (S ++ R)) := hx8.mono fun r h => inR_self (by simp only [List.mem_append] at h ⊢; exact .inr h)
    have hml := hD2.m
    have hll := hD2.len
    refine CJ_skip (seqK_normal (CJ_seq (CJ_block (CJ_seq (CJ_region ?_)))))
    refine LJ_q (yv_move (show _ = Value.pointer _ from rfl)) rfl ?_
    refine LJ_q (yv_move (show _ = Value.pointer _ from rfl)) rfl ?_
    refine LJ_q (yv_move (show _ = Value.int _ _ from rfl)) rfl ?_
    refine LJ_call rfl (next1 (by repeat (first | apply USeg.here | apply USeg.cons | apply USeg.app)) hx2 hkk2 (by omega)) rfl ?_
    rintro v L' R' ⟨r8, k8, rfl, g8, g8', g8'', hk8, rfl, rfl⟩
    refine LJ_call rfl (door1 (by repeat (first | apply USeg.here | apply USeg.cons | apply USeg.app)) hx2 hk8) rfl ?_
    rintro v L' R' ⟨d, k9, rfl, hd, hk9, rfl, rfl⟩
    have hx3 : CodesR x (d.sl :: (S2 ++ (S ++ R))) := hx2.mono fun r h => inR_self (List.mem_cons_of_mem _ h)
    refine LJ_alloc tb rfl rfl ?_
    intro b9
    refine LJ_storeW tb rfl rfl rfl rfl (by repeat (first | apply zu0 | apply zu1 | apply zu2)) (by rfl) (by rfl) ?_
    refine LJ_nil (seqK_normal (CJ_seq ?_))
    refine CJ_drawn2 tb [67] [0, 1, 2, 3, 4, 5, 6] [7, 8, 9, 10] (_) _ mixed (by kernel_rfl) (by repeat (first | exact zs0 _ | exact zs1 _ | apply zs2 | apply zs3 | apply zs4 | apply zs5)) (List.nil_sublist _) ?_
    refine DJ3_ql (yv_move (show _ = Value.pointer _ from rfl)) rfl rfl rfl rfl ?_
    refine DJ3_q (yv_move (show _ = Value.pointer _ from rfl)) rfl rfl rfl rfl ?_
    refine DJ3_q (yv_nilCheck rfl) rfl rfl rfl rfl ?_
    refine DJ3_q (yv_field tb rfl rfl rfl) rfl rfl rfl rfl ?_
    refine DJ3_q (yv_load1 tb rfl rfl rfl (by repeat (first | exact zi0 | apply zi1 | apply zi2)) (by rfl)) rfl rfl rfl rfl ?_
    refine DJ3_q (yv_loadN (row := [_, _, _]) tb rfl rfl rfl (by repeat (first | exact zi0 | apply zi1 | apply zi2)) (by rfl) (by rfl)) rfl rfl rfl rfl ?_
    refine DJ3_g (gives_buildSlice (qs := [(0, (Value.agg _).cells.toList)]) (out := [_, _, _]) tb rfl rfl rfl rfl rfl rfl rfl) rfl rfl rfl ?_
    rintro v L' R' ⟨b73, rfl, rfl, hR73⟩
    replace hR73 := hR73.symm; subst hR73
    refine ⟨(by repeat (first | exact zs0 _ | exact zs1 _ | apply zs2 | apply zs3 | apply zs4 | apply zs5)), allR_self _, ?_⟩
    refine DJ3_phase ?_
    refine DJ_g (gives_append1 (f := XDoor.cells) (p := doors) (a := d) tb rfl rfl rfl rfl (hokd) (by repeat (first | apply OSeg.cons | exact OSeg.here | exact OSeg.last | exact OSeg.at (by assumption) | apply OSeg.app)) (shown_own (by repeat (first | exact zi0 | apply zi1 | apply zi2)) rfl rfl) rfl (by first | omega | (simp only [List.length_cons, List.length_nil, List.length_append]; omega))) rfl rfl rfl ?_
    rintro v L' R' ⟨o74, rfl, hok74, rfl, rfl⟩
    refine ⟨(by repeat (first | exact zs0 _ | exact zs1 _ | apply zs2 | apply zs3 | apply zs4 | apply zs5)), allR_self _, ?_⟩
    refine DJ_q (yv_nilCheck rfl) rfl rfl rfl ?_
    refine DJ_q (yv_field tb rfl rfl rfl) rfl rfl rfl ?_
    refine DJ_store1 (v := Value.slice _ _ _) rfl rfl rfl rfl (by repeat (first | apply zu0 | apply zu1 | apply zu2)) (by first | exact icell_fit (by omega) | rfl) (by first | exact icell_set | rfl) (by rfl) (by repeat (first | exact zs0 _ | exact zs1 _ | apply zs2 | apply zs3 | apply zs4 | apply zs5)) ?_
    refine DJ_nil (seqK_normal ?_)
    refine CJ_drawn2 tb [] [0, 1, 2, 3, 4, 5, 6, 7] [8, 9, 10] ([Blk.mk b9 _ _, Blk.mk b5 _ _]) _ mixed (by kernel_rfl) (by repeat (first | exact zs0 _ | exact zs1 _ | apply zs2 | apply zs3 | apply zs4 | apply zs5)) (List.nil_sublist _) ?_
    refine DJ3_q (yv_field tb rfl rfl rfl) rfl rfl rfl rfl ?_
    refine DJ3_q (yv_load1 tb rfl rfl rfl (by repeat (first | exact zi0 | apply zi1 | apply zi2)) (by rfl)) rfl rfl rfl rfl ?_
    refine DJ3_q (yv_move (show _ = Value.pointer _ from rfl)) rfl rfl rfl rfl ?_
    refine DJ3_q (yv_field tb rfl rfl rfl) rfl rfl rfl rfl ?_
    refine DJ3_q (yv_load1 tb rfl rfl rfl (by repeat (first | exact zi0 | apply zi1 | apply zi2)) (by rfl)) rfl rfl rfl rfl ?_
    refine DJ3_q (yv_len tb rfl rfl rfl) rfl rfl rfl rfl ?_
    refine DJ3_call rfl (next1 (by repeat (first | apply USeg.here | apply USeg.cons | apply USeg.app)) hx3 hk9 (by have := hd.len; omega)) rfl rfl ?_
    rintro v L' R' ⟨r10, k10, rfl, g10, g10', g10'', hk10, rfl, rfl⟩
    refine ⟨(by repeat (first | exact zs0 _ | exact zs1 _ | apply zs2 | apply zs3 | apply zs4 | apply zs5)), (by first | exact allR_self _ | exact (fun r h => inR_self (by simp [h]))), ?_⟩
    refine DJ3_g (gives_buildSlice (qs := [(0, (Value.int _ _).cells.toList)]) (out := [_]) tb rfl rfl rfl rfl rfl rfl rfl) rfl rfl rfl ?_
    rintro v L' R' ⟨b84, rfl, rfl, hR84⟩
    replace hR84 := hR84.symm; subst hR84
    refine ⟨(by repeat (first | exact zs0 _ | exact zs1 _ | apply zs2 | apply zs3 | apply zs4 | apply zs5)), allR_self _, ?_⟩
    refine DJ3_phase ?_
    refine DJ_g (gives_append1 (f := icell) (p := sd) (a := r10) tb rfl rfl rfl rfl (hokt) (by repeat (first | apply OSeg.cons | exact OSeg.here | exact OSeg.last | exact OSeg.at (by assumption) | apply OSeg.app)) (shown_own (by repeat (first | exact zi0 | apply zi1 | apply zi2)) rfl rfl) rfl (by first | omega | (simp only [List.length_cons, List.length_nil, List.length_append]; omega))) rfl rfl rfl ?_
    rintro v L' R' ⟨o85, rfl, hok85, rfl, rfl⟩
    refine ⟨(by repeat (first | exact zs0 _ | exact zs1 _ | apply zs2 | apply zs3 | apply zs4 | apply zs5)), allR_self _, ?_⟩
    refine DJ_q (yv_field tb rfl rfl rfl) rfl rfl rfl ?_
    refine DJ_store1 (v := Value.slice _ _ _) rfl rfl rfl rfl (by repeat (first | apply zu0 | apply zu1 | apply zu2)) (by first | exact icell_fit (by omega) | rfl) (by first | exact icell_set | rfl) (by rfl) (by repeat (first | exact zs0 _ | exact zs1 _ | apply zs2 | apply zs3 | apply zs4 | apply zs5)) ?_
    refine DJ_nil (blockK_normal (seqK_normal (CJ_region ?_)))
    refine LJ_q (yv_move (show _ = Value.int _ _ from rfl)) rfl ?_
    refine LJ_q (by first | exact yv_sub64 rfl rfl (by omega) (by omega) | exact yv_sub rfl rfl) rfl ?_
    refine LJ_q (yv_assign (show _ = Value.int _ _ from rfl)) rfl ?_
    refine LJ_nil ?_
    have hq8 := g8' (by omega)
    have hq10 := g10' (by have := hd.len; omega)
    have hdr := hd.road
    exact loopK_mk ⟨(k10, m2 - 1, _, _, d.sl :: S2), hk10, ⟨m2' - 1, by dsimp only; omega, hD2.next (by omega) ⟨⟨by omega, by omega⟩, by rw [hdr]; exact hd⟩ ⟨g10, by omega⟩⟩, ⟨hok74, hok85⟩, (fun f hf => by rcases List.mem_append.1 hf with h | h; exact (hin2 f h).mono (fun r hr => inR_self (by simp [hr])); rw [List.mem_singleton.1 h]; exact inR_self (by simp))⟩ (by repeat (first | exact Off.refl | apply Off.upd rfl | apply Off.havoc rfl | apply Off.updL rfl | apply Off.left rfl)) (by repeat' (first | exact trivial | refine And.intro rfl ?_)) (by repeat (first | exact zs0 _ | exact zs1 _ | apply zs2 | apply zs3 | apply zs4 | apply zs5)) (allR_self _) (by dsimp only; omega)
   ·
    try simp only [zb1, zb2, zb3, zb4, zb5, zb6, zb7, zb8] at hc1
    refine CJ_exit (seqK_exit (loopK_exit (blockK_exit (seqK_normal (CJ_seq (CJ_region ?_))))))
    refine LJ_q (yv_loadN (row := [_, _]) tb rfl rfl rfl (by repeat (first | exact zi0 | apply zi1 | apply zi2)) (by rfl) (by rfl)) rfl ?_
    refine LJ_storeW tb rfl rfl rfl rfl (by repeat (first | apply zu0 | apply zu1 | apply zu2)) (by rfl) (by rfl) ?_
    refine LJ_nil (seqK_normal (CJ_ret ?_))
    refine retK_ret (L' := cblk c x kk2 :: ⟨ab, [pv, .slice ra n rc, fans.val, doors.val], 30⟩ :: (fans.L 44 XFan.cells ++ (doors.L 46 XDoor.cells ++ (sf.L 3 icell ++ (sd.L 3 icell ++ []))))) (R' := (S2 ++ S) ++ R) (res1 rfl (rv_cell (row := [_, _]) tb rfl rfl rfl (by repeat (first | exact zi0 | apply zi1 | apply zi2)) (by rfl) (by rfl))) ?hp ?hL ?hR
    case hp => exact ⟨fans, doors, sf, sd, kk2, S2 ++ S, rfl, ⟨hokf, hokd, hoks, hokt⟩, hD.zero, hD2.zero, fun f hf => (hin f hf).mono (fun r hr => inR_self (by simp [hr])), fun d hd => (hin2 d hd).mono (fun r hr => inR_self (by simp [hr])), hkk2, rfl, rfl⟩
    case hL => exact (by repeat (first | exact zs0 _ | exact zs1 _ | apply zs2 | apply zs3 | apply zs4 | apply zs5))
    case hR => exact fun r hr => inR_self (by rw [List.append_assoc] at hr; exact hr)

/-- of the first n numbers some are not known any more -/
structure DoubtTo (l : List Int) (n : Nat) (m : List Int) : Prop where
  len : m.length = n
  val : ∀ (i : Nat) (v : Int), m[i]? = some v → v = -1 ∨ l[i]? = some v
abbrev Doubt (l m : List Int) : Prop := DoubtTo l l.length m
theorem DoubtTo.next {l m : List Int} {n : Nat} (h : DoubtTo l n m) {v : Int} (hv : v = -1 ∨ l[n]? = some v) : DoubtTo l (n + 1) (m ++ [v]) := by
  have hl := h.len
  refine ⟨by simp [hl], fun i w hw => ?_⟩
  rw [List.getElem?_append] at hw
  split at hw
  · exact h.val i w hw
  · rw [List.getElem?_singleton] at hw
    split at hw
    · cases hw
      have : i = n := by omega
      rw [this]; exact hv
    · cases hw

theorem doubts_tri (c : Nat) (x : Arr Int) (k : Nat) (a : XAir) (s : XSetting) (R : List Sl) (hx : CodesR x R) (hk : k ≤ x.l.length) (hs : SetR s R) (h1 : s.fans.l.length ≤ 100) (h2 : s.doors.l.length ≤ 100) :
    Tri Try.prog 34 [.pointer (some ⟨c, 0, none⟩), a.val, s.val].toArray [cblk c x k] R
      (fun v L' R' => ∃ (tf td : OwL Int) (k' : Nat), v = .agg #[tf.val, td.val] ∧ (tf.ok 1 icell ∧ td.ok 1 icell) ∧ Doubt s.fans.l tf.l ∧ Doubt s.doors.l td.l ∧ k' ≤ x.l.length ∧ cblk c x k' :: (tf.L 3 icell ++ (td.L 3 icell ++ [])) = L' ∧ R = R') := by
  have hsf := hs.fans
  have hsd := hs.doors
  refine tri_enter 53 Try.call34 Try.func34 rfl rfl rfl ?_
  refine CJ_seq (CJ_region ?_)
  refine LJ_boxN rfl rfl ?_
  intro b4
  refine LJ_boxN rfl rfl ?_
  intro b5
  refine LJ_alloc tb rfl rfl ?_
  intro b6
  refine LJ_nil (seqK_normal (CJ_seq (CJ_region ?_)))
  refine LJ_alloc tb rfl rfl ?_
  intro b7
  refine LJ_nil (seqK_normal (CJ_seq (CJ_seq (CJ_region ?_))))
  refine LJ_q (yv_assign (show _ = Value.int _ _ from rfl)) rfl ?_
  refine LJ_nil (seqK_normal (CJ_block ?_))
  refine CJ_forget [(0, Value.pointer _), (5, Value.pointer _), (6, Value.pointer _), (7, Value.pointer _), (8, Value.int _ _)] (by repeat' (first | exact trivial | refine And.intro rfl ?_)) fun tq0 => ?_
  refine CJ_loop [8, 9, 12, 13, 14, 15, 16, 17, 18, 19, 20, 21, 22, 23, 24, 25, 26, 27, 28, 29, 30, 31] ((⟨fun g => [(8, .int .i64 ((g.1.2.1 : Nat) : Int))], fun g => ⟨b7, [g.1.2.2.val, .slice none 0 0], 33⟩ :: ⟨b6, [.slice none 0 0, .slice none 0 0], 33⟩ :: ⟨b5, s.cells, 33⟩ :: ⟨b4, a.cells, 30⟩ :: cblk c x g.1.1 :: (g.1.2.2.L 3 icell ++ []), fun _ => R, fun g => s.fans.l.length - g.1.2.1⟩ : Head {g : Nat × Nat × OwL Int // g.1 ≤ x.l.length ∧ g.2.1 ≤ s.fans.l.length ∧ g.2.2.ok 1 icell ∧ DoubtTo s.fans.l g.2.1 g.2.2.l})) (⟨(k, 0, OwL.nil), hk, Nat.zero_le _, OwL.nil_ok, ⟨rfl, (fun _ _ h => by cases h)⟩⟩) (by repeat' (first | exact trivial | refine And.intro rfl ?_)) (by dsimp only; rw [nil_L]; exact List.Sublist.refl _) (allR_self _) ?_
  rintro ⟨⟨kk, i, tf⟩, hkk, hi, hok, hD⟩ junk
  try dsimp only
  dsimp only at hkk hi hok hD
  refine CJ_seq (CJ_seq (CJ_region ?_))
  refine LJ_q (yv_move (show _ = Value.int _ _ from rfl)) rfl ?_
  refine LJ_q (yv_field tb rfl rfl rfl) rfl ?_
  refine LJ_q (yv_load1 tb rfl rfl rfl (by repeat (first | exact zi0 | apply zi1 | apply zi2)) (by rfl)) rfl ?_
  refine LJ_q (yv_len tb rfl rfl rfl) rfl ?_
  refine LJ_q (yv_lss rfl rfl) rfl ?_
  refine LJ_nil (seqK_normal ?_)
  refine CJ_cond (show _ = Value.bool _ from rfl) (fun hc0 => ?_) (fun hc0 => ?_)
  ·
   try simp only [zb1, zb2, zb3, zb4, zb5, zb6, zb7, zb8] at hc0
   have hsi := get_D (l := s.fans.l) (k := i) 0 (by omega)
   have hll := hD.len
   refine CJ_skip (seqK_normal (CJ_seq (CJ_block (CJ_seq (CJ_region ?_)))))
   refine LJ_q (yv_field tb rfl rfl rfl) rfl ?_
   refine LJ_q (yv_load1 tb rfl rfl rfl (by repeat (first | exact zi0 | apply zi1 | apply zi2)) (by rfl)) rfl ?_
   refine LJ_q (yv_move (show _ = Value.int _ _ from rfl)) rfl ?_
   refine LJ_q (by first | exact yv_index_ro tb rfl rfl rfl rfl (by first | assumption | exact zr (by simp)) rfl (by omega) | exact yv_index tb rfl rfl rfl rfl rfl (by omega)) rfl ?_
   refine LJ_q (by first | exact yv_load1_ro tb rfl rfl rfl (by first | assumption | exact zr (by simp)) (by assumption) (by rfl) | exact yv_load1 tb rfl rfl rfl (by repeat (first | exact zi0 | apply zi1 | apply zi2)) (by rfl) | exact yv_load1 tb rfl rfl rfl (by repeat (first | exact zi0 | apply zi1 | apply zi2)) (icell_get (by assumption)) | exact yv_load1 tb rfl rfl rfl (by repeat (first | exact zi0 | apply zi1 | apply zi2)) (rcell_get (fun _ => rfl) (by assumption) rfl)) rfl ?_
   refine LJ_q (yv_assign (show _ = Value.int _ _ from rfl)) rfl ?_
   refine LJ_nil (seqK_normal (CJ_seq (CJ_seq (CJ_region ?_))))
   refine LJ_q (yv_move (show _ = Value.pointer _ from rfl)) rfl ?_
   refine LJ_call rfl (one1 (by repeat (first | apply USeg.here | apply USeg.cons | apply USeg.app)) hx hkk (by omega)) rfl ?_
   rintro v L' R' ⟨r1, k1, rfl, hk1, rfl, rfl⟩
   refine LJ_nil (seqK_normal ?_)
   refine CJ_cond (show _ = Value.bool _ from rfl) (fun hc1 => ?_) (fun hc1 => ?_)
   ·
    try simp only [zb1, zb2, zb3, zb4, zb5, zb6, zb7, zb8] at hc1
    refine CJ_region ?_
    refine LJ_q (yv_assign (show _ = Value.int _ _ from rfl)) rfl ?_
    refine LJ_nil (seqK_normal (CJ_region ?_))
    refine LJ_q (yv_field tb rfl rfl rfl) rfl ?_
    refine LJ_q (yv_load1 tb rfl rfl rfl (by repeat (first | exact zi0 | apply zi1 | apply zi2)) (by rfl)) rfl ?_
    refine LJ_q (yv_move (show _ = Value.int _ _ from rfl)) rfl ?_
    refine LJ_g (gives_buildSlice (qs := [(0, (Value.int _ _).cells.toList)]) (out := [_]) tb rfl rfl rfl rfl rfl rfl rfl) rfl ?_
    rintro v L' R' ⟨b29, rfl, rfl, hR29⟩
    replace hR29 := hR29.symm; subst hR29
    refine LJ_g (gives_append1 (f := icell) (p := tf) (a := _) tb rfl rfl rfl rfl (hok) (by repeat (first | apply OSeg.cons | exact OSeg.here | exact OSeg.last | exact OSeg.at (by assumption) | apply OSeg.app)) (shown_own (by repeat (first | exact zi0 | apply zi1 | apply zi2)) rfl rfl) rfl (by first | omega | (simp only [List.length_cons, List.length_nil, List.length_append]; omega))) rfl ?_
    rintro v L' R' ⟨o30, rfl, hok30, rfl, rfl⟩
    refine LJ_q (yv_field tb rfl rfl rfl) rfl ?_
    refine LJ_store1 (v := Value.slice _ _ _) tb rfl rfl rfl rfl (by repeat (first | apply zu0 | apply zu1 | apply zu2)) (by first | exact icell_fit (by omega) | rfl) (by first | exact icell_set | rfl) (by rfl) ?_
    refine LJ_nil (blockK_normal (seqK_normal (CJ_region ?_)))
    refine LJ_q (yv_move (show _ = Value.int _ _ from rfl)) rfl ?_
    refine LJ_q (by first | exact yv_add64 rfl rfl (by omega) (by omega) | exact yv_addU rfl rfl (by omega) (by omega) | exact yv_add rfl rfl) rfl ?_
    refine LJ_q (yv_assign (show _ = Value.int _ _ from rfl)) rfl ?_
    refine LJ_nil ?_
    first | exact loopK_mk ⟨(k1, i + 1, _), hk1, by dsimp only; omega, hok30, hD.next (.inl rfl)⟩ (by repeat (first | exact Off.refl | apply Off.upd rfl | apply Off.havoc rfl | apply Off.updL rfl | apply Off.left rfl)) (by repeat' (first | exact trivial | refine And.intro rfl ?_)) (by repeat (first | exact zs0 _ | exact zs1 _ | apply zs2 | apply zs3 | apply zs4 | apply zs5)) (allR_self _) (by dsimp only; omega) | exact loopK_mk ⟨(k1, i + 1, _), hk1, by dsimp only; omega, hok30, hD.next (.inr hsi)⟩ (by repeat (first | exact Off.refl | apply Off.upd rfl | apply Off.havoc rfl | apply Off.updL rfl | apply Off.left rfl)) (by repeat' (first | exact trivial | refine And.intro rfl ?_)) (by repeat (first | exact zs0 _ | exact zs1 _ | apply zs2 | apply zs3 | apply zs4 | apply zs5)) (allR_self _) (by dsimp only; omega)
   ·
    try simp only [zb1, zb2, zb3, zb4, zb5, zb6, zb7, zb8] at hc1
    refine CJ_skip (seqK_normal (CJ_region ?_))
    refine LJ_q (yv_field tb rfl rfl rfl) rfl ?_
    refine LJ_q (yv_load1 tb rfl rfl rfl (by repeat (first | exact zi0 | apply zi1 | apply zi2)) (by rfl)) rfl ?_
    refine LJ_q (yv_move (show _ = Value.int _ _ from rfl)) rfl ?_
    refine LJ_g (gives_buildSlice (qs := [(0, (Value.int _ _).cells.toList)]) (out := [_]) tb rfl rfl rfl rfl rfl rfl rfl) rfl ?_
    rintro v L' R' ⟨b29, rfl, rfl, hR29⟩
    replace hR29 := hR29.symm; subst hR29
    refine LJ_g (gives_append1 (f := icell) (p := tf) (a := _) tb rfl rfl rfl rfl (hok) (by repeat (first | apply OSeg.cons | exact OSeg.here | exact OSeg.last | exact OSeg.at (by assumption) | apply OSeg.app)) (shown_own (by repeat (first | exact zi0 | apply zi1 | apply zi2)) rfl rfl) rfl (by first | omega | (simp only [List.length_cons, List.length_nil, List.length_append]; omega))) rfl ?_
    rintro v L' R' ⟨o30, rfl, hok30, rfl, rfl⟩
    refine LJ_q (yv_field tb rfl rfl rfl) rfl ?_
    refine LJ_store1 (v := Value.slice _ _ _) tb rfl rfl rfl rfl (by repeat (first | apply zu0 | apply zu1 | apply zu2)) (by first | exact icell_fit (by omega) | rfl) (by first | exact icell_set | rfl) (by rfl) ?_
    refine LJ_nil (blockK_normal (seqK_normal (CJ_region ?_)))
    refine LJ_q (yv_move (show _ = Value.int _ _ from rfl)) rfl ?_
    refine LJ_q (by first | exact yv_add64 rfl rfl (by omega) (by omega) | exact yv_addU rfl rfl (by omega) (by omega) | exact yv_add rfl rfl) rfl ?_
    refine LJ_q (yv_assign (show _ = Value.int _ _ from rfl)) rfl ?_
    refine LJ_nil ?_
    first | exact loopK_mk ⟨(k1, i + 1, _), hk1, by dsimp only; omega, hok30, hD.next (.inl rfl)⟩ (by repeat (first | exact Off.refl | apply Off.upd rfl | apply Off.havoc rfl | apply Off.updL rfl | apply Off.left rfl)) (by repeat' (first | exact trivial | refine And.intro rfl ?_)) (by repeat (first | exact zs0 _ | exact zs1 _ | apply zs2 | apply zs3 | apply zs4 | apply zs5)) (allR_self _) (by dsimp only; omega) | exact loopK_mk ⟨(k1, i + 1, _), hk1, by dsimp only; omega, hok30, hD.next (.inr hsi)⟩ (by repeat (first | exact Off.refl | apply Off.upd rfl | apply Off.havoc rfl | apply Off.updL rfl | apply Off.left rfl)) (by repeat' (first | exact trivial | refine And.intro rfl ?_)) (by repeat (first | exact zs0 _ | exact zs1 _ | apply zs2 | apply zs3 | apply zs4 | apply zs5)) (allR_self _) (by dsimp only; omega)
  ·
   try simp only [zb1, zb2, zb3, zb4, zb5, zb6, zb7, zb8] at hc0
   obtain rfl : i = s.fans.l.length := by omega
   refine CJ_exit (seqK_exit (loopK_exit (blockK_exit (seqK_normal (CJ_seq (CJ_seq (CJ_region ?_)))))))
   refine LJ_q (yv_assign (show _ = Value.int _ _ from rfl)) rfl ?_
   refine LJ_nil (seqK_normal (CJ_block ?_))
   refine CJ_forget [(0, Value.pointer _), (5, Value.pointer _), (6, Value.pointer _), (7, Value.pointer _), (10, Value.int _ _)] (by repeat' (first | exact trivial | refine And.intro rfl ?_)) fun tq1 => ?_
   refine CJ_loop [10, 11, 32, 33, 34, 35, 36, 37, 38, 39, 40, 41, 42, 43, 44, 45, 46, 47, 48, 49, 50, 51] ((⟨fun g => [(10, .int .i64 ((g.1.2.1 : Nat) : Int))], fun g => ⟨b7, [tf.val, g.1.2.2.val], 33⟩ :: ⟨b6, [.slice none 0 0, .slice none 0 0], 33⟩ :: ⟨b5, s.cells, 33⟩ :: ⟨b4, a.cells, 30⟩ :: cblk c x g.1.1 :: (tf.L 3 icell ++ (g.1.2.2.L 3 icell ++ [])), fun _ => R, fun g => s.doors.l.length - g.1.2.1⟩ : Head {g : Nat × Nat × OwL Int // g.1 ≤ x.l.length ∧ g.2.1 ≤ s.doors.l.length ∧ g.2.2.ok 1 icell ∧ DoubtTo s.doors.l g.2.1 g.2.2.l})) (⟨(kk, 0, OwL.nil), hkk, Nat.zero_le _, OwL.nil_ok, ⟨rfl, (fun _ _ h => by cases h)⟩⟩) (by repeat' (first | exact trivial | refine And.intro rfl ?_)) (by dsimp only; rw [nil_L]; exact List.Sublist.refl _) (allR_self _) ?_
   rintro ⟨⟨kk2, j, td⟩, hkk2, hj, hok2, hD2⟩ junk
   try dsimp only
   dsimp only at hkk2 hj hok2 hD2
   refine CJ_seq (CJ_seq (CJ_region ?_))
   refine LJ_q (yv_move (show _ = Value.int _ _ from rfl)) rfl ?_
   refine LJ_q (yv_field tb rfl rfl rfl) rfl ?_
   refine LJ_q (yv_load1 tb rfl rfl rfl (by repeat (first | exact zi0 | apply zi1 | apply zi2)) (by rfl)) rfl ?_
   refine LJ_q (yv_len tb rfl rfl rfl) rfl ?_
   refine LJ_q (yv_lss rfl rfl) rfl ?_
   refine LJ_nil (seqK_normal ?_)
   refine CJ_cond (show _ = Value.bool _ from rfl) (fun hc2 => ?_) (fun hc2 => ?_)
   ·
    try simp only [zb1, zb2, zb3, zb4, zb5, zb6, zb7, zb8] at hc2
    have hsj := get_D (l := s.doors.l) (k := j) 0 (by omega)
    have hll := hD2.len
    refine CJ_skip (seqK_normal (CJ_seq (CJ_block (CJ_seq (CJ_region ?_)))))
    refine LJ_q (yv_field tb rfl rfl rfl) rfl ?_
    refine LJ_q (yv_load1 tb rfl rfl rfl (by repeat (first | exact zi0 | apply zi1 | apply zi2)) (by rfl)) rfl ?_
    refine LJ_q (yv_move (show _ = Value.int _ _ from rfl)) rfl ?_
    refine LJ_q (by first | exact yv_index_ro tb rfl rfl rfl rfl (by first | assumption | exact zr (by simp)) rfl (by omega) | exact yv_index tb rfl rfl rfl rfl rfl (by omega)) rfl ?_
    refine LJ_q (by first | exact yv_load1_ro tb rfl rfl rfl (by first | assumption | exact zr (by simp)) (by assumption) (by rfl) | exact yv_load1 tb rfl rfl rfl (by repeat (first | exact zi0 | apply zi1 | apply zi2)) (by rfl) | exact yv_load1 tb rfl rfl rfl (by repeat (first | exact zi0 | apply zi1 | apply zi2)) (icell_get (by assumption)) | exact yv_load1 tb rfl rfl rfl (by repeat (first | exact zi0 | apply zi1 | apply zi2)) (rcell_get (fun _ => rfl) (by assumption) rfl)) rfl ?_
    refine LJ_q (yv_assign (show _ = Value.int _ _ from rfl)) rfl ?_
    refine LJ_nil (seqK_normal (CJ_seq (CJ_seq (CJ_region ?_))))
    refine LJ_q (yv_move (show _ = Value.pointer _ from rfl)) rfl ?_
    refine LJ_call rfl (one1 (by repeat (first | apply USeg.here | apply USeg.cons | apply USeg.app)) hx hkk2 (by omega)) rfl ?_
    rintro v L' R' ⟨r2, k2, rfl, hk2, rfl, rfl⟩
    refine LJ_nil (seqK_normal ?_)
    refine CJ_cond (show _ = Value.bool _ from rfl) (fun hc3 => ?_) (fun hc3 => ?_)
    ·
     try simp only [zb1, zb2, zb3, zb4, zb5, zb6, zb7, zb8] at hc3
     refine CJ_region ?_
     refine LJ_q (yv_assign (show _ = Value.int _ _ from rfl)) rfl ?_
     refine LJ_nil (seqK_normal (CJ_region ?_))
     refine LJ_q (yv_field tb rfl rfl rfl) rfl ?_
     refine LJ_q (yv_load1 tb rfl rfl rfl (by repeat (first | exact zi0 | apply zi1 | apply zi2)) (by rfl)) rfl ?_
     refine LJ_q (yv_move (show _ = Value.int _ _ from rfl)) rfl ?_
     refine LJ_g (gives_buildSlice (qs := [(0, (Value.int _ _).cells.toList)]) (out := [_]) tb rfl rfl rfl rfl rfl rfl rfl) rfl ?_
     rintro v L' R' ⟨b49, rfl, rfl, hR49⟩
     replace hR49 := hR49.symm; subst hR49
     refine LJ_g (gives_append1 (f := icell) (p := td) (a := _) tb rfl rfl rfl rfl (hok2) (by repeat (first | apply OSeg.cons | exact OSeg.here | exact OSeg.last | exact OSeg.at (by assumption) | apply OSeg.app)) (shown_own (by repeat (first | exact zi0 | apply zi1 | apply zi2)) rfl rfl) rfl (by first | omega | (simp only [List.length_cons, List.length_nil, List.length_append]; omega))) rfl ?_
     rintro v L' R' ⟨o50, rfl, hok50, rfl, rfl⟩
     refine LJ_q (yv_field tb rfl rfl rfl) rfl ?_
     refine LJ_store1 (v := Value.slice _ _ _) tb rfl rfl rfl rfl (by repeat (first | apply zu0 | apply zu1 | apply zu2)) (by first | exact icell_fit (by omega) | rfl) (by first | exact icell_set | rfl) (by rfl) ?_
     refine LJ_nil (blockK_normal (seqK_normal (CJ_region ?_)))
     refine LJ_q (yv_move (show _ = Value.int _ _ from rfl)) rfl ?_
     refine LJ_q (by first | exact yv_add64 rfl rfl (by omega) (by omega) | exact yv_addU rfl rfl (by omega) (by omega) | exact yv_add rfl rfl) rfl ?_
     refine LJ_q (yv_assign (show _ = Value.int _ _ from rfl)) rfl ?_
     refine LJ_nil ?_
     first | exact loopK_mk ⟨(k2, j + 1, _), hk2, by dsimp only; omega, hok50, hD2.next (.inl rfl)⟩ (by repeat (first | exact Off.refl | apply Off.upd rfl | apply Off.havoc rfl | apply Off.updL rfl | apply Off.left rfl)) (by repeat' (first | exact trivial | refine And.intro rfl ?_)) (by repeat (first | exact zs0 _ | exact zs1 _ | apply zs2 | apply zs3 | apply zs4 | apply zs5)) (allR_self _) (by dsimp only; omega) | exact loopK_mk ⟨(k2, j + 1, _), hk2, by dsimp only; omega, hok50, hD2.next (.inr hsj)⟩ (by repeat (first | exact Off.refl | apply Off.upd rfl | apply Off.havoc rfl | apply Off.updL rfl | apply Off.left rfl)) (by repeat' (first | exact trivial | refine And.intro rfl ?_)) (by repeat (first | exact zs0 _ | exact zs1 _ | apply zs2 | apply zs3 | apply zs4 | apply zs5)) (allR_self _) (by dsimp only; omega)
    ·
     try simp only [zb1, zb2, zb3, zb4, zb5, zb6, zb7, zb8] at hc3
     refine CJ_skip (seqK_normal (CJ_region ?_))
     refine LJ_q (yv_field tb rfl rfl rfl) rfl ?_
     refine LJ_q (yv_load1 tb rfl rfl rfl (by repeat (first | exact zi0 | apply zi1 | apply zi2)) (by rfl)) rfl ?_
     refine LJ_q (yv_move (show _ = Value.int _ _ from rfl)) rfl ?_
     refine LJ_g (gives_buildSlice (qs := [(0, (Value.int _ _).cells.toList)]) (out := [_]) tb rfl rfl rfl rfl rfl rfl rfl) rfl ?_
     rintro v L' R' ⟨b49, rfl, rfl, hR49⟩
     replace hR49 := hR49.symm; subst hR49
     refine LJ_g (gives_append1 (f := icell) (p := td) (a := _) tb rfl rfl rfl rfl (hok2) (by repeat (first | apply OSeg.cons | exact OSeg.here | exact OSeg.last | exact OSeg.at (by assumption) | apply OSeg.app)) (shown_own (by repeat (first | exact zi0 | apply zi1 | apply zi2)) rfl rfl) rfl (by first | omega | (simp only [List.length_cons, List.length_nil, List.length_append]; omega))) rfl ?_
     rintro v L' R' ⟨o50, rfl, hok50, rfl, rfl⟩
     refine LJ_q (yv_field tb rfl rfl rfl) rfl ?_
     refine LJ_store1 (v := Value.slice _ _ _) tb rfl rfl rfl rfl (by repeat (first | apply zu0 | apply zu1 | apply zu2)) (by first | exact icell_fit (by omega) | rfl) (by first | exact icell_set | rfl) (by rfl) ?_
     refine LJ_nil (blockK_normal (seqK_normal (CJ_region ?_)))
     refine LJ_q (yv_move (show _ = Value.int _ _ from rfl)) rfl ?_
     refine LJ_q (by first | exact yv_add64 rfl rfl (by omega) (by omega) | exact yv_addU rfl rfl (by omega) (by omega) | exact yv_add rfl rfl) rfl ?_
     refine LJ_q (yv_assign (show _ = Value.int _ _ from rfl)) rfl ?_
     refine LJ_nil ?_
     first | exact loopK_mk ⟨(k2, j + 1, _), hk2, by dsimp only; omega, hok50, hD2.next (.inl rfl)⟩ (by repeat (first | exact Off.refl | apply Off.upd rfl | apply Off.havoc rfl | apply Off.updL rfl | apply Off.left rfl)) (by repeat' (first | exact trivial | refine And.intro rfl ?_)) (by repeat (first | exact zs0 _ | exact zs1 _ | apply zs2 | apply zs3 | apply zs4 | apply zs5)) (allR_self _) (by dsimp only; omega) | exact loopK_mk ⟨(k2, j + 1, _), hk2, by dsimp only; omega, hok50, hD2.next (.inr hsj)⟩ (by repeat (first | exact Off.refl | apply Off.upd rfl | apply Off.havoc rfl | apply Off.updL rfl | apply Off.left rfl)) (by repeat' (first | exact trivial | refine And.intro rfl ?_)) (by repeat (first | exact zs0 _ | exact zs1 _ | apply zs2 | apply zs3 | apply zs4 | apply zs5)) (allR_self _) (by dsimp only; omega)
   ·
    try simp only [zb1, zb2, zb3, zb4, zb5, zb6, zb7, zb8] at hc2
    obtain rfl : j = s.doors.l.length := by omega
    refine CJ_exit (seqK_exit (loopK_exit (blockK_exit (seqK_normal (CJ_seq (CJ_region ?_))))))
    refine LJ_q (yv_loadN (row := [_, _]) tb rfl rfl rfl (by repeat (first | exact zi0 | apply zi1 | apply zi2)) (by rfl) (by rfl)) rfl ?_
    refine LJ_storeW tb rfl rfl rfl rfl (by repeat (first | apply zu0 | apply zu1 | apply zu2)) (by rfl) (by rfl) ?_
    refine LJ_nil (seqK_normal (CJ_ret ?_))
    refine retK_ret (L' := cblk c x kk2 :: (tf.L 3 icell ++ (td.L 3 icell ++ []))) (R' := R) (res1 rfl (rv_cell (row := [_, _]) tb rfl rfl rfl (by repeat (first | exact zi0 | apply zi1 | apply zi2)) (by rfl) (by rfl))) ?hp ?hL ?hR
    case hp => exact ⟨tf, td, kk2, rfl, ⟨hok, hok2⟩, hD, hD2, hkk2, rfl, rfl⟩
    case hL => exact (by repeat (first | exact zs0 _ | exact zs1 _ | apply zs2 | apply zs3 | apply zs4 | apply zs5))
    case hR => exact allR_self _

structure AnySet (a : XAir) (n m : Nat) (tf td : List Int) : Prop where
  lf : tf.length = n
  ld : td.length = m
  fan : ∀ (i : Nat) (v : Int), tf[i]? = some v → -1 ≤ v ∧ v ≤ 2
  door : ∀ (i : Nat) (v : Int) (d : XDoor), td[i]? = some v → a.doors.l[i]? = some d → -1 ≤ v ∧ v < d.rests.l.length
theorem AnySet.nextF {a : XAir} {n m : Nat} {tf td : List Int} (h : AnySet a n m tf td) {v : Int} (hv : -1 ≤ v ∧ v ≤ 2) : AnySet a (n + 1) m (tf ++ [v]) td := by
  have hl := h.lf
  refine ⟨by simp [hl], h.ld, fun i w hw => ?_, h.door⟩
  rw [List.getElem?_append] at hw
  split at hw
  · exact h.fan i w hw
  · rw [List.getElem?_singleton] at hw
    split at hw
    · cases hw; exact hv
    · cases hw
theorem AnySet.nextD {a : XAir} {n m : Nat} {tf td : List Int} (h : AnySet a n m tf td) {d : XDoor} (hd : a.doors.l[m]? = some d) {v : Int} (hv : -1 ≤ v ∧ v < d.rests.l.length) : AnySet a n (m + 1) tf (td ++ [v]) := by
  have hl := h.ld
  refine ⟨h.lf, by simp [hl], h.fan, fun i w e hw he => ?_⟩
  rw [List.getElem?_append] at hw
  split at hw
  · exact h.door i w e hw he
  · rw [List.getElem?_singleton] at hw
    split at hw
    · cases hw
      have : i = m := by omega
      rw [this, hd] at he
      cases he; exact hv
    · cases hw

theorem setting_tri (c : Nat) (x : Arr Int) (k : Nat) (a : XAir) (R : List Sl) (hx : CodesR x R) (hk : k ≤ x.l.length) (hd : InR (dsl a.doors) R) (h1 : a.fans.l.length ≤ 100) (h2 : a.doors.l.length ≤ 100) (h3 : ∀ (i : Nat) (d : XDoor), a.doors.l[i]? = some d → d.rests.l.length ≤ 100) :
    Tri Try.prog 21 [.pointer (some ⟨c, 0, none⟩), a.val].toArray [cblk c x k] R
      (fun v L' R' => ∃ (tf td : OwL Int) (k' : Nat), v = .agg #[tf.val, td.val] ∧ (tf.ok 1 icell ∧ td.ok 1 icell) ∧ AnySet a a.fans.l.length a.doors.l.length tf.l td.l ∧ k' ≤ x.l.length ∧ cblk c x k' :: (tf.L 3 icell ++ (td.L 3 icell ++ [])) = L' ∧ R = R') := by
  refine tri_enter 47 Try.call21 Try.func21 rfl rfl rfl ?_
  refine CJ_seq (CJ_region ?_)
  refine LJ_boxN rfl rfl ?_
  intro b3
  refine LJ_alloc tb rfl rfl ?_
  intro b4
  refine LJ_nil (seqK_normal (CJ_seq (CJ_region ?_)))
  refine LJ_alloc tb rfl rfl ?_
  intro b5
  refine LJ_nil (seqK_normal (CJ_seq (CJ_seq (CJ_region ?_))))
  refine LJ_q (yv_assign (show _ = Value.int _ _ from rfl)) rfl ?_
  refine LJ_nil (seqK_normal (CJ_block ?_))
  refine CJ_forget [(0, Value.pointer _), (3, Value.pointer _), (4, Value.pointer _), (5, Value.pointer _), (6, Value.int _ _)] (by repeat' (first | exact trivial | refine And.intro rfl ?_)) fun tq0 => ?_
  refine CJ_loop [6, 8, 9, 10, 11, 12, 13, 14, 15, 16, 17, 18, 19, 20, 21, 22] ((⟨fun g => [(6, .int .i64 ((g.1.2.1 : Nat) : Int))], fun g => ⟨b5, [g.1.2.2.val, .slice none 0 0], 33⟩ :: ⟨b4, [.slice none 0 0, .slice none 0 0], 33⟩ :: ⟨b3, a.cells, 30⟩ :: cblk c x g.1.1 :: (g.1.2.2.L 3 icell ++ []), fun _ => R, fun g => a.fans.l.length - g.1.2.1⟩ : Head {g : Nat × Nat × OwL Int // g.1 ≤ x.l.length ∧ g.2.1 ≤ a.fans.l.length ∧ g.2.2.ok 1 icell ∧ AnySet a g.2.1 0 g.2.2.l []})) (⟨(k, 0, OwL.nil), hk, Nat.zero_le _, OwL.nil_ok, ⟨rfl, rfl, (fun _ _ h => by cases h), (fun _ _ _ h => by cases h)⟩⟩) (by repeat' (first | exact trivial | refine And.intro rfl ?_)) (by dsimp only; rw [nil_L]; exact List.Sublist.refl _) (allR_self _) ?_
  rintro ⟨⟨kk, i, tf⟩, hkk, hi, hok, hD⟩ junk
  try dsimp only
  dsimp only at hkk hi hok hD
  refine CJ_seq (CJ_seq (CJ_region ?_))
  refine LJ_q (yv_move (show _ = Value.int _ _ from rfl)) rfl ?_
  refine LJ_q (yv_field tb rfl rfl rfl) rfl ?_
  refine LJ_q (yv_load1 tb rfl rfl rfl (by repeat (first | exact zi0 | apply zi1 | apply zi2)) (by rfl)) rfl ?_
  refine LJ_q (yv_len tb rfl rfl rfl) rfl ?_
  refine LJ_q (yv_lss rfl rfl) rfl ?_
  refine LJ_nil (seqK_normal ?_)
  refine CJ_cond (show _ = Value.bool _ from rfl) (fun hc0 => ?_) (fun hc0 => ?_)
  ·
   try simp only [zb1, zb2, zb3, zb4, zb5, zb6, zb7, zb8] at hc0
   have hll := hD.lf
   refine CJ_skip (seqK_normal (CJ_seq (CJ_block ?_)))
   refine CJ_drawn2 tb [] [0, 1, 2, 3, 4, 5] [6, 7, 8] ([Blk.mk b5 _ _]) _ mixed (by kernel_rfl) (by repeat (first | exact zs0 _ | exact zs1 _ | apply zs2 | apply zs3 | apply zs4 | apply zs5)) (List.nil_sublist _) ?_
   refine DJ3_q (yv_field tb rfl rfl rfl) rfl rfl rfl rfl ?_
   refine DJ3_q (yv_load1 tb rfl rfl rfl (by repeat (first | exact zi0 | apply zi1 | apply zi2)) (by rfl)) rfl rfl rfl rfl ?_
   refine DJ3_q (yv_move (show _ = Value.pointer _ from rfl)) rfl rfl rfl rfl ?_
   refine DJ3_call rfl (next1 (by repeat (first | apply USeg.here | apply USeg.cons | apply USeg.app)) hx hkk (by omega)) rfl rfl ?_
   rintro v L' R' ⟨r1, k1, rfl, g1, g1', g1'', hk1, rfl, rfl⟩
   refine ⟨(by repeat (first | exact zs0 _ | exact zs1 _ | apply zs2 | apply zs3 | apply zs4 | apply zs5)), (by first | exact allR_self _ | exact (fun r h => inR_self (by simp [h]))), ?_⟩
   refine DJ3_q (by first | exact yv_sub64 rfl rfl (by omega) (by omega) | exact yv_sub rfl rfl) rfl rfl rfl rfl ?_
   refine DJ3_g (gives_buildSlice (qs := [(0, (Value.int _ _).cells.toList)]) (out := [_]) tb rfl rfl rfl rfl rfl rfl rfl) rfl rfl rfl ?_
   rintro v L' R' ⟨b20, rfl, rfl, hR20⟩
   replace hR20 := hR20.symm; subst hR20
   refine ⟨(by repeat (first | exact zs0 _ | exact zs1 _ | apply zs2 | apply zs3 | apply zs4 | apply zs5)), allR_self _, ?_⟩
   refine DJ3_phase ?_
   refine DJ_g (gives_append1 (f := icell) (p := tf) (a := r1 - 1) tb rfl rfl rfl rfl (hok) (by repeat (first | apply OSeg.cons | exact OSeg.here | exact OSeg.last | exact OSeg.at (by assumption) | apply OSeg.app)) (shown_own (by repeat (first | exact zi0 | apply zi1 | apply zi2)) rfl rfl) rfl (by first | omega | (simp only [List.length_cons, List.length_nil, List.length_append]; omega))) rfl rfl rfl ?_
   rintro v L' R' ⟨o21, rfl, hok21, rfl, rfl⟩
   refine ⟨(by repeat (first | exact zs0 _ | exact zs1 _ | apply zs2 | apply zs3 | apply zs4 | apply zs5)), allR_self _, ?_⟩
   refine DJ_q (yv_field tb rfl rfl rfl) rfl rfl rfl ?_
   refine DJ_store1 (v := Value.slice _ _ _) rfl rfl rfl rfl (by repeat (first | apply zu0 | apply zu1 | apply zu2)) (by first | exact icell_fit (by omega) | rfl) (by first | exact icell_set | rfl) (by rfl) (by repeat (first | exact zs0 _ | exact zs1 _ | apply zs2 | apply zs3 | apply zs4 | apply zs5)) ?_
   refine DJ_nil (blockK_normal (seqK_normal (CJ_region ?_)))
   refine LJ_q (yv_move (show _ = Value.int _ _ from rfl)) rfl ?_
   refine LJ_q (by first | exact yv_add64 rfl rfl (by omega) (by omega) | exact yv_addU rfl rfl (by omega) (by omega) | exact yv_add rfl rfl) rfl ?_
   refine LJ_q (yv_assign (show _ = Value.int _ _ from rfl)) rfl ?_
   refine LJ_nil ?_
   have g1q := g1' (by omega)
   exact loopK_mk ⟨(k1, i + 1, _), hk1, by dsimp only; omega, hok21, hD.nextF (by omega)⟩ (by repeat (first | exact Off.refl | apply Off.upd rfl | apply Off.havoc rfl | apply Off.updL rfl | apply Off.left rfl)) (by repeat' (first | exact trivial | refine And.intro rfl ?_)) (by repeat (first | exact zs0 _ | exact zs1 _ | apply zs2 | apply zs3 | apply zs4 | apply zs5)) (allR_self _) (by dsimp only; omega)
  ·
   try simp only [zb1, zb2, zb3, zb4, zb5, zb6, zb7, zb8] at hc0
   obtain rfl : i = a.fans.l.length := by omega
   refine CJ_exit (seqK_exit (loopK_exit (blockK_exit (seqK_normal (CJ_seq (CJ_seq (CJ_region ?_)))))))
   refine LJ_q (yv_assign (show _ = Value.int _ _ from rfl)) rfl ?_
   refine LJ_nil (seqK_normal (CJ_block ?_))
   refine CJ_forget [(0, Value.pointer _), (3, Value.pointer _), (4, Value.pointer _), (5, Value.pointer _), (7, Value.int _ _)] (by repeat' (first | exact trivial | refine And.intro rfl ?_)) fun tq1 => ?_
   refine CJ_loop [7, 23, 24, 25, 26, 27, 28, 29, 30, 31, 32, 33, 34, 35, 36, 37, 38, 39, 40, 41, 42, 43, 44, 45] ((⟨fun g => [(7, .int .i64 ((g.1.2.1 : Nat) : Int))], fun g => ⟨b5, [tf.val, g.1.2.2.val], 33⟩ :: ⟨b4, [.slice none 0 0, .slice none 0 0], 33⟩ :: ⟨b3, a.cells, 30⟩ :: cblk c x g.1.1 :: (tf.L 3 icell ++ (g.1.2.2.L 3 icell ++ [])), fun _ => R, fun g => a.doors.l.length - g.1.2.1⟩ : Head {g : Nat × Nat × OwL Int // g.1 ≤ x.l.length ∧ g.2.1 ≤ a.doors.l.length ∧ g.2.2.ok 1 icell ∧ AnySet a a.fans.l.length g.2.1 tf.l g.2.2.l})) (⟨(kk, 0, OwL.nil), hkk, Nat.zero_le _, OwL.nil_ok, hD⟩) (by repeat' (first | exact trivial | refine And.intro rfl ?_)) (by dsimp only; rw [nil_L]; exact List.Sublist.refl _) (allR_self _) ?_
   rintro ⟨⟨kk2, j, td⟩, hkk2, hj, hok2, hD2⟩ junk
   try dsimp only
   dsimp only at hkk2 hj hok2 hD2
   refine CJ_seq (CJ_seq (CJ_region ?_))
   refine LJ_q (yv_move (show _ = Value.int _ _ from rfl)) rfl ?_
   refine LJ_q (yv_field tb rfl rfl rfl) rfl ?_
   refine LJ_q (yv_load1 tb rfl rfl rfl (by repeat (first | exact zi0 | apply zi1 | apply zi2)) (by rfl)) rfl ?_
   refine LJ_q (yv_len tb rfl rfl rfl) rfl ?_
   refine LJ_q (yv_lss rfl rfl) rfl ?_
   refine LJ_nil (seqK_normal ?_)
   refine CJ_cond (show _ = Value.bool _ from rfl) (fun hc1 => ?_) (fun hc1 => ?_)
   ·
    try simp only [zb1, zb2, zb3, zb4, zb5, zb6, zb7, zb8] at hc1
    obtain ⟨d, hdj⟩ := get_some (l := a.doors.l) (k := j) (by omega)
    have hll := hD2.ld
    have h3j := h3 _ _ hdj
    refine CJ_skip (seqK_normal (CJ_seq (CJ_block ?_)))
    refine CJ_drawn2 tb [] [0, 1, 2, 3, 4, 5, 6, 7, 8, 9, 10, 11, 12, 13] [14, 15, 16] ([Blk.mk b5 _ _, Blk.mk b3 _ _]) _ mixed (by kernel_rfl) (by repeat (first | exact zs0 _ | exact zs1 _ | apply zs2 | apply zs3 | apply zs4 | apply zs5)) (List.nil_sublist _) ?_
    refine DJ3_q (yv_field tb rfl rfl rfl) rfl rfl rfl rfl ?_
    refine DJ3_q (yv_load1 tb rfl rfl rfl (by repeat (first | exact zi0 | apply zi1 | apply zi2)) (by rfl)) rfl rfl rfl rfl ?_
    refine DJ3_q (yv_move (show _ = Value.pointer _ from rfl)) rfl rfl rfl rfl ?_
    refine DJ3_q (yv_field tb rfl rfl rfl) rfl rfl rfl rfl ?_
    refine DJ3_q (yv_load1 tb rfl rfl rfl (by repeat (first | exact zi0 | apply zi1 | apply zi2)) (by rfl)) rfl rfl rfl rfl ?_
    refine DJ3_q (yv_move (show _ = Value.int _ _ from rfl)) rfl rfl rfl rfl ?_
    refine DJ3_q (by first | exact yv_index_ro tb rfl rfl rfl rfl (by first | assumption | exact zr (by simp)) rfl (by omega) | exact yv_index tb rfl rfl rfl rfl rfl (by omega)) rfl rfl rfl rfl ?_
    refine DJ3_q (yv_field_eo tb rfl rfl rfl) rfl rfl rfl rfl ?_
    refine DJ3_q (by first | exact yv_load1_ro tb rfl rfl rfl (by first | assumption | exact zr (by simp)) (by assumption) (by rfl) | exact yv_load1 tb rfl rfl rfl (by repeat (first | exact zi0 | apply zi1 | apply zi2)) (by rfl) | exact yv_load1 tb rfl rfl rfl (by repeat (first | exact zi0 | apply zi1 | apply zi2)) (icell_get (by assumption)) | exact yv_load1 tb rfl rfl rfl (by repeat (first | exact zi0 | apply zi1 | apply zi2)) (rcell_get (fun _ => rfl) (by assumption) rfl)) rfl rfl rfl rfl ?_
    refine DJ3_q (yv_len tb rfl rfl rfl) rfl rfl rfl rfl ?_
    refine DJ3_q (by first | exact yv_add64 rfl rfl (by omega) (by omega) | exact yv_addU rfl rfl (by omega) (by omega) | exact yv_add rfl rfl) rfl rfl rfl rfl ?_
    refine DJ3_call rfl (next1 (by repeat (first | apply USeg.here | apply USeg.cons | apply USeg.app)) hx hkk2 (by omega)) rfl rfl ?_
    rintro v L' R' ⟨r2, k2, rfl, g2, g2', g2'', hk2, rfl, rfl⟩
    refine ⟨(by repeat (first | exact zs0 _ | exact zs1 _ | apply zs2 | apply zs3 | apply zs4 | apply zs5)), (by first | exact allR_self _ | exact (fun r h => inR_self (by simp [h]))), ?_⟩
    refine DJ3_q (by first | exact yv_sub64 rfl rfl (by omega) (by omega) | exact yv_sub rfl rfl) rfl rfl rfl rfl ?_
    refine DJ3_g (gives_buildSlice (qs := [(0, (Value.int _ _).cells.toList)]) (out := [_]) tb rfl rfl rfl rfl rfl rfl rfl) rfl rfl rfl ?_
    rintro v L' R' ⟨b43, rfl, rfl, hR43⟩
    replace hR43 := hR43.symm; subst hR43
    refine ⟨(by repeat (first | exact zs0 _ | exact zs1 _ | apply zs2 | apply zs3 | apply zs4 | apply zs5)), allR_self _, ?_⟩
    refine DJ3_phase ?_
    refine DJ_g (gives_append1 (f := icell) (p := td) (a := r2 - 1) tb rfl rfl rfl rfl (hok2) (by repeat (first | apply OSeg.cons | exact OSeg.here | exact OSeg.last | exact OSeg.at (by assumption) | apply OSeg.app)) (shown_own (by repeat (first | exact zi0 | apply zi1 | apply zi2)) rfl rfl) rfl (by first | omega | (simp only [List.length_cons, List.length_nil, List.length_append]; omega))) rfl rfl rfl ?_
    rintro v L' R' ⟨o44, rfl, hok44, rfl, rfl⟩
    refine ⟨(by repeat (first | exact zs0 _ | exact zs1 _ | apply zs2 | apply zs3 | apply zs4 | apply zs5)), allR_self _, ?_⟩
    refine DJ_q (yv_field tb rfl rfl rfl) rfl rfl rfl ?_
    refine DJ_store1 (v := Value.slice _ _ _) rfl rfl rfl rfl (by repeat (first | apply zu0 | apply zu1 | apply zu2)) (by first | exact icell_fit (by omega) | rfl) (by first | exact icell_set | rfl) (by rfl) (by repeat (first | exact zs0 _ | exact zs1 _ | apply zs2 | apply zs3 | apply zs4 | apply zs5)) ?_
    refine DJ_nil (blockK_normal (seqK_normal (CJ_region ?_)))
    refine LJ_q (yv_move (show _ = Value.int _ _ from rfl)) rfl ?_
    refine LJ_q (by first | exact yv_add64 rfl rfl (by omega) (by omega) | exact yv_addU rfl rfl (by omega) (by omega) | exact yv_add rfl rfl) rfl ?_
    refine LJ_q (yv_assign (show _ = Value.int _ _ from rfl)) rfl ?_
    refine LJ_nil ?_
    have g2q := g2' (by omega)
    exact loopK_mk ⟨(k2, j + 1, _), hk2, by dsimp only; omega, hok44, hD2.nextD hdj (by omega)⟩ (by repeat (first | exact Off.refl | apply Off.upd rfl | apply Off.havoc rfl | apply Off.updL rfl | apply Off.left rfl)) (by repeat' (first | exact trivial | refine And.intro rfl ?_)) (by repeat (first | exact zs0 _ | exact zs1 _ | apply zs2 | apply zs3 | apply zs4 | apply zs5)) (allR_self _) (by dsimp only; omega)
   ·
    try simp only [zb1, zb2, zb3, zb4, zb5, zb6, zb7, zb8] at hc1
    obtain rfl : j = a.doors.l.length := by omega
    refine CJ_exit (seqK_exit (loopK_exit (blockK_exit (seqK_normal (CJ_seq (CJ_region ?_))))))
    refine LJ_q (yv_loadN (row := [_, _]) tb rfl rfl rfl (by repeat (first | exact zi0 | apply zi1 | apply zi2)) (by rfl) (by rfl)) rfl ?_
    refine LJ_storeW tb rfl rfl rfl rfl (by repeat (first | apply zu0 | apply zu1 | apply zu2)) (by rfl) (by rfl) ?_
    refine LJ_nil (seqK_normal (CJ_ret ?_))
    refine retK_ret (L' := cblk c x kk2 :: (tf.L 3 icell ++ (td.L 3 icell ++ []))) (R' := R) (res1 rfl (rv_cell (row := [_, _]) tb rfl rfl rfl (by repeat (first | exact zi0 | apply zi1 | apply zi2)) (by rfl) (by rfl))) ?hp ?hL ?hR
    case hp => exact ⟨tf, td, kk2, rfl, ⟨hok, hok2⟩, hD2, hkk2, rfl, rfl⟩
    case hL => exact (by repeat (first | exact zs0 _ | exact zs1 _ | apply zs2 | apply zs3 | apply zs4 | apply zs5))
    case hR => exact allR_self _
end Go.Proofs.Ytimnnhdeicpenaa
