import Derived.Test.YtkpfjmibipblhaaDrawR
import Derived.Test.YtkpfjmibipblhaaFed
import Derived.Test.YtkpfjmibipblhaaCutA
section
/-
  The draws of chapter 20: truths, thresholds, conditions, sensors at another place. By an AI agent; no person has read it.
-/
set_option linter.unusedSimpArgs false
set_option linter.unusedVariables false
namespace Go.Proofs.Ytkpfjmibipblhaa
open Go.Aw Go
set_option maxRecDepth 20000
attribute [local irreducible] CJ LJ DJ Tri YV Gives seqK blockK loopK retK RV mergeK OwL.L
section
variable {A9 B9 : Prop}
theorem ybvaa (a : A9) (h : A9 → B9 := by exact LJ_call rfl (range1 (by repeat (first | apply USeg.here | apply USeg.cons | apply USeg.app)) hx hk (by omega)) rfl) : B9 := h a
theorem ybvab (a : A9) (h : A9 → B9 := by exact LJ_q (yv_loadN (row := [_, _, _, _, _, _]) tb rfl rfl rfl (by repeat (first | exact zi0 | apply zi1 | apply zi2)) (by rfl) (by rfl)) rfl) : B9 := h a
end
theorem truth1 {c : Nat} {x : Arr Int} {k : Nat} {L : List Blk} {F : List Value → List Blk} {R : List Sl} (hu : USeg c (ccells x k) 122 L F) (hx : CodesR x R) (hk : k ≤ x.l.length) :
    Tri Try.prog 112 [.pointer (some ⟨c, 0, none⟩)].toArray L R
      (fun v L' R' => ∃ (r : Int) (k' : Nat), v = .int .i64 r ∧ (-1 ≤ r ∧ r ≤ 1) ∧ k' ≤ x.l.length ∧ F (ccells x k') = L' ∧ R = R') := by
  refine tri_enter 6 Try.call112 Try.func112 rfl rfl rfl ?_
  refine qae ?_
  refine qad ?_
  refine qam ?_
  refine qa6 ?_
  refine LJ_call rfl (next1 hu hx hk (by omega)) rfl ?_
  rintro v L' R' ⟨r1, k1, rfl, g1, g1', g1'', hk1, rfl, rfl⟩
  have g1q := g1' (by omega)
  refine qa9 ?_
  refine qad ?_
  refine qa0 ?_
  refine q_i (L' := F (ccells x k1)) (R' := R) ?_
  exact ⟨r1 - 1, k1, rfl, by omega, hk1, rfl, rfl⟩
structure LevD (l : XLevel) : Prop where
  cut : 1 ≤ l.cut ∧ l.cut ≤ 120
  clear : 0 ≤ l.clear ∧ l.clear < l.cut
  delay : 0 ≤ l.delay ∧ l.delay ≤ 11
theorem LevD.ok {l : XLevel} (h : LevD l) : LevelOk l := by
  have h1 := h.cut
  have h2 := h.clear
  have h3 := h.delay
  rw [LevelOk]; omega
theorem drawLevel_tri (c : Nat) (x : Arr Int) (k : Nat) (R : List Sl) (hx : CodesR x R) (hk : k ≤ x.l.length) :
    Tri Try.prog 89 [.pointer (some ⟨c, 0, none⟩)].toArray [cblk c x k] R
      (fun v L' R' => ∃ (l : XLevel) (k' : Nat), v = l.val ∧ LevD l ∧ k' ≤ x.l.length ∧ cblk c x k' :: [] = L' ∧ R = R') := by
  refine tri_enter 15 Try.call89 Try.func89 rfl rfl rfl ?_
  refine qae ?_
  refine qaq ?_
  intro b2
  refine qam ?_
  refine qa6 ?_
  refine ybvaa ?_
  rintro v L' R' ⟨r1, k1, rfl, g1, g1', hk1, rfl, rfl⟩
  refine qa6 ?_
  refine LJ_call rfl (next1 (by repeat (first | apply USeg.here | apply USeg.cons | apply USeg.app)) hx hk1 (by omega)) rfl ?_
  rintro v L' R' ⟨r2, k2, rfl, g2, g2', g2'', hk2, rfl, rfl⟩
  have g2q := g2' (by omega)
  refine LJ_q (yv_build (qs := [(0, (Value.int _ _).cells.toList), (2, (Value.int _ _).cells.toList)]) (out := [_, _, _]) tb rfl rfl rfl rfl) rfl ?_
  refine qaq ?_
  intro b3
  refine qak ?_
  refine qam ?_
  refine qa6 ?_
  refine qab ?_
  refine qac ?_
  refine LJ_call rfl (next1 (by repeat (first | apply USeg.here | apply USeg.cons | apply USeg.app)) hx hk2 (by omega)) rfl ?_
  rintro v L' R' ⟨r3, k3, rfl, g3, g3', g3'', hk3, rfl, rfl⟩
  have g3q := g3' (by omega)
  refine qab ?_
  refine qcn ?_
  refine qam ?_
  refine LJ_q (yv_loadN (row := [_, _, _]) tb rfl rfl rfl (by repeat (first | exact zi0 | apply zi1 | apply zi2)) (by rfl) (by rfl)) rfl ?_
  refine qak ?_
  refine qa0 ?_
  refine q_r (L' := [cblk c x k3]) (R' := R) (res1 rfl (rv_cell (row := [_, _, _]) tb rfl rfl rfl (by repeat (first | exact zi0 | apply zi1 | apply zi2)) (by rfl) (by rfl))) ?_
  exact ⟨⟨r1, r3, r2⟩, k3, rfl, ⟨by dsimp only; omega, by dsimp only; omega, by dsimp only; omega⟩, hk3, rfl, rfl⟩
theorem level1 {c : Nat} {x : Arr Int} {k : Nat} {L : List Blk} {F : List Value → List Blk} {R : List Sl} (hu : USeg c (ccells x k) 122 L F) (hx : CodesR x R) (hk : k ≤ x.l.length) :
    Tri Try.prog 89 [.pointer (some ⟨c, 0, none⟩)].toArray L R
      (fun v L' R' => ∃ (l : XLevel) (k' : Nat), v = l.val ∧ LevD l ∧ k' ≤ x.l.length ∧ F (ccells x k') = L' ∧ R = R') :=
  (Tri.at1 (Post' := fun v cs' R' => ∃ (l : XLevel) (k' : Nat), v = l.val ∧ LevD l ∧ k' ≤ x.l.length ∧ cs' = ccells x k' ∧ R = R') hu (drawLevel_tri c x k R hx hk)
    (fun v L' R' ⟨y, k', h1, h2, h5, h6, h7⟩ => ⟨_, h6, y, k', h1, h2, h5, rfl, h7⟩)).mono
    (fun v L' R' ⟨cs', h0, y, k', h1, h2, h5, h6, h7⟩ => ⟨y, k', h1, h2, h5, by rw [← h6]; exact h0, h7⟩)
theorem sensor1 {c : Nat} {x : Arr Int} {k : Nat} {kind address target : Int} {L : List Blk} {F : List Value → List Blk} {R : List Sl} (hu : USeg c (ccells x k) 122 L F) (hx : CodesR x R) (hk : k ≤ x.l.length) :
    Tri Try.prog 49 [.pointer (some ⟨c, 0, none⟩), .int .i64 kind, .int .i64 address, .int .i64 target].toArray L R
      (fun v L' R' => ∃ (s : XSens) (k' : Nat), v = s.val ∧ SensD kind address target s ∧ k' ≤ x.l.length ∧ F (ccells x k') = L' ∧ R = R') :=
  (Tri.at1 (Post' := fun v cs' R' => ∃ (s : XSens) (k' : Nat), v = s.val ∧ SensD kind address target s ∧ k' ≤ x.l.length ∧ cs' = ccells x k' ∧ R = R') hu (drawSensor_tri c x k kind address target R hx hk)
    (fun v L' R' ⟨y, k', h1, h2, h5, h6, h7⟩ => ⟨_, h6, y, k', h1, h2, h5, rfl, h7⟩)).mono
    (fun v L' R' ⟨cs', h0, y, k', h1, h2, h5, h6, h7⟩ => ⟨y, k', h1, h2, h5, by rw [← h6]; exact h0, h7⟩)
structure CondD (S : List XSens) (n : Nat) (c : XCond) : Prop where
  err : condErr S n c = 0
  value : 0 ≤ c.value ∧ c.value ≤ 60
  level : LevD c.level
theorem condD_of {S : List XSens} {n : Nat} {c : XCond} (hk : c.kind = 1 ∨ c.kind = 2 ∨ c.kind = 4 ∨ c.kind = 5) (hv : 0 ≤ c.value ∧ c.value ≤ 60) (hl : LevD c.level) (ht : 0 ≤ c.target ∧ c.target < if c.kind = 5 then (n : Int) else S.length) : CondD S n c := by
  refine ⟨?_, hv, hl⟩
  have hb : condBase S n c = 0 := by
    rw [condBase]
    rcases hk with h | h | h | h
    · rw [if_neg (by omega)] at ht; rw [if_pos (by omega), if_pos (by omega)]
    · rw [if_neg (by omega)] at ht; rw [if_pos (by omega), if_pos (by omega)]
    · rw [if_neg (by omega)] at ht; rw [if_pos (by omega), if_pos (by omega)]
    · rw [if_pos h] at ht; rw [if_neg (by omega), if_neg (by omega), if_pos h, if_pos (by omega)]
  rw [condErr, if_neg (by omega), if_neg (by omega), levelErr, if_pos hl.ok]
  split <;> rfl
theorem condD_fan {S : List XSens} {n : Nat} {c : XCond} {i : Nat} (hk : c.kind = 3) (hv : 0 ≤ c.value ∧ c.value ≤ 60) (hl : LevD c.level) (ht : c.target = (i : Int)) (hi : i < S.length) (hs : (S.getD i default).kind = 5) : CondD S n c := by
  refine ⟨?_, hv, hl⟩
  have hb : condBase S n c = 0 := by
    rw [condBase, if_neg (by omega), if_pos hk, if_pos]
    refine ⟨by omega, ?_⟩
    rw [ht, Int.toNat_natCast]; exact hs
  rw [condErr, if_neg (by omega), if_neg (by omega), if_neg (by omega)]
theorem drawCond_tri (c : Nat) (x : Arr Int) (k : Nat) (s : XSite) (R : List Sl) (hx : CodesR x R) (hk : k ≤ x.l.length) (hs : InR (sesl s.sensors) R) (hn : 1 ≤ s.sensors.l.length ∧ s.sensors.l.length ≤ 1000) (hr : 1 ≤ s.air.mine.roads.l.length ∧ s.air.mine.roads.l.length ≤ 1000) :
    Tri Try.prog 50 [.pointer (some ⟨c, 0, none⟩), s.val].toArray [cblk c x k] R
      (fun v L' R' => ∃ (z : XCond) (k' : Nat), v = z.val ∧ CondD s.sensors.l s.air.mine.roads.l.length z ∧ k' ≤ x.l.length ∧ cblk c x k' :: [] = L' ∧ R = R') := by
  refine tri_enter 54 Try.call50 Try.func50 rfl rfl rfl ?_
  refine qae ?_
  refine qax ?_
  intro b3
  refine qaq ?_
  intro b4
  refine qam ?_
  refine qa6 ?_
  refine ybvaa ?_
  rintro v L' R' ⟨r1, k1, rfl, g1, g1', hk1, rfl, rfl⟩
  refine qa6 ?_
  refine LJ_call rfl (range1 (by repeat (first | apply USeg.here | apply USeg.cons | apply USeg.app)) hx hk1 (by omega)) rfl ?_
  rintro v L' R' ⟨r2, k2, rfl, g2, g2', hk2, rfl, rfl⟩
  refine qa6 ?_
  refine LJ_call rfl (level1 (by repeat (first | apply USeg.here | apply USeg.cons | apply USeg.app)) hx hk2) rfl ?_
  rintro v L' R' ⟨l, k3, rfl, hl, hk3, rfl, rfl⟩
  refine LJ_q (yv_build (qs := [(0, (Value.int _ _).cells.toList), (2, (Value.int _ _).cells.toList), (3, (Value.agg _).cells.toList)]) (out := [_, _, _, _, _, _]) tb rfl rfl rfl rfl) rfl ?_
  refine qaq ?_
  intro b5
  refine qak ?_
  refine qaw ?_
  refine qab ?_
  refine qac ?_
  refine qbn ?_
  refine qaf ?_
  refine CJ_joinS [6, 18, 19, 20, 21, 22, 23, 24, 25, 26, 27, 28, 29, 30, 31, 32, 33, 34, 35] ((⟨fun _ => [], fun g => ⟨b5, XCond.cells ⟨g.1, 0, r2, l⟩, 133⟩ :: ⟨b4, [.int .i64 0, .int .i64 0, .int .i64 0, .int .i64 0, .int .i64 0, .int .i64 0], 133⟩ :: ⟨b3, s.cells, 36⟩ :: cblk c x k3 :: [], fun _ => R, fun _ => 0⟩ : Head {g : Int // g = 1 ∨ g = 2 ∨ g = 4 ∨ g = 5})) ?_ ?_
  ·
   skip
   refine q_c (fun hc0 => ?_) (fun hc0 => ?_)
   ·
    refine qbi ?_
    refine qad ?_
    refine qa2 ?_
    refine CJ_forgetW [6, 18, 19, 20, 21, 22, 23, 24, 25, 26, 27, 28, 29, 30, 31, 32, 33, 34, 35] (by repeat (first | apply Off.upd rfl | apply Off.havoc rfl | refine Off.updL (t' := havoc _ _ _) rfl ?_ | exact Off.refl)) [(6, Value.int _ _)] (by repeat' (first | exact trivial | refine And.intro rfl ?_)) fun tq0 => ?_
    refine q_s [6, 18, 19, 20, 21, 22, 23, 24, 25, 26, 27, 28, 29, 30, 31, 32, 33, 34] (fun g : {j : Nat // j ≤ s.sensors.l.length} => [(6, .int .i64 ((g.1 : Nat) : Int))]) (fun g => s.sensors.l.length - g.1) (⟨0, by omega⟩) ?_
    rintro ⟨j, hj⟩ junk
    try dsimp only
    refine qbi ?_
    refine qaa ?_
    refine qab ?_
    refine qac ?_
    refine qag ?_
    refine qaj ?_
    refine qaf ?_
    refine q_c (fun hc1 => ?_) (fun hc1 => ?_)
    ·
     have hsg := get_D (l := s.sensors.l) (k := j) default (by omega)
     refine qbb ?_
     refine qab ?_
     refine qac ?_
     refine qaa ?_
     refine LJ_q (by first | exact yv_index_ro tb rfl rfl rfl rfl (by first | assumption | exact zr (by simp)) (i := j) (by first | rfl | omega | (simp; omega)) (by omega) | exact yv_index tb rfl rfl rfl rfl (i := j) (by first | rfl | omega | (simp; omega)) (by omega)) rfl ?_
     refine qb0 ?_
     refine qa7 ?_
     refine qbn ?_
     refine qaf ?_
     refine q_c (fun hc2 => ?_) (fun hc2 => ?_)
     ·
      refine qae ?_
      refine qaa ?_
      refine qab ?_
      refine qcn ?_
      refine qam ?_
      refine ybvab ?_
      refine qak ?_
      refine LJ_nil (seqK_normal (CJ_ret (blockK_ret (seqK_ret (loopK_ret (blockK_ret (seqK_ret (joinK_ret ?_))))))))
      refine q_r (L' := [cblk c x k3]) (R' := R) (res1 rfl (rv_cell (row := [_, _, _, _, _, _]) tb rfl rfl rfl (by repeat (first | exact zi0 | apply zi1 | apply zi2)) (by rfl) (by rfl))) ?_
      exact ⟨⟨r1, (j : Int), r2, l⟩, k3, rfl, condD_fan (i := j) hc0 (by dsimp only; omega) hl rfl (by omega) hc2, hk3, rfl, rfl⟩
     refine qbj ?_
     refine qaa ?_
     refine qar ?_
     refine qad ?_
     refine qav ?_
     exact q_k (⟨j + 1, by omega⟩)
    refine CJ_exit (seqK_exit (loopK_exit (blockK_exit (seqK_normal (CJ_region ?_)))))
    refine qab ?_
    refine qcn ?_
    refine qav ?_
    exact q_j ⟨1, .inl rfl⟩
   refine CJ_skip ?_
   exact q_j ⟨r1, by omega⟩
  rintro ⟨kd, hkd⟩ junk
  try dsimp only
  refine qae ?_
  refine qab ?_
  refine qac ?_
  refine qag ?_
  refine qad ?_
  refine qaw ?_
  refine qab ?_
  refine qac ?_
  refine qbn ?_
  refine qaf ?_
  refine CJ_joinS [7, 42, 43, 44, 45, 46] ((⟨fun g => [(7, .int .i64 g.1)], fun g => ⟨b5, XCond.cells ⟨kd, 0, r2, l⟩, 133⟩ :: ⟨b4, [.int .i64 0, .int .i64 0, .int .i64 0, .int .i64 0, .int .i64 0, .int .i64 0], 133⟩ :: ⟨b3, s.cells, 36⟩ :: cblk c x k3 :: [], fun _ => R, fun _ => 0⟩ : Head {g : Int // g = if kd = 5 then (s.air.mine.roads.l.length : Int) else s.sensors.l.length})) ?_ ?_
  ·
   skip
   refine q_c (fun hc3 => ?_) (fun hc3 => ?_)
   ·
    refine qay ?_
    iterate 3 refine qab ?_
    refine qac ?_
    refine qag ?_
    refine qad ?_
    refine qav ?_
    exact q_j ⟨(s.air.mine.roads.l.length : Int), by rw [if_pos hc3]⟩
   refine CJ_skip ?_
   exact q_j ⟨(s.sensors.l.length : Int), by rw [if_neg hc3]⟩
  rintro ⟨nn, hnn⟩ junk
  try dsimp only
  have hnb : 1 ≤ nn ∧ nn ≤ 1000 := by rw [hnn]; split <;> omega
  refine qbi ?_
  refine qaa ?_
  refine qbn ?_
  refine qaf ?_
  refine q_c (fun hc4 => ?_) (fun hc4 => ?_)
  ·
   (exfalso; omega)
  refine qbv ?_
  refine qa6 ?_
  refine qaa ?_
  refine LJ_call rfl (next1 (by repeat (first | apply USeg.here | apply USeg.cons | apply USeg.app)) hx hk3 (by omega)) rfl ?_
  rintro v L' R' ⟨r3, k4, rfl, g3, g3', g3'', hk4, rfl, rfl⟩
  have g3q := g3' (by omega)
  refine qab ?_
  refine qcn ?_
  refine qam ?_
  refine ybvab ?_
  refine qak ?_
  refine qa0 ?_
  refine q_r (L' := [cblk c x k4]) (R' := R) (res1 rfl (rv_cell (row := [_, _, _, _, _, _]) tb rfl rfl rfl (by repeat (first | exact zi0 | apply zi1 | apply zi2)) (by rfl) (by rfl))) ?_
  exact ⟨⟨kd, r3, r2, l⟩, k4, rfl, condD_of hkd (by dsimp only; omega) hl (by dsimp only; rw [← hnn]; omega), hk4, rfl, rfl⟩
theorem cond1 {c : Nat} {x : Arr Int} {k : Nat} {s : XSite} {L : List Blk} {F : List Value → List Blk} {R : List Sl} (hu : USeg c (ccells x k) 122 L F) (hx : CodesR x R) (hk : k ≤ x.l.length) (hs : InR (sesl s.sensors) R) (hn : 1 ≤ s.sensors.l.length ∧ s.sensors.l.length ≤ 1000) (hr : 1 ≤ s.air.mine.roads.l.length ∧ s.air.mine.roads.l.length ≤ 1000) :
    Tri Try.prog 50 [.pointer (some ⟨c, 0, none⟩), s.val].toArray L R
      (fun v L' R' => ∃ (z : XCond) (k' : Nat), v = z.val ∧ CondD s.sensors.l s.air.mine.roads.l.length z ∧ k' ≤ x.l.length ∧ F (ccells x k') = L' ∧ R = R') :=
  (Tri.at1 (Post' := fun v cs' R' => ∃ (z : XCond) (k' : Nat), v = z.val ∧ CondD s.sensors.l s.air.mine.roads.l.length z ∧ k' ≤ x.l.length ∧ cs' = ccells x k' ∧ R = R') hu (drawCond_tri c x k s R hx hk hs hn hr)
    (fun v L' R' ⟨y, k', h1, h2, h5, h6, h7⟩ => ⟨_, h6, y, k', h1, h2, h5, rfl, h7⟩)).mono
    (fun v L' R' ⟨cs', h0, y, k', h1, h2, h5, h6, h7⟩ => ⟨y, k', h1, h2, h5, by rw [← h6]; exact h0, h7⟩)
end Go.Proofs.Ytkpfjmibipblhaa
end
section
/-
  A made mine without roads, with one road more. Plain. By an AI agent; no person has read it.
-/
set_option linter.unusedSimpArgs false
set_option linter.unusedVariables false
namespace Go.Proofs.Ytkpfjmibipblhaa
open Go.Aw Go
def oneRoad (n : Nat) : XRoad := ⟨0, (n : Int), 10, 4, false, false, ⟨1, 1⟩, ⟨0, 0⟩⟩
section
variable {a : XAir} {s : XSetting} {x : XState} (h : MadeA a s x) (hr : a.mine.roads.l.length = 0)
include h hr
theorem MadeA.no_fans : a.fans.l = [] := by
  have ha := airOk_of h.err
  cases hf : a.fans.l with
  | nil => rfl
  | cons f l =>
    obtain ⟨h1, h2⟩ := ha.fan 0 f (by rw [hf]; rfl)
    have := h1.road
    omega
theorem MadeA.no_doors : a.doors.l = [] := by
  have ha := airOk_of h.err
  cases hf : a.doors.l with
  | nil => rfl
  | cons f l =>
    obtain ⟨h1, h2⟩ := ha.door 0 f (by rw [hf]; rfl)
    have := h1.road
    omega
theorem MadeA.all_surface (i : Nat) (hi : i < a.mine.places.l.length) : (a.mine.places.l.getD i default).surface = true := by
  cases hs : (a.mine.places.l.getD i default).surface with
  | true => rfl
  | false =>
    obtain ⟨k, u, hk, _⟩ := h.shaft i hi hs
    omega
theorem MadeA.all_zero (i : Nat) (hi : i < a.mine.places.l.length) : x.pres.l.getD i 0 = 0 := by
  have hp := (fitsF_of h.err h.fit h.fits).place i hi
  rw [placeUnfit] at hp
  split at hp
  · cases hp
  · rename_i hn
    have := h.all_surface hr i hi
    by_cases hz : x.pres.l.getD i 0 = 0
    · exact hz
    · exact absurd (.inl ⟨this, hz⟩) hn
end
theorem places_none {m : XMine} (h : mineErr m = 0) : m.places.l.findSome? placeErr = none := by
  cases hf : m.places.l.findSome? placeErr with
  | none => rfl
  | some e =>
    rw [mineErr] at h
    split at h
    · omega
    rw [hf] at h
    obtain ⟨p, _, hp⟩ := List.exists_of_findSome?_eq_some hf
    unfold placeErr at hp
    split at hp
    · cases hp; cases h
    · cases hp
theorem airErr_mine1 {a : XAir} (h : airErr a = 0) : mineErr a.mine = 0 := by
  rw [airErr] at h
  split at h
  · omega
  · omega
section
variable {a : XAir} {s : XSetting} {x : XState} {P : Arr XPlace} {Rd : Arr XRoad} {Pr Fl : Arr Int} (h : MadeA a s x) (hr : a.mine.roads.l.length = 0) (hP : P.l = a.mine.places.l ++ [⟨0, true⟩]) (hR : Rd.l = [oneRoad a.mine.places.l.length]) (hPr : Pr.l = x.pres.l ++ [0]) (hFl : Fl.l = [0])
include h hr hP hR
theorem oneR_err : airErr ⟨⟨P, Rd⟩, a.fans, a.doors⟩ = 0 := by
  have hn := h.nplaces
  have hf := h.no_fans hr
  have hd := h.no_doors hr
  have hm : mineErr ⟨P, Rd⟩ = 0 := by
    rw [mineErr, if_neg (by simp only [hP, hR, List.length_append, List.length_singleton]; omega)]
    dsimp only
    rw [hP, List.findSome?_append, places_none (airErr_mine1 h.err), hR]
    show (([oneRoad a.mine.places.l.length].findSome? (roadErr (a.mine.places.l ++ [(⟨0, true⟩ : XPlace)]).length)).getD 0) = 0
    have e : roadErr (a.mine.places.l ++ [(⟨0, true⟩ : XPlace)]).length (oneRoad a.mine.places.l.length) = none := by
      rw [roadErr, oneRoad, if_neg (by simp only [List.length_append, List.length_singleton]; omega), if_neg]
      dsimp only
      decide
    rw [List.findSome?_cons, e]
    rfl
  rw [airErr, if_neg (by dsimp only; omega)]
  dsimp only
  rw [hf, hd]
  rfl
include hPr hFl
theorem oneR_fits : fitsS ⟨⟨P, Rd⟩, a.fans, a.doors⟩ s ⟨Pr, Fl⟩ = 0 := by
  have hn := h.nplaces
  have hpl := (fitsF_of h.err h.fit h.fits).plen
  have hz : ∀ i : Nat, i < a.mine.places.l.length + 1 → Pr.l.getD i 0 = 0 := fun i hi => by
    rw [hPr, List.getD_eq_getElem?_getD]
    rcases Nat.lt_or_ge i x.pres.l.length with h1 | h1
    · rw [List.getElem?_append_left h1, ← List.getD_eq_getElem?_getD]
      exact h.all_zero hr i (by omega)
    · rw [List.getElem?_append_right h1, show i - x.pres.l.length = 0 by omega]; rfl
  have hzm : ∀ p ∈ Pr.l, p = 0 := fun p hp => by
    obtain ⟨i, hi, rfl⟩ := List.mem_iff_getElem.1 hp
    have : Pr.l.length = a.mine.places.l.length + 1 := by rw [hPr, List.length_append, List.length_singleton]; omega
    have := hz i (by omega)
    rw [List.getD_eq_getElem?_getD, List.getElem?_eq_getElem hi] at this
    exact this
  rw [fitsS_at (oneR_err h hr hP hR) (show fitB ⟨⟨P, Rd⟩, a.fans, a.doors⟩ s = true from h.fit) (by simp only [hP, hR, hPr, hFl, List.length_append, List.length_singleton]; omega)]
  dsimp only
  rw [List.findSome?_eq_none_iff.2 (fun p hp => by rw [hzm p hp]; rfl), hFl]
  have e1 : [(0 : Int)].findSome? flowBad = none := by decide
  rw [e1]
  dsimp only
  have e2 : (List.range [(0 : Int)].length).findSome? (roadUnfit ⟨⟨P, Rd⟩, a.fans, a.doors⟩ s ⟨Pr, Fl⟩) = none := by
    refine List.findSome?_eq_none_iff.2 fun i hi => ?_
    obtain rfl : i = 0 := by simpa using List.mem_range.1 hi
    rw [roadUnfit]
    dsimp only
    rw [hR, hFl]
    have e3 : innerS ⟨⟨P, Rd⟩, a.fans, a.doors⟩ s ((0 : Nat) : Int) 0 = ⟨0, 0⟩ := by
      rw [innerS]
      dsimp only
      rw [h.no_fans hr]
      show innerTo _ s 0 0 0 = _
      rw [innerTo]
      dsimp only
      rw [h.no_doors hr]
      show baseS (restTo _ s 0 0) _ 0 = _
      rw [restTo]
      dsimp only
      rw [hR]
      rfl
    have e4 : ([(0 : Int)]).getD 0 0 = 0 := rfl
    have e5 : ([oneRoad a.mine.places.l.length]).getD 0 default = oneRoad a.mine.places.l.length := rfl
    rw [e4, e5, e3, oneRoad]
    dsimp only
    rw [show Pr.l.getD (Int.toNat 0) 0 = 0 from hz 0 (by omega), Int.toNat_natCast, hz _ (Nat.lt_succ_self _)]
    rfl
  rw [e2]
  dsimp only
  rw [List.findSome?_eq_none_iff.2 (fun i hi => ?_)]
  · rfl
  · have hi2 := List.mem_range.1 hi
    rw [hPr, List.length_append, List.length_singleton] at hi2
    rw [placeUnfit]
    dsimp only
    rw [hz i (by omega)]
    have hs : (P.l.getD i default).surface = true := by
      rw [hP, List.getD_eq_getElem?_getD]
      rcases Nat.lt_or_ge i a.mine.places.l.length with h1 | h1
      · rw [List.getElem?_append_left h1, ← List.getD_eq_getElem?_getD]
        exact h.all_surface hr i h1
      · rw [List.getElem?_append_right h1, show i - a.mine.places.l.length = 0 by omega]; rfl
    rw [hs, if_neg (by simp)]
end
end Go.Proofs.Ytkpfjmibipblhaa
end
section
/-
  Drawn sites. Plain. By an AI agent; no person has read it.
-/
set_option linter.unusedSimpArgs false
set_option linter.unusedVariables false
namespace Go.Proofs.Ytkpfjmibipblhaa
open Go.Aw Go
structure AirD (a : XAir) (s : XSetting) (x : XState) : Prop where
  err : airErr a = 0
  fit : fitB a s = true
  fits : fitsS a s x = 0
  nplaces : 1 ≤ a.mine.places.l.length ∧ a.mine.places.l.length ≤ 7
  nroads : 1 ≤ a.mine.roads.l.length ∧ a.mine.roads.l.length ≤ 9
  nfans : a.fans.l.length ≤ 2
  ndoors : a.doors.l.length ≤ 2
theorem AirD.flows {a : XAir} {s : XSetting} {x : XState} (h : AirD a s x) : FitsF a s x := fitsF_of h.err h.fit h.fits
theorem airD_of {a : XAir} {s : XSetting} {x : XState} (h : MadeA a s x) (hr : ¬ a.mine.roads.l.length = 0) : AirD a s x := by
  have h1 := h.nplaces
  have h2 := h.nroads
  exact ⟨h.err, h.fit, h.fits, by omega, by omega, h.nfans, h.ndoors⟩
theorem airD_one {a : XAir} {s : XSetting} {x : XState} {P : Arr XPlace} {Rd : Arr XRoad} {Pr Fl : Arr Int} (h : MadeA a s x) (hr : a.mine.roads.l.length = 0) (hP : P.l = a.mine.places.l ++ [⟨0, true⟩]) (hR : Rd.l = [oneRoad a.mine.places.l.length]) (hPr : Pr.l = x.pres.l ++ [0]) (hFl : Fl.l = [0]) :
    AirD ⟨⟨P, Rd⟩, a.fans, a.doors⟩ s ⟨Pr, Fl⟩ := by
  have h1 := h.nplaces
  refine ⟨oneR_err h hr hP hR, h.fit, oneR_fits h hr hP hR hPr hFl, ?_, ?_, h.nfans, h.ndoors⟩
  · dsimp only; rw [hP, List.length_append, List.length_singleton]; omega
  · dsimp only; rw [hR, List.length_singleton]; omega
structure SenK (a : XAir) (i : Nat) (t : XSens) : Prop where
  kind : 1 ≤ t.kind ∧ t.kind ≤ 6
  d : SensD t.kind (i : Int) t.target t
  target : 0 ≤ t.target ∧ t.target < sensOf a t
def SenL (a : XAir) (l : List XSens) : Prop := ∀ (i : Nat) (t : XSens), l[i]? = some t → SenK a i t
theorem SenL.snoc {a : XAir} {l : List XSens} (h : SenL a l) {t : XSens} (ht : SenK a l.length t) : SenL a (l ++ [t]) := fun i z hz => by
  rw [List.getElem?_append] at hz
  split at hz
  · exact h i z hz
  · rw [List.getElem?_singleton] at hz
    split at hz
    · cases hz
      rename_i h1 h2
      rw [show i = l.length by omega]
      exact ht
    · cases hz
structure RoadsA (n i : Nat) (l : List Int) : Prop where
  len : l.length ≤ i
  at_ : ∀ k : Nat, k < l.length → 0 ≤ l.getD k 0 ∧ l.getD k 0 < n ∧ l.getD k 0 < i
  up : ∀ k : Nat, k + 1 < l.length → l.getD k 0 < l.getD (k + 1) 0
theorem RoadsA.nil {n : Nat} : RoadsA n 0 [] := ⟨Nat.le_refl _, fun k hk => absurd hk (by simp), fun k hk => absurd hk (by simp)⟩
theorem RoadsA.stay {n i : Nat} {l : List Int} (h : RoadsA n i l) : RoadsA n (i + 1) l := ⟨by have := h.len; omega, fun k hk => by have := h.at_ k hk; omega, h.up⟩
theorem RoadsA.next {n i : Nat} {l : List Int} (h : RoadsA n i l) (hi : i < n) : RoadsA n (i + 1) (l ++ [(i : Int)]) := by
  have hl := h.len
  have e : ∀ k : Nat, k < l.length → (l ++ [(i : Int)]).getD k 0 = l.getD k 0 := fun k hk => by
    rw [List.getD_eq_getElem?_getD, List.getElem?_append_left hk, ← List.getD_eq_getElem?_getD]
  have e2 : (l ++ [(i : Int)]).getD l.length 0 = (i : Int) := by
    rw [List.getD_eq_getElem?_getD, List.getElem?_append_right (Nat.le_refl _), Nat.sub_self]; rfl
  refine ⟨by rw [List.length_append, List.length_singleton]; omega, fun k hk => ?_, fun k hk => ?_⟩
  · rw [List.length_append, List.length_singleton] at hk
    rcases Nat.lt_or_ge k l.length with h1 | h1
    · rw [e k h1]; have := h.at_ k h1; omega
    · obtain rfl : k = l.length := by omega
      rw [e2]; omega
  · rw [List.length_append, List.length_singleton] at hk
    rcases Nat.lt_or_ge (k + 1) l.length with h1 | h1
    · rw [e k (by omega), e _ h1]; exact h.up k h1
    · have hk2 : k + 1 = l.length := by omega
      rw [e k (by omega), hk2, e2]
      have := h.at_ k (by omega)
      omega
theorem RoadsA.good {n i : Nat} {l : List Int} (h : RoadsA n i l) (k : Nat) (hk : k < l.length) : ¬ roadBad n l k := by
  rw [roadBad]
  have h1 := h.at_ k hk
  rintro (h2 | ⟨h2, h3⟩)
  · exact h2 (by omega)
  · have := h.up (k - 1) (by omega)
    rw [show k - 1 + 1 = k by omega] at this
    omega
structure ZoneD (conds n : Nat) (z : XZone) : Prop where
  rule : RuleD conds 2 z.rule.l
  hold : 0 ≤ z.hold ∧ z.hold ≤ 8
  fresh : 0 ≤ z.fresh ∧ z.fresh ≤ 1
  roads : RoadsA n n z.roads.l
theorem ZoneD.err {conds n : Nat} {z : XZone} (h : ZoneD conds n z) : zoneErr conds n z = 0 := by
  have h1 := h.hold
  have h2 := h.fresh
  rw [zoneErr, if_neg (by rw [h.rule.err]; decide), if_neg (by omega), if_neg]
  rintro ⟨i, hi, hb⟩
  exact h.roads.good i hi hb
structure SiteD (s : XSite) (u : XSetting) (x : XState) : Prop where
  air : AirD s.air u x
  sens : SenL s.air s.sensors.l
  nsens : 1 ≤ s.sensors.l.length ∧ s.sensors.l.length ≤ 8
  cond : ∀ c ∈ s.conds.l, CondD s.sensors.l s.air.mine.roads.l.length c
  ncond : 1 ≤ s.conds.l.length ∧ s.conds.l.length ≤ 4
  zone : ∀ z ∈ s.zones.l, ZoneD s.conds.l.length s.air.mine.roads.l.length z
  nzone : 1 ≤ s.zones.l.length ∧ s.zones.l.length ≤ 3
  pers : s.persons.l = [1, 2, 1, 3]
theorem SensD.err {kind address target : Int} {t : XSens} (h : SensD kind address target t) (hk : 1 ≤ kind ∧ kind ≤ 6) (ha : 0 ≤ address ∧ address ≤ 255) (ht : 0 ≤ target) : sensErr t = 0 := by
  obtain ⟨h1, h2, h3, h4, h5, h6, h7, h8⟩ := h
  rw [sensErr, if_neg (by omega), if_pos (by rw [SensOk]; omega)]
theorem SiteD.ok {s : XSite} {u : XSetting} {x : XState} (h : SiteD s u x) : SiteOk s := by
  have h1 := h.nsens
  have h2 := h.ncond
  have h3 := h.nzone
  refine ⟨h.air.err, ⟨by omega, by omega, by omega, by rw [h.pers]; decide⟩, fun i hi => ?_, fun c hc => (h.cond c hc).err, fun z hz => (h.zone z hz).err, fun p hp => ?_⟩
  · have hs := h.sens i _ (get_D default hi)
    refine sensAt_none rfl (hs.d.err hs.kind (by omega) hs.target.1) hs.target fun k hk e => ?_
    have h5 := h.sens k _ (get_D (l := s.sensors.l) (k := k) default (by omega))
    have e1 := h5.d.address
    have e2 := hs.d.address
    omega
  · rw [h.pers] at hp
    simp only [List.mem_cons, List.not_mem_nil, or_false] at hp
    omega
end Go.Proofs.Ytkpfjmibipblhaa
end
