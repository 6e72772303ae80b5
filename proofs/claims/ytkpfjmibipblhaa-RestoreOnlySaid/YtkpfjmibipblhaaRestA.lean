import Derived.Test.YtkpfjmibipblhaaSiteP
section
/-
  Restoring power: restore.ready, and the reference's. By an AI agent; no person has read it.
-/
set_option linter.unusedSimpArgs false
set_option linter.unusedVariables false
namespace Go.Proofs.Ytkpfjmibipblhaa
open Go.Aw Go
set_option maxRecDepth 20000
attribute [local irreducible] CJ LJ DJ Tri YV Gives seqK blockK loopK retK RV mergeK OwL.L
section
variable {A9 B9 : Prop}
theorem ybqaa (a : A9) (h : A9 → B9 := by exact DJ_q (by first | exact yv_index_ro tb rfl rfl rfl rfl (by first | assumption | exact zr (by simp)) (i := k.toNat) (by first | rfl | omega | (simp; omega)) (by omega) | exact yv_index tb rfl rfl rfl rfl (i := k.toNat) (by first | rfl | omega | (simp; omega)) (by omega)) rfl rfl rfl) : B9 := h a
theorem ybqab (a : A9) (h : A9 → B9 := by exact DJ_q (by first | exact yv_index_ro tb rfl rfl rfl rfl (by first | assumption | exact zr (by simp)) (i := (z.roads.l.getD j 0).toNat) (by first | rfl | omega | (simp; omega)) (by omega) | exact yv_index tb rfl rfl rfl rfl (i := (z.roads.l.getD j 0).toNat) (by first | rfl | omega | (simp; omega)) (by omega)) rfl rfl rfl) : B9 := h a
end
theorem road_rng {s : XSite} (h : SiteOk s) {r : XRoad} (hr : r ∈ s.air.mine.roads.l) : (1 ≤ r.len ∧ r.len ≤ 100000) ∧ (1 ≤ r.area ∧ r.area ≤ 1000) := by
  have h1 : mineErr s.air.mine = 0 := by
    have := h.air
    rw [airErr] at this
    split at this
    · exact this
    · rename_i h2; exact Decidable.not_not.1 h2
  unfold mineErr at h1
  split at h1
  · cases h1
  split at h1
  · rename_i e he
    subst h1
    obtain ⟨x, _, hx⟩ := List.exists_of_findSome?_eq_some he
    unfold placeErr at hx
    split at hx <;> cases hx
  have hall := findSome_zero (f := roadErr s.air.mine.places.l.length) (fun x e hx he => by
    subst he
    unfold roadErr at hx
    split at hx
    · cases hx
    · split at hx <;> cases hx) h1
  have := hall r hr
  unfold roadErr at this
  split at this
  · cases this
  split at this
  · cases this
  rename_i h2
  omega
theorem zone_rng {s : XSite} (h : SiteOk s) {z : XZone} (hz : z ∈ s.zones.l) : (0 ≤ z.hold ∧ z.hold ≤ 100000) ∧ (0 ≤ z.fresh ∧ z.fresh ≤ 100) ∧ ∀ i : Nat, i < z.roads.l.length → 0 ≤ z.roads.l.getD i 0 ∧ z.roads.l.getD i 0 < s.air.mine.roads.l.length := by
  have := h.zone z hz
  rw [zoneErr] at this
  split at this
  · omega
  split at this
  · cases this
  rename_i h1
  split at this
  · cases this
  rename_i h2
  refine ⟨by omega, by omega, fun i hi => ?_⟩
  have : ¬ roadBad s.air.mine.roads.l.length z.roads.l i := fun hb => h2 ⟨i, hi, hb⟩
  rw [roadBad] at this
  omega
theorem zone_len {s : XSite} (h : SiteOk s) {z : XZone} (hz : z ∈ s.zones.l) : z.roads.l.length ≤ 128 := by
  have := h.zone z hz
  rw [zoneErr] at this
  split at this
  · omega
  split at this
  · cases this
  split at this
  · cases this
  rename_i h2
  have hb : ∀ i : Nat, i < z.roads.l.length → ¬ roadBad s.air.mine.roads.l.length z.roads.l i := fun i hi hb => h2 ⟨i, hi, hb⟩
  have up : ∀ i : Nat, i < z.roads.l.length → (i : Int) ≤ z.roads.l.getD i 0 := by
    intro i
    induction i with
    | zero => intro hi; have := hb 0 hi; rw [roadBad] at this; omega
    | succ i ih =>
      intro hi
      have h1 := ih (by omega)
      have h2 := hb (i + 1) hi
      rw [roadBad, Nat.add_sub_cancel] at h2
      omega
  have hn := (airOk_of h.air).mine.roads
  rcases Nat.lt_or_ge 128 z.roads.l.length with h3 | h3
  · have h4 := up 128 h3
    have h5 := hb 128 h3
    rw [roadBad] at h5
    omega
  · exact h3
def roadWait (s : XSite) (fl : List XSpan) (z : XZone) (sec r : Int) : Prop := ¬ AirCh (s.air.mine.roads.l.getD r.toNat default) (fl.getD r.toNat default) z.fresh sec
instance (s : XSite) (fl : List XSpan) (z : XZone) (sec r : Int) : Decidable (roadWait s fl z sec r) := by unfold roadWait; infer_instance
def readyZ (s : XSite) (fl : List XSpan) (c : XCut) (z : XZone) (t : Int) : Int :=
  if c.off = false then 10
  else if (c.clear < 0 ∨ t < c.clear) ∨ t - c.clear < z.hold then 20
  else if ∃ r ∈ z.roads.l, roadWait s fl z (t - c.clear) r then 20 else 0
def readyE (s : XSite) (c : List XCut) (fl : List XSpan) (k t : Int) : Int :=
  if k < 0 ∨ (c.length : Int) ≤ k then 17 else readyZ s fl (c.getD k.toNat default) (s.zones.l.getD k.toNat default) t
theorem ready_no {s : XSite} {fl : List XSpan} {c : XCut} {z : XZone} {t : Int} (h1 : c.off = true) (h2 : ¬ ((c.clear < 0 ∨ t < c.clear) ∨ t - c.clear < z.hold)) (h3 : ∀ j : Nat, j < z.roads.l.length → ¬ roadWait s fl z (t - c.clear) (z.roads.l.getD j 0)) : readyZ s fl c z t = 0 := by
  rw [readyZ, if_neg (by rw [h1]; decide), if_neg h2, if_neg]
  rintro ⟨r, hr, hw⟩
  obtain ⟨j, hj, rfl⟩ := List.getElem_of_mem hr
  have := h3 j hj
  rw [List.getD_eq_getElem?_getD, List.getElem?_eq_getElem hj] at this
  exact this hw
theorem ready_yes {s : XSite} {fl : List XSpan} {c : XCut} {z : XZone} {t r : Int} (h1 : c.off = true) (h2 : ¬ ((c.clear < 0 ∨ t < c.clear) ∨ t - c.clear < z.hold)) (hr : r ∈ z.roads.l) (h3 : roadWait s fl z (t - c.clear) r) : readyZ s fl c z t = 20 := by
  rw [readyZ, if_neg (by rw [h1]; decide), if_neg h2, if_pos ⟨r, hr, h3⟩]
structure RestA (s : XSite) (c : Arr XCut) (fl : Arr XSpan) (R : List Sl) : Prop where
  site : SiteR s R
  cuts : InR (cusl c) R
  flows : InR (spsl fl) R
theorem RestA.mono {s : XSite} {c : Arr XCut} {fl : Arr XSpan} {R R' : List Sl} (h : RestA s c fl R) (k : ∀ r ∈ R, InR r R') : RestA s c fl R' := ⟨h.site.mono k, h.cuts.mono k, h.flows.mono k⟩
theorem ready_tri (s : XSite) (c : Arr XCut) (fl : Arr XSpan) (k t : Int) (L : List Blk) (R : List Sl) (h : RestA s c fl R) (hok : SiteOk s) (hlen : c.l.length = s.zones.l.length ∧ fl.l.length = s.air.mine.roads.l.length) (ht : 0 ≤ t ∧ t ≤ 2147483648) :
    Tri Try.prog 76 [s.val, c.val, fl.val, .int .i64 k, .int .i64 t].toArray L R (fun v L' R' => v = .int .i64 (readyE s c.l fl.l k t) ∧ L = L' ∧ R = R') := by
  have hcR := h.cuts
  have hfR := h.flows
  have hzR := h.site.zones
  have hrR := h.site.air.roads
  have hsl := hok.len
  refine tri_enter 80 Try.call76 Try.func76 rfl rfl rfl ?_
  refine qae ?_
  refine qax ?_
  intro b5
  refine qad ?_
  refine qaw ?_
  refine qaa ?_
  refine qaj ?_
  refine qah ?_
  apply LJ_or (G := [_, _, _, _]) (j := 2) (cj := 17) rfl rfl (by rfl) rfl (show _ = Value.bool _ from rfl) rfl
  ·
   intro hg3
   replace hg3 := qb hg3
   refine qaa ?_
   refine qbm ?_
   refine qag ?_
   refine qbz ?_
   exact qai
  intro junk3
  refine qaf ?_
  refine q_c (fun hc0 => ?_) (fun hc0 => ?_)
  ·
   refine qae ?_
   refine qad ?_
   refine qbh ?_
   refine q_i (L' := L) (R' := R) ?_
   exact ⟨by rw [readyE, if_pos (by omega)], rfl, rfl⟩
  have hcg := get_D (l := c.l) (k := k.toNat) default (by omega)
  have hzg := get_D (l := s.zones.l) (k := k.toNat) default (by omega)
  have he : readyE s c.l fl.l k t = readyZ s fl.l (c.l.getD k.toNat default) (s.zones.l.getD k.toNat default) t := by rw [readyE, if_neg (by omega)]
  obtain ⟨z, hz⟩ : ∃ z, z = s.zones.l.getD k.toNat default := ⟨_, rfl⟩
  obtain ⟨x, hx⟩ : ∃ x, x = c.l.getD k.toNat default := ⟨_, rfl⟩
  rw [← hz] at hzg he
  rw [← hx] at hcg he
  have hzr := zone_rng hok (List.mem_of_getElem? hzg)
  have hzl := zone_len hok (List.mem_of_getElem? hzg)
  have hzroR : InR (isl z.roads) R := InR.zroads hzR hzg
  refine qcl ?_
  refine CJ_drawn tb [0, 1, 2, 3, 4, 5, 6, 7, 8, 9, 10, 11, 12] _ mixed (by kernel_rfl) (List.Sublist.refl _) ?_
  refine DJ_q (yv_move (show _ = Value.slice _ _ _ from rfl)) rfl rfl rfl ?_
  refine qao ?_
  refine ybqaa ?_
  refine qdv ?_
  refine qal ?_
  refine qat ?_
  refine qao ?_
  refine ybqaa ?_
  refine qdp ?_
  refine qbr ?_
  intro b11
  refine qbr ?_
  intro b12
  refine qbg ?_
  refine qbg ?_
  refine qc6 ?_
  refine qab ?_
  refine qac ?_
  refine qb4 ?_
  refine qaf ?_
  refine q_c (fun hc1 => ?_) (fun hc1 => ?_)
  ·
   refine qae ?_
   refine qad ?_
   refine qbh ?_
   refine q_i (L' := L) (R' := R) ?_
   exact ⟨by rw [he, readyZ, if_pos (by simpa using hc1)], rfl, rfl⟩
  have hoff : x.off = true := by simpa using hc1
  refine qbo ?_
  refine qab ?_
  refine qac ?_
  refine qaj ?_
  refine qah ?_
  apply LJ_or (G := [_, _, _, _]) (j := 3) (cj := 38) rfl rfl (by rfl) rfl (show _ = Value.bool _ from rfl) rfl
  ·
   intro hg4
   replace hg4 := qb hg4
   refine qab ?_
   refine qac ?_
   refine qaa ?_
   refine qa5 ?_
   exact qai
  intro junk4
  refine qah ?_
  apply LJ_or (G := [_, _, _, _, _, _, _]) (j := 9) (cj := 44) rfl rfl (by rfl) rfl (show _ = Value.bool _ from rfl) rfl
  ·
   intro hg10
   replace hg10 := qb hg10
   refine qaa ?_
   refine qab ?_
   refine qac ?_
   refine qa9 ?_
   refine qab ?_
   refine qac ?_
   refine qaj ?_
   exact qai
  intro junk10
  refine qaf ?_
  refine q_c (fun hc2 => ?_) (fun hc2 => ?_)
  ·
   refine qae ?_
   refine qad ?_
   refine qbh ?_
   refine q_i (L' := L) (R' := R) ?_
   exact ⟨by rw [he, readyZ, if_neg (by rw [hoff]; decide), if_pos (by omega)], rfl, rfl⟩
  refine qbo ?_
  refine qab ?_
  refine qac ?_
  refine qag ?_
  refine qaa ?_
  refine qa2 ?_
  refine CJ_forget [(2, Value.slice _ _ _), (4, Value.int _ _), (5, Value.pointer _), (11, Value.pointer _), (12, Value.pointer _), (54, Value.slice _ _ _), (55, Value.int _ _), (56, Value.int _ _)] (by repeat' (first | exact trivial | refine And.intro rfl ?_)) fun tq0 => ?_
  refine q_s [10, 14, 56, 57, 58, 59, 60, 61, 62, 63, 64, 65, 66, 67, 68, 69, 70, 71, 72, 73, 74, 75, 76, 77, 78, 79] (fun g : {j : Nat // j ≤ z.roads.l.length ∧ ∀ m : Nat, m < j → ¬ roadWait s fl.l z (t - x.clear) (z.roads.l.getD m 0)} => [(56, .int .i64 ((g.1 : Nat) : Int))]) (fun g => z.roads.l.length - g.1) (⟨0, by omega, fun m hm => by omega⟩) ?_
  rintro ⟨j, hj, hal⟩ junk
  try dsimp only
  refine qae ?_
  refine qaj ?_
  refine qa4 ?_
  refine q_c (fun hc3 => ?_) (fun hc3 => ?_)
  ·
   have hjg := get_D (l := z.roads.l) (k := j) 0 (by omega)
   have hjr := hzr.2.2 j (by omega)
   have hrg := get_D (l := s.air.mine.roads.l) (k := (z.roads.l.getD j 0).toNat) default (by omega)
   have hfg := get_D (l := fl.l) (k := (z.roads.l.getD j 0).toNat) default (by omega)
   have hrr := road_rng hok (List.mem_of_getElem? hrg)
   refine qbb ?_
   refine LJ_q (by first | exact yv_index_ro tb rfl rfl rfl rfl (by first | assumption | exact zr (by simp)) (i := j) (by first | rfl | omega | (simp; omega)) (by omega) | exact yv_index tb rfl rfl rfl rfl (i := j) (by first | rfl | omega | (simp; omega)) (by omega)) rfl ?_
   refine qa7 ?_
   refine qad ?_
   refine qa4 ?_
   refine CJ_drawn tb [0, 1, 2, 3, 4, 5, 6, 7, 8, 9, 10, 11, 12, 13, 14, 15, 16, 17, 18] _ mixed (by kernel_rfl) (List.Sublist.refl _) ?_
   iterate 3 refine qal ?_
   refine qat ?_
   refine qao ?_
   refine ybqab ?_
   refine DJ_q (by first | exact yv_loadN_ro (row := [_, _, _, _, _, _, _, _, _, _]) tb rfl rfl rfl (by first | assumption | exact zr (by simp)) (by assumption) (by rfl) (by rfl) | exact yv_loadN (row := [_, _, _, _, _, _, _, _, _, _]) tb rfl rfl rfl (by repeat (first | exact zi0 | apply zi1 | apply zi2)) (by rfl) (by rfl)) rfl rfl rfl ?_
   refine DJ_q (yv_move (show _ = Value.slice _ _ _ from rfl)) rfl rfl rfl ?_
   refine qao ?_
   refine ybqab ?_
   refine qdo ?_
   refine qal ?_
   refine qat ?_
   refine qao ?_
   refine qal ?_
   refine qat ?_
   refine qb7 ?_
   refine q_d rfl (changed_tri (s.air.mine.roads.l.getD (z.roads.l.getD j 0).toNat default) (fl.l.getD (z.roads.l.getD j 0).toNat default) z.fresh (t - x.clear) _ _ hrr.1 hrr.2 hzr.2.1 (by omega)) ?_
   refine DJ_q (yv_not rfl) rfl rfl rfl ?_
   refine qbu ?_
   refine q_c (fun hc4 => ?_) (fun hc4 => ?_)
   ·
    refine qae ?_
    refine qad ?_
    refine qbt ?_
    refine q_i (L' := L) (R' := R) ?_
    exact ⟨by rw [he, ready_yes hoff (by omega) (List.mem_of_getElem? hjg) (by rw [roadWait]; simpa using hc4)], rfl, rfl⟩
   refine qbj ?_
   refine qar ?_
   refine qaa ?_
   refine qav ?_
   exact loopK_mk (⟨j + 1, by omega, fun m hm => by
   rcases Nat.lt_or_ge m j with h | h
   · exact hal m h
   · obtain rfl : m = j := by omega
     rw [roadWait]; simpa using hc4⟩) (by repeat (first | exact Off.refl | apply Off.upd rfl | apply Off.havoc rfl | apply Off.updL rfl | apply Off.left rfl)) (by repeat' (first | exact trivial | refine And.intro rfl ?_)) (by repeat (first | exact zs0 _ | exact zs1 _ | apply zs2 | apply zs3 | apply zs4 | apply zs5)) (allR_self _) (by dsimp only; omega)
  refine qbk ?_
  refine qad ?_
  refine qa0 ?_
  refine q_i (L' := L) (R' := R) ?_
  exact ⟨by rw [he, ready_no hoff (by omega) (fun m hm => hal m (by omega))], rfl, rfl⟩
end Go.Proofs.Ytkpfjmibipblhaa
end
section
/-
  Restoring power: Ready, Ask and Confirm. By an AI agent; no person has read it.
-/
set_option linter.unusedSimpArgs false
set_option linter.unusedVariables false
namespace Go.Proofs.Ytkpfjmibipblhaa
open Go.Aw Go
set_option maxRecDepth 20000
attribute [local irreducible] CJ LJ DJ Tri YV Gives seqK blockK loopK retK RV mergeK OwL.L
section
variable {A9 B9 : Prop}
theorem ybraa (a : A9) (h : A9 → B9 := by exact LJ_q (yv_loadN (row := [_, _, _, _, _]) tb rfl rfl rfl (by repeat (first | exact zi0 | apply zi1 | apply zi2)) (by rfl) (by rfl)) rfl) : B9 := h a
theorem ybrab (a : A9) (h : A9 → B9 := by exact LJ_q (yv_loadN (row := [_, _, _, _, _, _, _, _]) tb rfl rfl rfl (by repeat (first | exact zi0 | apply zi1 | apply zi2)) (by rfl) (by rfl)) rfl) : B9 := h a
end
structure XRest where
  zone : Int
  first : Int
  second : Int
  step : Int
  time : Int
  deriving DecidableEq
def XRest.cells (x : XRest) : List Value := [.int .i64 x.zone, .int .i64 x.first, .int .i64 x.second, .int .i64 x.step, .int .i64 x.time]
abbrev XRest.val (x : XRest) : Value := .agg #[.int .i64 x.zone, .int .i64 x.first, .int .i64 x.second, .int .i64 x.step, .int .i64 x.time]
def noRest : XRest := ⟨-1, -1, -1, 0, 0⟩
def sharedE (s : XSite) (nc nf : Nat) (t : Int) : Int := if siteErr s ≠ 0 then siteErr s else if ¬ (nc = s.zones.l.length ∧ nf = s.air.mine.roads.l.length) then 11 else if t < 0 ∨ 2147483648 < t then 8 else 0
theorem restCheck_tri (s : XSite) (c : Arr XCut) (fl : Arr XSpan) (t : Int) (L : List Blk) (R : List Sl) (h : RestA s c fl R) :
    Tri Try.prog 75 [s.val, c.val, fl.val, .int .i64 t].toArray L R (fun v L' R' => v = .int .i64 (sharedE s c.l.length fl.l.length t) ∧ L = L' ∧ R = R') := by
  refine tri_enter 37 Try.call75 Try.func75 rfl rfl rfl ?_
  refine qae ?_
  refine qax ?_
  intro b4
  refine qad ?_
  refine qaw ?_
  refine ybrab ?_
  refine q_l rfl (siteCheck_tri s _ _ h.site) ?_
  refine qad ?_
  refine qam ?_
  refine qaa ?_
  refine qbq ?_
  refine qaf ?_
  refine q_c (fun hc0 => ?_) (fun hc0 => ?_)
  ·
   refine qae ?_
   refine qaa ?_
   refine qad ?_
   refine qbh ?_
   refine q_i (L' := L) (R' := R) ?_
   exact ⟨by rw [sharedE, if_pos hc0], rfl, rfl⟩
  refine qbo ?_
  refine qbm ?_
  refine qag ?_
  refine qab ?_
  refine qac ?_
  refine qag ?_
  refine qbq ?_
  refine qah ?_
  apply LJ_or (G := [_, _, _, _, _, _, _, _]) (j := 6) (cj := 21) rfl rfl (by rfl) rfl (show _ = Value.bool _ from rfl) rfl
  ·
   intro hg7
   replace hg7 := qb hg7
   refine qbm ?_
   refine qag ?_
   iterate 3 refine qab ?_
   refine qac ?_
   refine qag ?_
   refine qbq ?_
   exact qai
  intro junk7
  refine qaf ?_
  refine q_c (fun hc1 => ?_) (fun hc1 => ?_)
  ·
   refine qae ?_
   refine qad ?_
   refine qbh ?_
   refine q_i (L' := L) (R' := R) ?_
   exact ⟨by rw [sharedE, if_neg (by omega), if_pos (by omega)], rfl, rfl⟩
  refine qbo ?_
  refine qaa ?_
  refine qaj ?_
  refine qah ?_
  apply LJ_or (G := [_, _]) (j := 2) (cj := 33) rfl rfl (by rfl) rfl (show _ = Value.bool _ from rfl) rfl
  ·
   intro hg3
   replace hg3 := qb hg3
   refine qaa ?_
   refine qa5 ?_
   exact qai
  intro junk3
  refine qaf ?_
  refine q_c (fun hc2 => ?_) (fun hc2 => ?_)
  ·
   refine qae ?_
   refine qad ?_
   refine qbh ?_
   refine q_i (L' := L) (R' := R) ?_
   exact ⟨by rw [sharedE, if_neg (by omega), if_neg (by omega), if_pos (by omega)], rfl, rfl⟩
  refine qbv ?_
  refine qad ?_
  refine qa0 ?_
  refine q_i (L' := L) (R' := R) ?_
  exact ⟨by rw [sharedE, if_neg (by omega), if_neg (by omega), if_neg (by omega)], rfl, rfl⟩

theorem shared_ok {s : XSite} {nc nf : Nat} {t : Int} (h : sharedE s nc nf t = 0) : SiteOk s ∧ (nc = s.zones.l.length ∧ nf = s.air.mine.roads.l.length) ∧ 0 ≤ t ∧ t ≤ 2147483648 := by
  rw [sharedE] at h
  split at h
  · omega
  rename_i h1
  split at h
  · omega
  split at h
  · omega
  exact ⟨siteOk_of (Decidable.not_not.1 h1), by omega, by omega⟩
def readyF (s : XSite) (c : List XCut) (fl : List XSpan) (k t : Int) : Int := if sharedE s c.length fl.length t ≠ 0 then sharedE s c.length fl.length t else readyE s c fl k t
theorem Ready_tri (s : XSite) (c : Arr XCut) (fl : Arr XSpan) (k t : Int) (L : List Blk) (R : List Sl) (h : RestA s c fl R) :
    Tri Try.prog 29 [s.val, c.val, fl.val, .int .i64 k, .int .i64 t].toArray L R (fun v L' R' => v = .int .i64 (readyF s c.l fl.l k t) ∧ L = L' ∧ R = R') := by
  refine tri_enter 26 Try.call29 Try.func29 rfl rfl rfl ?_
  refine qae ?_
  refine qax ?_
  intro b5
  refine qad ?_
  refine qaw ?_
  refine ybrab ?_
  refine qbm ?_
  refine qbm ?_
  refine qaa ?_
  refine q_l rfl (restCheck_tri s c fl t _ _ h) ?_
  refine qad ?_
  refine qam ?_
  refine qaa ?_
  refine qbq ?_
  refine qaf ?_
  refine q_c (fun hc0 => ?_) (fun hc0 => ?_)
  ·
   refine qae ?_
   refine qaa ?_
   refine qad ?_
   refine qbh ?_
   refine q_i (L' := L) (R' := R) ?_
   exact ⟨by rw [readyF, if_pos hc0], rfl, rfl⟩
  obtain ⟨hok, hln, ht⟩ := shared_ok (s := s) (nc := c.l.length) (nf := fl.l.length) (t := t) (by omega)
  refine qbv ?_
  refine ybrab ?_
  refine qbm ?_
  refine qbm ?_
  refine qaa ?_
  refine qaa ?_
  refine q_l rfl (ready_tri s c fl k t _ _ h hok hln ht) ?_
  refine qad ?_
  refine qa0 ?_
  refine q_i (L' := L) (R' := R) ?_
  exact ⟨by rw [readyF, if_neg hc0], rfl, rfl⟩
theorem None_tri (L : List Blk) (R : List Sl) : Tri Try.prog 31 ([] : List Value).toArray L R (fun v L' R' => v = noRest.val ∧ L = L' ∧ R = R') := by
  refine tri_enter 2 Try.call31 Try.func31 rfl rfl rfl ?_
  refine qae ?_
  refine qaq ?_
  intro b0
  refine qam ?_
  refine LJ_q (yv_build (qs := [(0, (Value.int _ _).cells.toList), (1, (Value.int _ _).cells.toList), (2, (Value.int _ _).cells.toList)]) (out := [_, _, _, _, _]) tb rfl rfl rfl rfl) rfl ?_
  refine qak ?_
  refine qa0 ?_
  refine q_r (L' := L) (R' := R) (res1 rfl (rv_cell (row := [_, _, _, _, _]) tb rfl rfl rfl (by repeat (first | exact zi0 | apply zi1 | apply zi2)) (by rfl) (by rfl))) ?_
  exact ⟨rfl, rfl, rfl⟩
def askE (s : XSite) (c : List XCut) (fl : List XSpan) (r : XRest) (p k t : Int) : Int :=
  if sharedE s c.length fl.length t ≠ 0 then sharedE s c.length fl.length t
  else if r.zone ≠ -1 then 10
  else if p < 0 ∨ (s.persons.l.length : Int) ≤ p ∨ s.persons.l.getD p.toNat 0 ≠ 1 then 19
  else readyE s c fl k t
def askR (s : XSite) (c : List XCut) (fl : List XSpan) (r : XRest) (p k t : Int) : XRest := if askE s c fl r p k t = 0 then ⟨k, p, -1, 1, t⟩ else r
theorem ask_err {s : XSite} {c : List XCut} {fl : List XSpan} {r : XRest} {p k t e : Int} (h : askE s c fl r p k t = e) (he : e ≠ 0) : askR s c fl r p k t = r := by rw [askR, if_neg (by omega)]
theorem Ask_tri (s : XSite) (c : Arr XCut) (fl : Arr XSpan) (r : XRest) (p k t : Int) (L : List Blk) (R : List Sl) (h : RestA s c fl R) :
    Tri Try.prog 33 [s.val, c.val, fl.val, r.val, .int .i64 p, .int .i64 k, .int .i64 t].toArray L R (fun v L' R' => v = .tuple #[(askR s c.l fl.l r p k t).val, .int .i64 (askE s c.l fl.l r p k t)] ∧ L = L' ∧ R = R') := by
  have hpR := h.site.persons
  refine tri_enter 64 Try.call33 Try.func33 rfl rfl rfl ?_
  refine qae ?_
  refine qax ?_
  intro b7
  refine qax ?_
  intro b10
  refine qaq ?_
  intro b14
  refine qad ?_
  refine qaw ?_
  refine ybrab ?_
  refine qbm ?_
  refine qbm ?_
  refine qaa ?_
  refine q_l rfl (restCheck_tri s c fl t _ _ h) ?_
  refine qad ?_
  refine qam ?_
  refine qaa ?_
  refine qbq ?_
  refine qaf ?_
  refine q_c (fun hc0 => ?_) (fun hc0 => ?_)
  ·
   refine qae ?_
   refine ybraa ?_
   refine qaa ?_
   refine qak ?_
   refine qad ?_
   refine qbh ?_
   refine q_r (L' := L) (R' := R) (res2 rfl (rv_cell (row := [_, _, _, _, _]) tb rfl rfl rfl (by repeat (first | exact zi0 | apply zi1 | apply zi2)) (by rfl) (by rfl)) (rv_tmp (show _ = Value.int _ _ from rfl))) ?_
   have he : askE s c.l fl.l r p k t = sharedE s c.l.length fl.l.length t := by rw [askE, if_pos hc0]
   exact ⟨by rw [ask_err he hc0, he], rfl, rfl⟩
  obtain ⟨hok, hln, ht⟩ := shared_ok (s := s) (nc := c.l.length) (nf := fl.l.length) (t := t) (by omega)
  refine qbo ?_
  refine qab ?_
  refine qac ?_
  refine qbq ?_
  refine qaf ?_
  refine q_c (fun hc1 => ?_) (fun hc1 => ?_)
  ·
   refine qae ?_
   refine ybraa ?_
   refine qak ?_
   refine qad ?_
   refine qbh ?_
   refine q_r (L' := L) (R' := R) (res2 rfl (rv_cell (row := [_, _, _, _, _]) tb rfl rfl rfl (by repeat (first | exact zi0 | apply zi1 | apply zi2)) (by rfl) (by rfl)) (rv_tmp (show _ = Value.int _ _ from rfl))) ?_
   have he : askE s c.l fl.l r p k t = 10 := by rw [askE, if_neg hc0, if_pos hc1]
   exact ⟨by rw [ask_err he (by omega), he], rfl, rfl⟩
  refine qbo ?_
  refine qaa ?_
  refine qaj ?_
  refine qah ?_
  apply LJ_or (G := [_, _, _, _, _]) (j := 2) (cj := 33) rfl rfl (by rfl) rfl (show _ = Value.bool _ from rfl) rfl
  ·
   intro hg3
   replace hg3 := qb hg3
   refine qaa ?_
   refine qab ?_
   refine qac ?_
   refine qag ?_
   refine qbz ?_
   exact qai
  intro junk3
  refine qah ?_
  apply LJ_or (G := [_, _, _, _, _, _, _]) (j := 9) (cj := 40) rfl rfl (by rfl) rfl (show _ = Value.bool _ from rfl) rfl
  ·
   intro hg10
   replace hg10 := qb hg10
   have hpg := get_D (l := s.persons.l) (k := p.toNat) 0 (by omega)
   refine qab ?_
   refine qac ?_
   refine qaa ?_
   refine LJ_q (by first | exact yv_index_ro tb rfl rfl rfl rfl (by first | assumption | exact zr (by simp)) (i := p.toNat) (by first | rfl | omega | (simp; omega)) (by omega) | exact yv_index tb rfl rfl rfl rfl (i := p.toNat) (by first | rfl | omega | (simp; omega)) (by omega)) rfl ?_
   refine qb0 ?_
   refine qa7 ?_
   refine qbq ?_
   exact qai
  intro junk10
  refine qaf ?_
  refine q_c (fun hc2 => ?_) (fun hc2 => ?_)
  ·
   refine qae ?_
   refine ybraa ?_
   refine qak ?_
   refine qad ?_
   refine qbh ?_
   refine q_r (L' := L) (R' := R) (res2 rfl (rv_cell (row := [_, _, _, _, _]) tb rfl rfl rfl (by repeat (first | exact zi0 | apply zi1 | apply zi2)) (by rfl) (by rfl)) (rv_tmp (show _ = Value.int _ _ from rfl))) ?_
   have he : askE s c.l fl.l r p k t = 19 := by rw [askE, if_neg hc0, if_neg hc1, if_pos (by omega)]
   exact ⟨by rw [ask_err he (by omega), he], rfl, rfl⟩
  have he : askE s c.l fl.l r p k t = readyE s c.l fl.l k t := by rw [askE, if_neg hc0, if_neg hc1, if_neg (by omega)]
  refine qbo ?_
  refine ybrab ?_
  refine qbm ?_
  refine qbm ?_
  refine qaa ?_
  refine qaa ?_
  refine q_l rfl (ready_tri s c fl k t _ _ h hok hln ht) ?_
  refine qad ?_
  refine qam ?_
  refine qaa ?_
  refine qbq ?_
  refine qaf ?_
  refine q_c (fun hc3 => ?_) (fun hc3 => ?_)
  ·
   refine qae ?_
   refine ybraa ?_
   refine qaa ?_
   refine qak ?_
   refine qad ?_
   refine qbh ?_
   refine q_r (L' := L) (R' := R) (res2 rfl (rv_cell (row := [_, _, _, _, _]) tb rfl rfl rfl (by repeat (first | exact zi0 | apply zi1 | apply zi2)) (by rfl) (by rfl)) (rv_tmp (show _ = Value.int _ _ from rfl))) ?_
   exact ⟨by rw [ask_err he hc3, he], rfl, rfl⟩
  refine qbv ?_
  iterate 3 refine qaa ?_
  refine LJ_q (yv_build (qs := [(0, (Value.int _ _).cells.toList), (1, (Value.int _ _).cells.toList), (2, (Value.int _ _).cells.toList), (3, (Value.int _ _).cells.toList), (4, (Value.int _ _).cells.toList)]) (out := [_, _, _, _, _]) tb rfl rfl rfl rfl) rfl ?_
  refine qak ?_
  refine qad ?_
  refine qa0 ?_
  refine q_r (L' := L) (R' := R) (res2 rfl (rv_cell (row := [_, _, _, _, _]) tb rfl rfl rfl (by repeat (first | exact zi0 | apply zi1 | apply zi2)) (by rfl) (by rfl)) (rv_tmp (show _ = Value.int _ _ from rfl))) ?_
  exact ⟨by rw [askR, if_pos (by omega), he, show readyE s c.l fl.l k t = 0 by omega], rfl, rfl⟩
def LateR (r : XRest) (t : Int) : Prop := t < r.time ∨ r.time < t - 600
instance (r : XRest) (t : Int) : Decidable (LateR r t) := by unfold LateR; infer_instance
theorem late_tri (r : XRest) (t : Int) (L : List Blk) (R : List Sl) (ht : 0 ≤ t ∧ t ≤ 2147483648) :
    Tri Try.prog 79 [r.val, .int .i64 t].toArray L R (fun v L' R' => v = .bool (decide (LateR r t)) ∧ L = L' ∧ R = R') := by
  refine tri_enter 16 Try.call79 Try.func79 rfl rfl rfl ?_
  refine qae ?_
  refine qax ?_
  intro b2
  refine qaz ?_
  refine qam ?_
  refine qaa ?_
  refine qab ?_
  refine qac ?_
  refine qaj ?_
  refine qah ?_
  apply LJ_or (G := [_, _, _, _, _]) (j := 4) (cj := 9) rfl rfl (by rfl) rfl (show _ = Value.bool _ from rfl) rfl
  ·
   intro hg5
   replace hg5 := qb hg5
   refine qab ?_
   refine qac ?_
   refine qaa ?_
   refine qa9 ?_
   refine qaj ?_
   exact qai
  intro junk5
  refine qaz ?_
  refine qa0 ?_
  refine q_b (L' := L) (R' := R) ?_
  exact ⟨by refine congrArg Value.bool ?_; rw [Bool.eq_iff_iff, decide_eq_true_iff (p := LateR r t), LateR]; simp, rfl, rfl⟩
def BadPair (s : XSite) (r : XRest) (p : Int) : Prop :=
  p < 0 ∨ (s.persons.l.length : Int) ≤ p ∨ p = r.first ∨ r.first < 0 ∨ (s.persons.l.length : Int) ≤ r.first ∨ s.persons.l.getD p.toNat 0 = s.persons.l.getD r.first.toNat 0
instance (s : XSite) (r : XRest) (p : Int) : Decidable (BadPair s r p) := by unfold BadPair; infer_instance
def confirmE (s : XSite) (c : List XCut) (fl : List XSpan) (r : XRest) (p t : Int) : Int :=
  if sharedE s c.length fl.length t ≠ 0 then sharedE s c.length fl.length t
  else if r.zone = -1 ∨ r.step ≠ 1 then 10
  else if BadPair s r p then 19
  else if LateR r t then 8
  else readyE s c fl r.zone t
def confirmR (s : XSite) (c : List XCut) (fl : List XSpan) (r : XRest) (p t : Int) : XRest := if confirmE s c fl r p t = 0 then ⟨r.zone, r.first, p, 2, t⟩ else r
theorem confirm_err {s : XSite} {c : List XCut} {fl : List XSpan} {r : XRest} {p t e : Int} (h : confirmE s c fl r p t = e) (he : e ≠ 0) : confirmR s c fl r p t = r := by rw [confirmR, if_neg (by omega)]
theorem Confirm_tri (s : XSite) (c : Arr XCut) (fl : Arr XSpan) (r : XRest) (p t : Int) (L : List Blk) (R : List Sl) (h : RestA s c fl R) :
    Tri Try.prog 34 [s.val, c.val, fl.val, r.val, .int .i64 p, .int .i64 t].toArray L R (fun v L' R' => v = .tuple #[(confirmR s c.l fl.l r p t).val, .int .i64 (confirmE s c.l fl.l r p t)] ∧ L = L' ∧ R = R') := by
  have hpR := h.site.persons
  refine tri_enter 102 Try.call34 Try.func34 rfl rfl rfl ?_
  refine qae ?_
  refine qax ?_
  intro b6
  refine qax ?_
  intro b9
  refine qaq ?_
  intro b12
  refine qad ?_
  refine qaw ?_
  refine ybrab ?_
  refine qbm ?_
  refine qbm ?_
  refine qaa ?_
  refine q_l rfl (restCheck_tri s c fl t _ _ h) ?_
  refine qad ?_
  refine qam ?_
  refine qaa ?_
  refine qbq ?_
  refine qaf ?_
  refine q_c (fun hc0 => ?_) (fun hc0 => ?_)
  ·
   refine qae ?_
   refine ybraa ?_
   refine qaa ?_
   refine qak ?_
   refine qad ?_
   refine qbh ?_
   refine q_r (L' := L) (R' := R) (res2 rfl (rv_cell (row := [_, _, _, _, _]) tb rfl rfl rfl (by repeat (first | exact zi0 | apply zi1 | apply zi2)) (by rfl) (by rfl)) (rv_tmp (show _ = Value.int _ _ from rfl))) ?_
   have he : confirmE s c.l fl.l r p t = sharedE s c.l.length fl.l.length t := by rw [confirmE, if_pos hc0]
   exact ⟨by rw [confirm_err he hc0, he], rfl, rfl⟩
  obtain ⟨hok, hln, ht⟩ := shared_ok (s := s) (nc := c.l.length) (nf := fl.l.length) (t := t) (by omega)
  refine qbo ?_
  refine qab ?_
  refine qac ?_
  refine qbn ?_
  refine qah ?_
  apply LJ_or (G := [_, _, _]) (j := 3) (cj := 30) rfl rfl (by rfl) rfl (show _ = Value.bool _ from rfl) rfl
  ·
   intro hg4
   replace hg4 := qb hg4
   refine qab ?_
   refine qac ?_
   refine qbq ?_
   exact qai
  intro junk4
  refine qaf ?_
  refine q_c (fun hc1 => ?_) (fun hc1 => ?_)
  ·
   refine qae ?_
   refine ybraa ?_
   refine qak ?_
   refine qad ?_
   refine qbh ?_
   refine q_r (L' := L) (R' := R) (res2 rfl (rv_cell (row := [_, _, _, _, _]) tb rfl rfl rfl (by repeat (first | exact zi0 | apply zi1 | apply zi2)) (by rfl) (by rfl)) (rv_tmp (show _ = Value.int _ _ from rfl))) ?_
   have he : confirmE s c.l fl.l r p t = 10 := by rw [confirmE, if_neg hc0, if_pos (by omega)]
   exact ⟨by rw [confirm_err he (by omega), he], rfl, rfl⟩
  refine qbv ?_
  refine qab ?_
  refine qac ?_
  refine qag ?_
  refine qad ?_
  refine qco ?_
  refine CJ_drawn tb [0, 1, 2, 3, 4, 5, 6, 7, 8, 9, 10, 11, 12, 13, 14, 15, 16, 17, 18, 19, 20, 21, 22, 23, 24, 25, 26, 27, 28, 29, 30, 31, 32, 33, 34, 35, 36, 37, 38, 39] _ mixed (by kernel_rfl) (List.Sublist.refl _) ?_
  refine qao ?_
  refine DJ_q (yv_lss rfl rfl) rfl rfl rfl ?_
  refine qb2 ?_
  refine DJ_case (k := 41) (show _ = Value.bool _ from rfl) (fun hg2 => ?_) (fun hg2 => ?_)
  ·
   replace hg2 := qb hg2
   iterate 3 refine qap ?_
   refine qbp ?_
   refine qb2 ?_
   iterate 4 refine qap ?_
   refine qbp ?_
   refine qb2 ?_
   iterate 3 refine qap ?_
   refine qbp ?_
   refine qb2 ?_
   iterate 4 refine qap ?_
   refine qbp ?_
   refine qb2 ?_
   iterate 14 refine qap ?_
   refine qbp ?_
   refine qbu ?_
   refine CJ_cond_true rfl ?_
   refine qae ?_
   refine ybraa ?_
   refine qak ?_
   refine qad ?_
   refine qbh ?_
   refine q_r (L' := L) (R' := R) (res2 rfl (rv_cell (row := [_, _, _, _, _]) tb rfl rfl rfl (by repeat (first | exact zi0 | apply zi1 | apply zi2)) (by rfl) (by rfl)) (rv_tmp (show _ = Value.int _ _ from rfl))) ?_
   have he : confirmE s c.l fl.l r p t = 19 := by rw [confirmE, if_neg hc0, if_neg (by omega), if_pos (by rw [BadPair]; omega)]
   exact ⟨by rw [confirm_err he (by omega), he], rfl, rfl⟩
  replace hg2 := qb hg2
  refine qao ?_
  refine qao ?_
  refine DJ_q (yv_geq rfl rfl) rfl rfl rfl ?_
  refine qbp ?_
  refine qb2 ?_
  refine DJ_case (k := 46) (show _ = Value.bool _ from rfl) (fun hg7 => ?_) (fun hg7 => ?_)
  ·
   replace hg7 := qb hg7
   iterate 4 refine qap ?_
   refine qbp ?_
   refine qb2 ?_
   iterate 3 refine qap ?_
   refine qbp ?_
   refine qb2 ?_
   iterate 4 refine qap ?_
   refine qbp ?_
   refine qb2 ?_
   iterate 14 refine qap ?_
   refine qbp ?_
   refine qbu ?_
   refine CJ_cond_true rfl ?_
   refine qae ?_
   refine ybraa ?_
   refine qak ?_
   refine qad ?_
   refine qbh ?_
   refine q_r (L' := L) (R' := R) (res2 rfl (rv_cell (row := [_, _, _, _, _]) tb rfl rfl rfl (by repeat (first | exact zi0 | apply zi1 | apply zi2)) (by rfl) (by rfl)) (rv_tmp (show _ = Value.int _ _ from rfl))) ?_
   have he : confirmE s c.l fl.l r p t = 19 := by rw [confirmE, if_neg hc0, if_neg (by omega), if_pos (by rw [BadPair]; omega)]
   exact ⟨by rw [confirm_err he (by omega), he], rfl, rfl⟩
  replace hg7 := qb hg7
  refine qao ?_
  refine qal ?_
  refine qat ?_
  refine DJ_q (yv_eql rfl rfl) rfl rfl rfl ?_
  refine qbp ?_
  refine qb2 ?_
  refine DJ_case (k := 52) (show _ = Value.bool _ from rfl) (fun hg13 => ?_) (fun hg13 => ?_)
  ·
   replace hg13 := qb hg13
   iterate 3 refine qap ?_
   refine qbp ?_
   refine qb2 ?_
   iterate 4 refine qap ?_
   refine qbp ?_
   refine qb2 ?_
   iterate 14 refine qap ?_
   refine qbp ?_
   refine qbu ?_
   refine CJ_cond_true rfl ?_
   refine qae ?_
   refine ybraa ?_
   refine qak ?_
   refine qad ?_
   refine qbh ?_
   refine q_r (L' := L) (R' := R) (res2 rfl (rv_cell (row := [_, _, _, _, _]) tb rfl rfl rfl (by repeat (first | exact zi0 | apply zi1 | apply zi2)) (by rfl) (by rfl)) (rv_tmp (show _ = Value.int _ _ from rfl))) ?_
   have he : confirmE s c.l fl.l r p t = 19 := by rw [confirmE, if_neg hc0, if_neg (by omega), if_pos (by rw [BadPair]; omega)]
   exact ⟨by rw [confirm_err he (by omega), he], rfl, rfl⟩
  replace hg13 := qb hg13
  refine qal ?_
  refine qat ?_
  refine DJ_q (yv_lss rfl rfl) rfl rfl rfl ?_
  refine qbp ?_
  refine qb2 ?_
  refine DJ_case (k := 57) (show _ = Value.bool _ from rfl) (fun hg18 => ?_) (fun hg18 => ?_)
  ·
   replace hg18 := qb hg18
   iterate 4 refine qap ?_
   refine qbp ?_
   refine qb2 ?_
   iterate 14 refine qap ?_
   refine qbp ?_
   refine qbu ?_
   refine CJ_cond_true rfl ?_
   refine qae ?_
   refine ybraa ?_
   refine qak ?_
   refine qad ?_
   refine qbh ?_
   refine q_r (L' := L) (R' := R) (res2 rfl (rv_cell (row := [_, _, _, _, _]) tb rfl rfl rfl (by repeat (first | exact zi0 | apply zi1 | apply zi2)) (by rfl) (by rfl)) (rv_tmp (show _ = Value.int _ _ from rfl))) ?_
   have he : confirmE s c.l fl.l r p t = 19 := by rw [confirmE, if_neg hc0, if_neg (by omega), if_pos (by rw [BadPair]; omega)]
   exact ⟨by rw [confirm_err he (by omega), he], rfl, rfl⟩
  replace hg18 := qb hg18
  refine qal ?_
  refine qat ?_
  refine qao ?_
  refine DJ_q (yv_geq rfl rfl) rfl rfl rfl ?_
  refine qbp ?_
  refine qb2 ?_
  refine DJ_case (k := 63) (show _ = Value.bool _ from rfl) (fun hg24 => ?_) (fun hg24 => ?_)
  ·
   replace hg24 := qb hg24
   iterate 14 refine qap ?_
   refine qbp ?_
   refine qbu ?_
   refine CJ_cond_true rfl ?_
   refine qae ?_
   refine ybraa ?_
   refine qak ?_
   refine qad ?_
   refine qbh ?_
   refine q_r (L' := L) (R' := R) (res2 rfl (rv_cell (row := [_, _, _, _, _]) tb rfl rfl rfl (by repeat (first | exact zi0 | apply zi1 | apply zi2)) (by rfl) (by rfl)) (rv_tmp (show _ = Value.int _ _ from rfl))) ?_
   have he : confirmE s c.l fl.l r p t = 19 := by rw [confirmE, if_neg hc0, if_neg (by omega), if_pos (by rw [BadPair]; omega)]
   exact ⟨by rw [confirm_err he (by omega), he], rfl, rfl⟩
  replace hg24 := qb hg24
  have hpg := get_D (l := s.persons.l) (k := p.toNat) 0 (by omega)
  have hqg := get_D (l := s.persons.l) (k := r.first.toNat) 0 (by omega)
  refine qal ?_
  refine qat ?_
  refine qao ?_
  refine DJ_q (by first | exact yv_index_ro tb rfl rfl rfl rfl (by first | assumption | exact zr (by simp)) (i := p.toNat) (by first | rfl | omega | (simp; omega)) (by omega) | exact yv_index tb rfl rfl rfl rfl (i := p.toNat) (by first | rfl | omega | (simp; omega)) (by omega)) rfl rfl rfl ?_
  refine qce ?_
  refine qbl ?_
  refine qal ?_
  refine qat ?_
  refine qal ?_
  refine qat ?_
  refine DJ_q (by first | exact yv_index_ro tb rfl rfl rfl rfl (by first | assumption | exact zr (by simp)) (i := r.first.toNat) (by first | rfl | omega | (simp; omega)) (by omega) | exact yv_index tb rfl rfl rfl rfl (i := r.first.toNat) (by first | rfl | omega | (simp; omega)) (by omega)) rfl rfl rfl ?_
  refine qce ?_
  refine qbl ?_
  refine DJ_q (yv_eql rfl rfl) rfl rfl rfl ?_
  refine qbp ?_
  refine qbu ?_
  refine q_c (fun hc2 => ?_) (fun hc2 => ?_)
  ·
   refine qae ?_
   refine ybraa ?_
   refine qak ?_
   refine qad ?_
   refine qbh ?_
   refine q_r (L' := L) (R' := R) (res2 rfl (rv_cell (row := [_, _, _, _, _]) tb rfl rfl rfl (by repeat (first | exact zi0 | apply zi1 | apply zi2)) (by rfl) (by rfl)) (rv_tmp (show _ = Value.int _ _ from rfl))) ?_
   have he : confirmE s c.l fl.l r p t = 19 := by rw [confirmE, if_neg hc0, if_neg (by omega), if_pos (by rw [BadPair]; omega)]
   exact ⟨by rw [confirm_err he (by omega), he], rfl, rfl⟩
  have hbp : ¬ BadPair s r p := by rw [BadPair]; omega
  refine qbo ?_
  refine ybraa ?_
  refine qaa ?_
  refine q_l rfl (late_tri r t _ _ ht) ?_
  refine qaf ?_
  refine q_c (fun hc3 => ?_) (fun hc3 => ?_)
  ·
   refine qae ?_
   refine ybraa ?_
   refine qak ?_
   refine qad ?_
   refine qbh ?_
   refine q_r (L' := L) (R' := R) (res2 rfl (rv_cell (row := [_, _, _, _, _]) tb rfl rfl rfl (by repeat (first | exact zi0 | apply zi1 | apply zi2)) (by rfl) (by rfl)) (rv_tmp (show _ = Value.int _ _ from rfl))) ?_
   have he : confirmE s c.l fl.l r p t = 8 := by rw [confirmE, if_neg hc0, if_neg (by omega), if_neg hbp, if_pos (by simpa using hc3)]
   exact ⟨by rw [confirm_err he (by omega), he], rfl, rfl⟩
  have he : confirmE s c.l fl.l r p t = readyE s c.l fl.l r.zone t := by rw [confirmE, if_neg hc0, if_neg (by omega), if_neg hbp, if_neg (by simpa using hc3)]
  refine qbo ?_
  refine ybrab ?_
  refine qbm ?_
  refine qbm ?_
  refine qab ?_
  refine qac ?_
  refine qaa ?_
  refine q_l rfl (ready_tri s c fl r.zone t _ _ h hok hln ht) ?_
  refine qad ?_
  refine qam ?_
  refine qaa ?_
  refine qbq ?_
  refine qaf ?_
  refine q_c (fun hc4 => ?_) (fun hc4 => ?_)
  ·
   refine qae ?_
   refine ybraa ?_
   refine qaa ?_
   refine qak ?_
   refine qad ?_
   refine qbh ?_
   refine q_r (L' := L) (R' := R) (res2 rfl (rv_cell (row := [_, _, _, _, _]) tb rfl rfl rfl (by repeat (first | exact zi0 | apply zi1 | apply zi2)) (by rfl) (by rfl)) (rv_tmp (show _ = Value.int _ _ from rfl))) ?_
   exact ⟨by rw [confirm_err he hc4, he], rfl, rfl⟩
  refine qbv ?_
  refine ybraa ?_
  refine qaq ?_
  intro b17
  refine qak ?_
  refine qam ?_
  refine qaa ?_
  refine qaa ?_
  refine qab ?_
  refine qcn ?_
  refine qab ?_
  refine qcn ?_
  refine qab ?_
  refine qcn ?_
  refine qam ?_
  refine ybraa ?_
  refine qak ?_
  refine qad ?_
  refine qa0 ?_
  refine q_r (L' := L) (R' := R) (res2 rfl (rv_cell (row := [_, _, _, _, _]) tb rfl rfl rfl (by repeat (first | exact zi0 | apply zi1 | apply zi2)) (by rfl) (by rfl)) (rv_tmp (show _ = Value.int _ _ from rfl))) ?_
  exact ⟨by rw [confirmR, if_pos (by omega), he, show readyE s c.l fl.l r.zone t = 0 by omega], rfl, rfl⟩
end Go.Proofs.Ytkpfjmibipblhaa
end
