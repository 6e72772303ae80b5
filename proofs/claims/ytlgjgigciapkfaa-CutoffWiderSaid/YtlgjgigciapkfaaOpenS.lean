import Derived.Test.YtlgjgigciapkfaaLaw20a
import Derived.Test.YtlgjgigciapkfaaCutC
import Derived.Test.YtlgjgigciapkfaaCutP
import Derived.Test.YtlgjgigciapkfaaDrawS
import Derived.Test.YtlgjgigciapkfaaSiteS
import Derived.Test.YtlgjgigciapkfaaFed
section
/-
  Statements about chapter 20: the reasons of cuts. By an AI agent; no person has read it.
-/
set_option linter.unusedSimpArgs false
set_option linter.unusedVariables false
namespace Go.Proofs.Ytlgjgigciapkfaa
open Go.Aw Go
set_option maxRecDepth 20000
attribute [local irreducible] CJ LJ DJ Tri YV Gives seqK blockK loopK retK RV mergeK OwL.L
section
variable {A9 B9 : Prop}
theorem yb8aa (a : A9) (h : A9 → B9 := by exact DJ_q (yv_move (show _ = Value.slice _ _ _ from rfl)) rfl rfl rfl) : B9 := h a
theorem yb8ab (a : A9) (h : A9 → B9 := by exact DJ_q (by first | exact yv_index_ro tb rfl rfl rfl rfl (by first | assumption | exact zr (by simp)) (i := m) (by first | rfl | omega | (simp; omega)) (by omega) | exact yv_index tb rfl rfl rfl rfl (i := m) (by first | rfl | omega | (simp; omega)) (by omega)) rfl rfl rfl) : B9 := h a
end
theorem has01_tri (l : Arr Int) (n : Int) (L : List Blk) (R : List Sl) (hl : InR (isl l) R) :
    Tri Try.prog 37 [l.val, .int .i64 n].toArray L R (fun v L' R' => v = .bool (decide (n ∈ l.l)) ∧ L = L' ∧ R = R') := by
  refine Tri_len Try.call37 hl fun hln => ?_
  refine tri_enter 18 Try.call37 Try.func37 rfl rfl rfl ?_
  refine qae ?_
  refine qaz ?_
  refine qaw ?_
  refine qad ?_
  refine qa2 ?_
  refine CJ_forget [(0, Value.slice _ _ _), (1, Value.int _ _), (5, Value.int _ _)] (by repeat' (first | exact trivial | refine And.intro rfl ?_)) fun tq0 => ?_
  refine q_s [4, 5, 6, 7, 8, 9, 10, 11, 12, 13, 14, 15, 16, 17] (fun g : {k : Nat // k ≤ l.l.length ∧ ∀ j : Nat, j < k → l.l.getD j 0 ≠ n} => [(5, .int .i64 ((g.1 : Nat) : Int))]) (fun g => l.l.length - g.1) (⟨0, by omega, fun j hj => by omega⟩) ?_
  rintro ⟨k, hk, hal⟩ junk
  try dsimp only
  refine qbi ?_
  refine qaa ?_
  refine qbm ?_
  refine qag ?_
  refine qaj ?_
  refine qaf ?_
  refine q_c (fun hc0 => ?_) (fun hc0 => ?_)
  ·
   have hlg := get_D (l := l.l) (k := k) 0 (by omega)
   refine qbb ?_
   refine qbm ?_
   refine qaa ?_
   refine LJ_q (by first | exact yv_index_ro tb rfl rfl rfl rfl (by first | assumption | exact zr (by simp)) (i := k) (by first | rfl | omega | (simp; omega)) (by omega) | exact yv_index tb rfl rfl rfl rfl (i := k) (by first | rfl | omega | (simp; omega)) (by omega)) rfl ?_
   refine qa7 ?_
   refine qaa ?_
   refine qbn ?_
   refine qaf ?_
   refine q_c (fun hc1 => ?_) (fun hc1 => ?_)
   ·
    refine qae ?_
    refine qaz ?_
    refine qbt ?_
    refine q_b (L' := L) (R' := R) ?_
    exact ⟨by rw [decide_eq_true (by rw [← hc1]; exact List.mem_of_getElem? hlg)], rfl, rfl⟩
   refine qbj ?_
   refine qaa ?_
   refine qar ?_
   refine qad ?_
   refine qav ?_
   exact loopK_mk (⟨k + 1, by omega, fun j hj => by
   rcases Nat.lt_or_ge j k with h | h
   · exact hal j h
   · obtain rfl : j = k := by omega
     exact hc1⟩) (by repeat (first | exact Off.refl | apply Off.upd rfl | apply Off.havoc rfl | apply Off.updL rfl | apply Off.left rfl)) (by repeat' (first | exact trivial | refine And.intro rfl ?_)) (by repeat (first | exact zs0 _ | exact zs1 _ | apply zs2 | apply zs3 | apply zs4 | apply zs5)) (allR_self _) (by dsimp only; omega)
  refine qbk ?_
  refine qaz ?_
  refine qa0 ?_
  refine q_b (L' := L) (R' := R) ?_
  exact ⟨by
  rw [decide_eq_false]
  intro hm
  obtain ⟨j, hj⟩ := List.mem_iff_getElem?.1 hm
  have hjl := (List.getElem?_eq_some_iff.1 hj).1
  exact hal j (by omega) (getD_some hj), rfl, rfl⟩
theorem cut_facts {v t : Int} {c : XCut} {b : Bool} (ht : 9 ≤ t) (hc : c.clear ≤ 9) (hb : b = true ↔ v ≠ -1 ∧ c.off = false) :
    (b = true → (cutV v c t).reason = v ∧ v ≠ -1) ∧ (b = false → (cutV v c t).reason = c.reason) ∧ (cutV v c t).clear ≤ t ∧ ((cutV v c t).clear = -1 ↔ v ≠ -1) ∧ (v = -1 → 0 ≤ c.clear → (cutV v c t).clear = c.clear) := by
  rw [cutV]
  cases b
  · have h1 : ¬ (v ≠ -1 ∧ c.off = false) := fun h => by simpa using hb.2 h
    split
    · split
      · refine ⟨fun h => (by cases h), fun _ => rfl, ?_, ?_, ?_⟩ <;> (first | omega | (dsimp only; omega))
      · refine ⟨fun h => (by cases h), fun _ => rfl, ?_, ?_, ?_⟩ <;> (first | omega | (dsimp only; omega))
    · rename_i h2
      split
      · refine ⟨fun h => (by cases h), fun _ => rfl, ?_, ?_, ?_⟩ <;> (first | omega | (dsimp only; omega))
      · rename_i h3
        exact absurd ⟨h2, by simpa using h3⟩ h1
  · have h1 := hb.1 rfl
    rw [if_neg h1.1, if_neg (by rw [h1.2]; decide)]
    refine ⟨fun _ => ⟨rfl, h1.1⟩, fun h => (by cases h), ?_, ?_, ?_⟩ <;> (first | omega | (dsimp only; omega))

set_option maxHeartbeats 4000000 in
theorem cutoffReasons_law (y : Arr Int) (t : Int) (R : List Sl) (hy : CodesR y R) (ht : 0 ≤ t ∧ t ≤ 255) :
    Tri Try.prog 9 [y.val, .int .u8 t].toArray [] R (fun v L' R' => v = .bool true ∧ [] = L' ∧ R = R') := by
  refine tri_enter 173 Try.call9 Try.func9 rfl rfl rfl ?_
  refine qae ?_
  refine qaz ?_
  refine qam ?_
  refine qbm ?_
  refine LJ_call rfl (new_tri y _ _ hy) rfl ?_
  rintro v L' R' ⟨c, rfl, hx, rfl, rfl⟩
  refine qc1 ?_
  refine qam ?_
  refine qa6 ?_
  refine LJ_call rfl (drawSite_tri c (codes300 y) 0 _ hx (Nat.zero_le _)) rfl ?_
  rintro v L' R' ⟨s, u, z, k1, rfl, hD, hk1, ⟨hs, hu, hz, hR0⟩, rfl⟩
  refine LJ_q (yv_move rfl) rfl ?_
  iterate 3 refine qbs ?_
  refine qaq ?_
  intro b6
  refine qaq ?_
  intro b7
  refine qaq ?_
  intro b8
  iterate 3 refine qak ?_
  refine qa4 ?_
  have hRR : ∀ r ∈ R, InR r R' := fun r hr => hR0 r (.tail _ hr)
  have hx1 := hx.mono hR0
  have hcR := hs.conds
  have hzR := hs.zones
  have hn1 := hD.ncond
  have hn2 := hD.nzone
  refine CJ_weak (L' := ⟨b6, s.cells, 36⟩ :: cblk c (codes300 y) k1 :: []) (R' := R') (.cons _ (.cons _ (List.Sublist.refl _))) (allR_self _) ?_
  refine qay ?_
  refine qc4 ?_
  refine qaw ?_
  refine qab ?_
  refine qac ?_
  refine qag ?_
  refine qaa ?_
  refine qa2 ?_
  refine CJ_forget [(1, Value.int _ _), (5, Value.pointer _), (6, Value.pointer _), (9, Value.slice _ _ _), (29, Value.int _ _), (30, Value.int _ _)] (by repeat' (first | exact trivial | refine And.intro rfl ?_)) fun tq0 => ?_
  refine CJ_loop [9, 30, 31, 32, 33, 34, 35, 36, 37] ((⟨fun g => [(30, .int .i64 ((g.1.2.1 : Nat) : Int)), (9, g.1.2.2.val)], fun g => g.1.2.2.L 3 icell ++ (⟨b6, s.cells, 36⟩ :: cblk c (codes300 y) g.1.1 :: []), fun _ => R', fun g => s.conds.l.length - g.1.2.1⟩ : Head {g : Nat × Nat × OwL Int // g.1 ≤ (codes300 y).l.length ∧ g.2.1 ≤ s.conds.l.length ∧ g.2.2.ok 1 icell ∧ g.2.2.l.length = g.2.1})) (⟨(k1, 0, OwL.nil), hk1, by dsimp only; omega, OwL.nil_ok, rfl⟩) (by repeat' (first | exact trivial | refine And.intro rfl ?_)) (by dsimp only; rw [nil_L, List.nil_append]; exact List.Sublist.refl _) (allR_self _) ?_
  rintro ⟨⟨k2, i, p⟩, hk2, hi, hpk, hpn⟩ junk
  try dsimp only
  dsimp only at hk2 hi hpk hpn
  refine qae ?_
  refine qaj ?_
  refine qa4 ?_
  refine q_c (fun hc0 => ?_) (fun hc0 => ?_)
  ·
   refine CJ_skip (seqK_normal (CJ_seq (CJ_block (CJ_region ?_))))
   refine qbm ?_
   refine qa6 ?_
   refine LJ_call rfl (truth1 (by repeat (first | apply USeg.here | apply USeg.cons | apply USeg.app)) hx1 hk2) rfl ?_
   rintro v L' R' ⟨r, k3, rfl, hr, hk3, rfl, rfl⟩
   refine qcx ?_
   rintro v L' R' ⟨b35, rfl, rfl, hR35⟩
   replace hR35 := hR35.symm; subst hR35
   refine LJ_g (gives_append1 (f := icell) (p := p) (a := r) tb rfl rfl rfl rfl (hpk) (by repeat (first | apply OSeg.cons | exact OSeg.here | exact OSeg.last | exact OSeg.at (by assumption) | apply OSeg.app)) (shown_own (by repeat (first | exact zi0 | apply zi1 | apply zi2)) rfl rfl) rfl (by first | omega | (simp only [List.length_cons, List.length_nil, List.length_append]; omega))) rfl ?_
   rintro v L' R' ⟨o36, rfl, hok36, rfl, rfl⟩
   refine qc4 ?_
   refine qcs ?_
   refine qar ?_
   refine qaa ?_
   refine qav ?_
   exact q_k ⟨(k3, i + 1, (⟨o36, _⟩ : OwL Int)), hk3, by dsimp only; omega, hok36, by dsimp only; simp only [List.length_append, List.length_cons, List.length_nil]; omega⟩
  obtain rfl : i = s.conds.l.length := by omega
  refine qbk ?_
  refine qc4 ?_
  refine qco ?_
  refine CJ_frz1 (A := []) (wd := 1) [] (fun _ => rfl) (by decide) hpk (fun s hs => by cases hs) ?_
  refine CJ_L (by simp only [List.nil_append]; rfl) ?_
  obtain ⟨R2, hR2e⟩ : ∃ R2, R2 = isl p.arr :: R' := ⟨_, rfl⟩
  have hR2 : ∀ r ∈ R', InR r R2 := fun r hr => inR_self (by simp [hR2e, hr])
  have hpR : InR (isl p.arr) R2 := inR_self (by rw [hR2e]; exact .head _)
  have hs2 := hs.mono hR2
  have hzR2 := hs2.zones
  have hx2 := hx1.mono hR2
  refine CJ_R (show _ = R2 by rw [hR2e]) ?_
  refine qay ?_
  refine qab ?_
  refine qac ?_
  refine qag ?_
  refine qaa ?_
  refine qa2 ?_
  refine CJ_forget [(1, Value.int _ _), (5, Value.pointer _), (6, Value.pointer _), (9, Value.slice _ _ _), (10, Value.slice _ _ _), (40, Value.int _ _), (41, Value.int _ _)] (by repeat' (first | exact trivial | refine And.intro rfl ?_)) fun tq1 => ?_
  refine CJ_loop [10, 11, 41, 42, 43, 44, 45, 46, 47, 48, 49, 50, 51, 52, 53, 54, 55, 56, 57] ((⟨fun g => [(41, .int .i64 ((g.1.2.1 : Nat) : Int)), (10, g.1.2.2.val)], fun g => g.1.2.2.L 72 XCut.cells ++ (⟨b6, s.cells, 36⟩ :: cblk c (codes300 y) g.1.1 :: []), fun _ => R2, fun g => s.zones.l.length - g.1.2.1⟩ : Head {g : Nat × Nat × OwL XCut // g.1 ≤ (codes300 y).l.length ∧ g.2.1 ≤ s.zones.l.length ∧ g.2.2.ok 3 XCut.cells ∧ g.2.2.l.length = g.2.1 ∧ ∀ x ∈ g.2.2.l, x.clear ≤ 9})) (⟨(k2, 0, OwL.nil), hk2, by dsimp only; omega, OwL.nil_ok, rfl, fun x hx => by cases hx⟩) (by repeat' (first | exact trivial | refine And.intro rfl ?_)) (by dsimp only; rw [nil_L, List.nil_append]; exact List.Sublist.refl _) (allR_self _) ?_
  rintro ⟨⟨k4, j, q⟩, hk4, hj, hqk, hqn, hqc⟩ junk
  try dsimp only
  dsimp only at hk4 hj hqk hqn hqc
  refine qae ?_
  refine qaj ?_
  refine qa4 ?_
  refine q_c (fun hc1 => ?_) (fun hc1 => ?_)
  ·
   refine qbb ?_
   refine qa6 ?_
   refine LJ_call rfl (one1 (by repeat (first | apply USeg.here | apply USeg.cons | apply USeg.app)) hx2 hk4 (by omega)) rfl ?_
   rintro v L' R' ⟨bo, k5, rfl, hk5, rfl, rfl⟩
   refine qa6 ?_
   refine LJ_call rfl (range1 (by repeat (first | apply USeg.here | apply USeg.cons | apply USeg.app)) hx2 hk5 (by omega)) rfl ?_
   rintro v L' R' ⟨r1, k6, rfl, g1, g1', hk6, rfl, rfl⟩
   refine LJ_q (yv_build (qs := [(0, (Value.bool _).cells.toList), (1, (Value.int _ _).cells.toList)]) (out := [_, _, _]) tb rfl rfl rfl rfl) rfl ?_
   refine qaq ?_
   intro b11
   refine qak ?_
   refine qaw ?_
   refine qab ?_
   refine qac ?_
   refine qaf ?_
   refine CJ_joinS [50, 51, 52] ((⟨fun _ => [], fun g => ⟨b11, XCut.cells ⟨bo, r1, g.1.1⟩, 72⟩ :: (q.L 72 XCut.cells ++ (⟨b6, s.cells, 36⟩ :: cblk c (codes300 y) g.1.2 :: [])), fun _ => R2, fun _ => 0⟩ : Head {g : Int × Nat // g.2 ≤ (codes300 y).l.length})) ?_ ?_
   ·
    skip
    refine q_c (fun hc2 => ?_) (fun hc2 => ?_)
    ·
     refine qay ?_
     refine qa6 ?_
     refine LJ_call rfl (next1 (by repeat (first | apply USeg.here | apply USeg.cons | apply USeg.app)) hx2 hk6 (by omega)) rfl ?_
     rintro v L' R' ⟨r2, k7, rfl, g2, g2', g2'', hk7, rfl, rfl⟩
     refine qab ?_
     refine qcn ?_
     refine qav ?_
     exact q_j ⟨(r2, k7), hk7⟩
    refine CJ_skip ?_
    exact q_j ⟨(0, k6), hk6⟩
   rintro ⟨⟨rs, k8⟩, hk8⟩ junk
   try dsimp only
   dsimp only at hk8
   refine qay ?_
   refine qbm ?_
   refine LJ_q (yv_loadN (row := [_, _, _]) tb rfl rfl rfl (by repeat (first | exact zi0 | apply zi1 | apply zi2)) (by rfl) (by rfl)) rfl ?_
   refine LJ_g (gives_buildSlice (qs := [(0, (Value.agg _).cells.toList)]) (out := [_, _, _]) tb rfl rfl rfl rfl rfl rfl rfl) rfl ?_
   rintro v L' R' ⟨b55, rfl, rfl, hR55⟩
   replace hR55 := hR55.symm; subst hR55
   refine LJ_g (gives_append1 (f := XCut.cells) (p := q) (a := ⟨bo, r1, rs⟩) tb rfl rfl rfl rfl (hqk) (by repeat (first | apply OSeg.cons | exact OSeg.here | exact OSeg.last | exact OSeg.at (by assumption) | apply OSeg.app)) (shown_own (by repeat (first | exact zi0 | apply zi1 | apply zi2)) rfl rfl) rfl (by first | omega | (simp only [List.length_cons, List.length_nil, List.length_append]; omega))) rfl ?_
   rintro v L' R' ⟨o56, rfl, hok56, rfl, rfl⟩
   refine qc4 ?_
   refine qcs ?_
   refine qar ?_
   refine qaa ?_
   refine qav ?_
   exact q_k ⟨(k8, j + 1, (⟨o56, _⟩ : OwL XCut)), hk8, by dsimp only; omega, hok56, by dsimp only; simp only [List.length_append, List.length_cons, List.length_nil]; omega, fun x hx => by rcases List.mem_append.1 hx with h | h; exact hqc x h; rw [List.mem_singleton.1 h]; exact g1'⟩
  obtain rfl : j = s.zones.l.length := by omega
  refine qbk ?_
  refine qaa ?_
  refine qdg ?_
  refine qar ?_
  refine qad ?_
  refine qa4 ?_
  refine CJ_frz1 (A := []) (wd := 3) [] (fun _ => rfl) (by decide) hqk (fun s hs => by cases hs) ?_
  refine CJ_L (by simp only [List.nil_append]; rfl) ?_
  obtain ⟨R3, hR3e⟩ : ∃ R3, R3 = cusl q.arr :: R2 := ⟨_, rfl⟩
  have hR3 : ∀ r ∈ R2, InR r R3 := fun r hr => inR_self (by simp [hR3e, hr])
  have hqR : InR (cusl q.arr) R3 := inR_self (by rw [hR3e]; exact .head _)
  have hs3 := hs2.mono hR3
  have hzR3 := hs3.zones
  have hpR3 := hpR.mono hR3
  have hce : cutsErr s p.l q.l (9 + t) = 0 := by rw [cutsErr, hD.ok.err, if_neg (by decide), if_neg (fun h => h ⟨hpn, hqn⟩), if_neg (by omega)]
  refine CJ_R (show _ = R3 by rw [hR3e]) ?_
  refine qay ?_
  refine LJ_q (yv_loadN (row := [_, _, _, _, _, _, _, _]) tb rfl rfl rfl (by repeat (first | exact zi0 | apply zi1 | apply zi2)) (by rfl) (by rfl)) rfl ?_
  refine qbm ?_
  refine qbm ?_
  refine qaa ?_
  refine LJ_call rfl (cuts_tri s p.arr q.arr (9 + t) _ _ hs3 hpR3 hqR) rfl ?_
  rintro v L' R' ⟨w, n, rfl, ⟨hwk, hnk⟩, hwl, hnl, rfl, rfl⟩
  dsimp only [OwL.arr] at hwl hnl ⊢
  rw [hce]
  rw [cutsC, if_neg (by rw [hce]; decide)] at hwl
  rw [cutsN, if_neg (by rw [hce]; decide)] at hnl
  have hwn : w.l.length = q.l.length := by rw [hwl]; simp
  refine LJ_q (yv_move rfl) rfl ?_
  iterate 3 refine qbs ?_
  refine qc4 ?_
  refine qc4 ?_
  refine qad ?_
  refine qaw ?_
  refine qaa ?_
  refine qbq ?_
  refine qah ?_
  apply LJ_or (G := [_, _, _, _, _]) (j := 2) (cj := 72) rfl rfl (by rfl) rfl (show _ = Value.bool _ from rfl) rfl
  ·
   intro hg3
   replace hg3 := qb hg3
   refine qbm ?_
   refine qag ?_
   refine qbm ?_
   refine qag ?_
   refine qbq ?_
   exact qai
  intro junk3
  refine qaf ?_
  refine q_c (fun hc3 => ?_) (fun hc3 => ?_)
  ·
   (exfalso; simp at hc3; omega)
  refine CJ_skip (seqK_normal (CJ_seq (CJ_seq ?_)))
  refine CJ_frz1 (A := []) (wd := 1) [] (fun _ => rfl) (by decide) hnk (fun s hs => by cases hs) ?_
  refine CJ_L (by simp only [List.nil_append]; rfl) ?_
  refine CJ_frz1 (A := []) (wd := 3) [] (fun _ => rfl) (by decide) hwk (fun s hs => by cases hs) ?_
  refine CJ_L (by simp only [List.nil_append]; rfl) ?_
  obtain ⟨R4, hR4e⟩ : ∃ R4, R4 = cusl w.arr :: isl n.arr :: R3 := ⟨_, rfl⟩
  have hR4 : ∀ r ∈ R3, InR r R4 := fun r hr => inR_self (by simp [hR4e, hr])
  have hwR : InR (cusl w.arr) R4 := inR_self (by rw [hR4e]; exact .head _)
  have hnR : InR (isl n.arr) R4 := inR_self (by rw [hR4e]; exact .tail _ (.head _))
  have hzR4 := hzR3.mono hR4
  have hpR4 := hpR3.mono hR4
  have hqR4 := hqR.mono hR4
  have fin : ∀ r ∈ R, InR r R4 := fun r hr => (((hRR r hr).mono hR2).mono hR3).mono hR4
  refine CJ_R (show _ = R4 by rw [hR4e]) ?_
  refine qay ?_
  refine qab ?_
  refine qac ?_
  refine qag ?_
  refine qaa ?_
  refine qa2 ?_
  refine CJ_forget [(9, Value.slice _ _ _), (10, Value.slice _ _ _), (12, Value.int _ _), (13, Value.slice _ _ _), (14, Value.slice _ _ _), (80, Value.slice _ _ _), (81, Value.int _ _), (82, Value.int _ _)] (by repeat' (first | exact trivial | refine And.intro rfl ?_)) fun tq2 => ?_
  refine q_s [4, 16, 17, 18, 82, 83, 84, 85, 86, 87, 88, 89, 90, 91, 92, 93, 94, 95, 96, 97, 98, 99, 100, 101, 102, 103, 104, 105, 106, 107, 108, 109, 110, 111, 112, 113, 114, 115, 116, 117, 118, 119, 120, 121, 122, 123, 124, 125, 126, 127, 128, 129, 130, 131, 132, 133, 134, 135, 136, 137, 138, 139, 140, 141, 142, 143, 144, 145, 146, 147, 148, 149, 150, 151, 152, 153, 154, 155, 156, 157, 158, 159, 160, 161, 162, 163, 164, 165, 166, 167, 168, 169, 170, 171] (fun g : {i : Nat // i ≤ s.zones.l.length} => [(82, .int .i64 ((g.1 : Nat) : Int))]) (fun g => s.zones.l.length - g.1) (⟨0, by omega⟩) ?_
  rintro ⟨m, hm⟩ junk
  try dsimp only
  refine qae ?_
  refine qaj ?_
  refine qa4 ?_
  refine q_c (fun hc4 => ?_) (fun hc4 => ?_)
  ·
   have hzg := get_D (l := s.zones.l) (k := m) default (by omega)
   have hqg := get_D (l := q.l) (k := m) default (by omega)
   have hwg := get_D (l := w.l) (k := m) default (by omega)
   have hwv : w.l.getD m default = cutV (evalS (s.zones.l.getD m default).rule.l p.l) (q.l.getD m default) (9 + t) := by
     rw [hwl, List.getD_eq_getElem?_getD, List.getElem?_map, List.getElem?_range (by omega)]; rfl
   have hF := cut_facts (v := evalS (s.zones.l.getD m default).rule.l p.l) (t := 9 + t) (c := q.l.getD m default) (b := decide ((m : Int) ∈ n.l)) (by omega) (hqc _ (List.mem_of_getElem? hqg)) (by
     rw [decide_eq_true_iff, hnl, nowTo_mem]
     constructor
     · rintro ⟨k, k0, k1, k2⟩
       obtain rfl : m = k := by omega
       exact k2
     · exact fun h => ⟨m, by omega, rfl, h⟩)
   rw [← hwv] at hF
   obtain ⟨f1, f2, f3, f4, f5⟩ := hF
   rw [decide_eq_true_iff] at f1
   rw [decide_eq_false_iff_not] at f2
   generalize w.l.getD m default = cw at *
   generalize q.l.getD m default = cq at *
   generalize hzz : s.zones.l.getD m default = zz at *
   refine qbb ?_
   refine qaa ?_
   refine LJ_q (by first | exact yv_index_ro tb rfl rfl rfl rfl (by first | assumption | exact zr (by simp)) (i := m) (by first | rfl | omega | (simp; omega)) (by omega) | exact yv_index tb rfl rfl rfl rfl (i := m) (by first | rfl | omega | (simp; omega)) (by omega)) rfl ?_
   refine qdr ?_
   refine qaq ?_
   intro b17
   refine qad ?_
   refine qak ?_
   refine qam ?_
   refine qab ?_
   refine qac ?_
   refine qbm ?_
   refine q_l rfl (refEval_tri zz.rule p.arr _ _ (InR.rule hzR4 hzg) hpR4) ?_
   dsimp only [OwL.arr]
   generalize evalS zz.rule.l p.l = v0 at *
   refine qad ?_
   refine qa4 ?_
   refine CJ_drawn tb [0, 1, 2, 3, 4, 5, 6, 7, 8, 9, 10, 11, 12, 13, 14, 15, 16, 17, 18, 19, 20, 21, 22, 23, 24, 25, 26, 27, 28, 29, 30, 31, 32, 33, 34, 35, 36, 37, 38, 39, 40, 41, 42, 43, 44, 45, 46, 47, 48, 49, 50, 51, 52, 53, 54, 55, 56, 57, 58, 59, 60, 61, 62, 63, 64, 65, 66, 67, 68, 69, 70, 71, 72, 73, 74, 75, 76, 77, 78, 79] _ mixed (by kernel_rfl) (List.Sublist.refl _) ?_
   refine yb8aa ?_
   refine qao ?_
   refine q_d rfl (has01_tri n.arr (m : Int) _ _ hnR) ?_
   refine qb2 ?_
   refine DJ_case (k := 94) (show _ = Value.bool _ from rfl) (fun hg3 => ?_) (fun hg3 => ?_)
   ·
    replace hg3 := qb hg3
    refine yb8aa ?_
    refine qao ?_
    refine yb8ab ?_
    refine qce ?_
    refine qbl ?_
    refine qao ?_
    refine DJ_q (yv_neq rfl rfl) rfl rfl rfl ?_
    refine qb2 ?_
    refine DJ_case (k := 102) (show _ = Value.bool _ from rfl) (fun hg11 => ?_) (fun hg11 => ?_)
    ·
     replace hg11 := qb hg11
     exact absurd (f1 hg3).1 hg11
    replace hg11 := qb hg11
    refine qao ?_
    refine DJ_q (yv_eql rfl rfl) rfl rfl rfl ?_
    refine qbp ?_
    refine qbp ?_
    refine qb2 ?_
    refine DJ_case (k := 107) (show _ = Value.bool _ from rfl) (fun hg16 => ?_) (fun hg16 => ?_)
    ·
     replace hg16 := qb hg16
     (exfalso; first | exact absurd hg16 (f1 hg3).2 | exact absurd hg16 (by decide))
    replace hg16 := qb hg16
    refine yb8aa ?_
    refine qao ?_
    refine q_d rfl (has01_tri n.arr (m : Int) _ _ hnR) ?_
    refine DJ_q (yv_not rfl) rfl rfl rfl ?_
    refine qb2 ?_
    refine DJ_case (k := 112) (show _ = Value.bool _ from rfl) (fun hg21 => ?_) (fun hg21 => ?_)
    ·
     replace hg21 := qb hg21
     refine yb8aa ?_
     refine qao ?_
     refine yb8ab ?_
     refine qce ?_
     refine qbl ?_
     refine yb8aa ?_
     refine qao ?_
     refine yb8ab ?_
     refine qce ?_
     refine qbl ?_
     refine DJ_q (yv_neq rfl rfl) rfl rfl rfl ?_
     refine qbp ?_
     refine qbp ?_
     refine qb2 ?_
     refine DJ_case (k := 126) (show _ = Value.bool _ from rfl) (fun hg35 => ?_) (fun hg35 => ?_)
     ·
      replace hg35 := qb hg35
      (exfalso; first | exact absurd (f2 hg21) hg35 | exact absurd hg35 (by decide))
     replace hg35 := qb hg35
     refine yb8aa ?_
     refine qao ?_
     refine yb8ab ?_
     refine qce ?_
     refine qbl ?_
     refine qao ?_
     refine DJ_q (yv_gtr rfl rfl) rfl rfl rfl ?_
     refine qbp ?_
     refine qb2 ?_
     refine DJ_case (k := 135) (show _ = Value.bool _ from rfl) (fun hg44 => ?_) (fun hg44 => ?_)
     ·
      replace hg44 := qb hg44
      (exfalso; omega)
     replace hg44 := qb hg44
     refine yb8aa ?_
     refine qao ?_
     refine yb8ab ?_
     refine qce ?_
     refine qbl ?_
     refine DJ_q (yv_eql rfl rfl) rfl rfl rfl ?_
     refine qao ?_
     refine DJ_q (yv_neq rfl rfl) rfl rfl rfl ?_
     refine DJ_q (yv_neq_bool tb rfl rfl rfl) rfl rfl rfl ?_
     refine qbp ?_
     refine qb2 ?_
     refine DJ_case (k := 146) (show _ = Value.bool _ from rfl) (fun hg55 => ?_) (fun hg55 => ?_)
     ·
      replace hg55 := qb hg55
      exact absurd (decide_eq_decide.2 f4) hg55
     replace hg55 := qb hg55
     refine qao ?_
     refine DJ_q (yv_eql rfl rfl) rfl rfl rfl ?_
     refine qb2 ?_
     refine DJ_case (k := 149) (show _ = Value.bool _ from rfl) (fun hg58 => ?_) (fun hg58 => ?_)
     ·
      replace hg58 := qb hg58
      refine yb8aa ?_
      refine qao ?_
      refine yb8ab ?_
      refine qce ?_
      refine qbl ?_
      refine DJ_q (yv_geq rfl rfl) rfl rfl rfl ?_
      refine qbp ?_
      refine qb2 ?_
      refine DJ_case (k := 157) (show _ = Value.bool _ from rfl) (fun hg66 => ?_) (fun hg66 => ?_)
      ·
       replace hg66 := qb hg66
       refine yb8aa ?_
       refine qao ?_
       refine yb8ab ?_
       refine qce ?_
       refine qbl ?_
       refine yb8aa ?_
       refine qao ?_
       refine yb8ab ?_
       refine qce ?_
       refine qbl ?_
       refine DJ_q (yv_neq rfl rfl) rfl rfl rfl ?_
       refine qbp ?_
       refine qbp ?_
       refine qbu ?_
       refine q_c (fun hc5 => ?_) (fun hc5 => ?_)
       ·
        (exfalso; first | exact hc5 (f5 (by omega) (by omega)) | omega | exact absurd hg66 (by decide) | exact absurd hc5 (by decide))
       refine qbj ?_
       refine qar ?_
       refine qaa ?_
       refine qav ?_
       exact q_k (⟨m + 1, by omega⟩)
      replace hg66 := qb hg66
      iterate 11 refine qap ?_
      refine qbp ?_
      refine qbp ?_
      refine qbu ?_
      refine CJ_cond_false rfl ?_
      refine qbj ?_
      refine qar ?_
      refine qaa ?_
      refine qav ?_
      exact q_k (⟨m + 1, by omega⟩)
     replace hg58 := qb hg58
     iterate 6 refine qap ?_
     refine qbp ?_
     refine qb2 ?_
     refine DJ_case (k := 157) (show _ = Value.bool _ from rfl) (fun hg66 => ?_) (fun hg66 => ?_)
     ·
      replace hg66 := qb hg66
      refine yb8aa ?_
      refine qao ?_
      refine yb8ab ?_
      refine qce ?_
      refine qbl ?_
      refine yb8aa ?_
      refine qao ?_
      refine yb8ab ?_
      refine qce ?_
      refine qbl ?_
      refine DJ_q (yv_neq rfl rfl) rfl rfl rfl ?_
      refine qbp ?_
      refine qbp ?_
      refine qbu ?_
      refine q_c (fun hc5 => ?_) (fun hc5 => ?_)
      ·
       (exfalso; first | exact hc5 (f5 (by omega) (by omega)) | omega | exact absurd hg66 (by decide) | exact absurd hc5 (by decide))
      refine qbj ?_
      refine qar ?_
      refine qaa ?_
      refine qav ?_
      exact q_k (⟨m + 1, by omega⟩)
     replace hg66 := qb hg66
     iterate 11 refine qap ?_
     refine qbp ?_
     refine qbp ?_
     refine qbu ?_
     refine CJ_cond_false rfl ?_
     refine qbj ?_
     refine qar ?_
     refine qaa ?_
     refine qav ?_
     exact q_k (⟨m + 1, by omega⟩)
    replace hg21 := qb hg21
    iterate 11 refine qap ?_
    refine qbp ?_
    refine qbp ?_
    refine qb2 ?_
    refine DJ_case (k := 126) (show _ = Value.bool _ from rfl) (fun hg35 => ?_) (fun hg35 => ?_)
    ·
     replace hg35 := qb hg35
     (exfalso; first | exact absurd (f2 hg21) hg35 | exact absurd hg35 (by decide))
    replace hg35 := qb hg35
    refine yb8aa ?_
    refine qao ?_
    refine yb8ab ?_
    refine qce ?_
    refine qbl ?_
    refine qao ?_
    refine DJ_q (yv_gtr rfl rfl) rfl rfl rfl ?_
    refine qbp ?_
    refine qb2 ?_
    refine DJ_case (k := 135) (show _ = Value.bool _ from rfl) (fun hg44 => ?_) (fun hg44 => ?_)
    ·
     replace hg44 := qb hg44
     (exfalso; omega)
    replace hg44 := qb hg44
    refine yb8aa ?_
    refine qao ?_
    refine yb8ab ?_
    refine qce ?_
    refine qbl ?_
    refine DJ_q (yv_eql rfl rfl) rfl rfl rfl ?_
    refine qao ?_
    refine DJ_q (yv_neq rfl rfl) rfl rfl rfl ?_
    refine DJ_q (yv_neq_bool tb rfl rfl rfl) rfl rfl rfl ?_
    refine qbp ?_
    refine qb2 ?_
    refine DJ_case (k := 146) (show _ = Value.bool _ from rfl) (fun hg55 => ?_) (fun hg55 => ?_)
    ·
     replace hg55 := qb hg55
     exact absurd (decide_eq_decide.2 f4) hg55
    replace hg55 := qb hg55
    refine qao ?_
    refine DJ_q (yv_eql rfl rfl) rfl rfl rfl ?_
    refine qb2 ?_
    refine DJ_case (k := 149) (show _ = Value.bool _ from rfl) (fun hg58 => ?_) (fun hg58 => ?_)
    ·
     replace hg58 := qb hg58
     refine yb8aa ?_
     refine qao ?_
     refine yb8ab ?_
     refine qce ?_
     refine qbl ?_
     refine DJ_q (yv_geq rfl rfl) rfl rfl rfl ?_
     refine qbp ?_
     refine qb2 ?_
     refine DJ_case (k := 157) (show _ = Value.bool _ from rfl) (fun hg66 => ?_) (fun hg66 => ?_)
     ·
      replace hg66 := qb hg66
      refine yb8aa ?_
      refine qao ?_
      refine yb8ab ?_
      refine qce ?_
      refine qbl ?_
      refine yb8aa ?_
      refine qao ?_
      refine yb8ab ?_
      refine qce ?_
      refine qbl ?_
      refine DJ_q (yv_neq rfl rfl) rfl rfl rfl ?_
      refine qbp ?_
      refine qbp ?_
      refine qbu ?_
      refine q_c (fun hc5 => ?_) (fun hc5 => ?_)
      ·
       (exfalso; first | exact hc5 (f5 (by omega) (by omega)) | omega | exact absurd hg66 (by decide) | exact absurd hc5 (by decide))
      refine qbj ?_
      refine qar ?_
      refine qaa ?_
      refine qav ?_
      exact q_k (⟨m + 1, by omega⟩)
     replace hg66 := qb hg66
     iterate 11 refine qap ?_
     refine qbp ?_
     refine qbp ?_
     refine qbu ?_
     refine CJ_cond_false rfl ?_
     refine qbj ?_
     refine qar ?_
     refine qaa ?_
     refine qav ?_
     exact q_k (⟨m + 1, by omega⟩)
    replace hg58 := qb hg58
    iterate 6 refine qap ?_
    refine qbp ?_
    refine qb2 ?_
    refine DJ_case (k := 157) (show _ = Value.bool _ from rfl) (fun hg66 => ?_) (fun hg66 => ?_)
    ·
     replace hg66 := qb hg66
     refine yb8aa ?_
     refine qao ?_
     refine yb8ab ?_
     refine qce ?_
     refine qbl ?_
     refine yb8aa ?_
     refine qao ?_
     refine yb8ab ?_
     refine qce ?_
     refine qbl ?_
     refine DJ_q (yv_neq rfl rfl) rfl rfl rfl ?_
     refine qbp ?_
     refine qbp ?_
     refine qbu ?_
     refine q_c (fun hc5 => ?_) (fun hc5 => ?_)
     ·
      (exfalso; first | exact hc5 (f5 (by omega) (by omega)) | omega | exact absurd hg66 (by decide) | exact absurd hc5 (by decide))
     refine qbj ?_
     refine qar ?_
     refine qaa ?_
     refine qav ?_
     exact q_k (⟨m + 1, by omega⟩)
    replace hg66 := qb hg66
    iterate 11 refine qap ?_
    refine qbp ?_
    refine qbp ?_
    refine qbu ?_
    refine CJ_cond_false rfl ?_
    refine qbj ?_
    refine qar ?_
    refine qaa ?_
    refine qav ?_
    exact q_k (⟨m + 1, by omega⟩)
   replace hg3 := qb hg3
   iterate 11 refine qap ?_
   refine qbp ?_
   refine qb2 ?_
   refine DJ_case (k := 107) (show _ = Value.bool _ from rfl) (fun hg16 => ?_) (fun hg16 => ?_)
   ·
    replace hg16 := qb hg16
    (exfalso; first | exact absurd hg16 (f1 hg3).2 | exact absurd hg16 (by decide))
   replace hg16 := qb hg16
   refine yb8aa ?_
   refine qao ?_
   refine q_d rfl (has01_tri n.arr (m : Int) _ _ hnR) ?_
   refine DJ_q (yv_not rfl) rfl rfl rfl ?_
   refine qb2 ?_
   refine DJ_case (k := 112) (show _ = Value.bool _ from rfl) (fun hg21 => ?_) (fun hg21 => ?_)
   ·
    replace hg21 := qb hg21
    refine yb8aa ?_
    refine qao ?_
    refine yb8ab ?_
    refine qce ?_
    refine qbl ?_
    refine yb8aa ?_
    refine qao ?_
    refine yb8ab ?_
    refine qce ?_
    refine qbl ?_
    refine DJ_q (yv_neq rfl rfl) rfl rfl rfl ?_
    refine qbp ?_
    refine qbp ?_
    refine qb2 ?_
    refine DJ_case (k := 126) (show _ = Value.bool _ from rfl) (fun hg35 => ?_) (fun hg35 => ?_)
    ·
     replace hg35 := qb hg35
     (exfalso; first | exact absurd (f2 hg21) hg35 | exact absurd hg35 (by decide))
    replace hg35 := qb hg35
    refine yb8aa ?_
    refine qao ?_
    refine yb8ab ?_
    refine qce ?_
    refine qbl ?_
    refine qao ?_
    refine DJ_q (yv_gtr rfl rfl) rfl rfl rfl ?_
    refine qbp ?_
    refine qb2 ?_
    refine DJ_case (k := 135) (show _ = Value.bool _ from rfl) (fun hg44 => ?_) (fun hg44 => ?_)
    ·
     replace hg44 := qb hg44
     (exfalso; omega)
    replace hg44 := qb hg44
    refine yb8aa ?_
    refine qao ?_
    refine yb8ab ?_
    refine qce ?_
    refine qbl ?_
    refine DJ_q (yv_eql rfl rfl) rfl rfl rfl ?_
    refine qao ?_
    refine DJ_q (yv_neq rfl rfl) rfl rfl rfl ?_
    refine DJ_q (yv_neq_bool tb rfl rfl rfl) rfl rfl rfl ?_
    refine qbp ?_
    refine qb2 ?_
    refine DJ_case (k := 146) (show _ = Value.bool _ from rfl) (fun hg55 => ?_) (fun hg55 => ?_)
    ·
     replace hg55 := qb hg55
     exact absurd (decide_eq_decide.2 f4) hg55
    replace hg55 := qb hg55
    refine qao ?_
    refine DJ_q (yv_eql rfl rfl) rfl rfl rfl ?_
    refine qb2 ?_
    refine DJ_case (k := 149) (show _ = Value.bool _ from rfl) (fun hg58 => ?_) (fun hg58 => ?_)
    ·
     replace hg58 := qb hg58
     refine yb8aa ?_
     refine qao ?_
     refine yb8ab ?_
     refine qce ?_
     refine qbl ?_
     refine DJ_q (yv_geq rfl rfl) rfl rfl rfl ?_
     refine qbp ?_
     refine qb2 ?_
     refine DJ_case (k := 157) (show _ = Value.bool _ from rfl) (fun hg66 => ?_) (fun hg66 => ?_)
     ·
      replace hg66 := qb hg66
      refine yb8aa ?_
      refine qao ?_
      refine yb8ab ?_
      refine qce ?_
      refine qbl ?_
      refine yb8aa ?_
      refine qao ?_
      refine yb8ab ?_
      refine qce ?_
      refine qbl ?_
      refine DJ_q (yv_neq rfl rfl) rfl rfl rfl ?_
      refine qbp ?_
      refine qbp ?_
      refine qbu ?_
      refine q_c (fun hc5 => ?_) (fun hc5 => ?_)
      ·
       (exfalso; first | exact hc5 (f5 (by omega) (by omega)) | omega | exact absurd hg66 (by decide) | exact absurd hc5 (by decide))
      refine qbj ?_
      refine qar ?_
      refine qaa ?_
      refine qav ?_
      exact q_k (⟨m + 1, by omega⟩)
     replace hg66 := qb hg66
     iterate 11 refine qap ?_
     refine qbp ?_
     refine qbp ?_
     refine qbu ?_
     refine CJ_cond_false rfl ?_
     refine qbj ?_
     refine qar ?_
     refine qaa ?_
     refine qav ?_
     exact q_k (⟨m + 1, by omega⟩)
    replace hg58 := qb hg58
    iterate 6 refine qap ?_
    refine qbp ?_
    refine qb2 ?_
    refine DJ_case (k := 157) (show _ = Value.bool _ from rfl) (fun hg66 => ?_) (fun hg66 => ?_)
    ·
     replace hg66 := qb hg66
     refine yb8aa ?_
     refine qao ?_
     refine yb8ab ?_
     refine qce ?_
     refine qbl ?_
     refine yb8aa ?_
     refine qao ?_
     refine yb8ab ?_
     refine qce ?_
     refine qbl ?_
     refine DJ_q (yv_neq rfl rfl) rfl rfl rfl ?_
     refine qbp ?_
     refine qbp ?_
     refine qbu ?_
     refine q_c (fun hc5 => ?_) (fun hc5 => ?_)
     ·
      (exfalso; first | exact hc5 (f5 (by omega) (by omega)) | omega | exact absurd hg66 (by decide) | exact absurd hc5 (by decide))
     refine qbj ?_
     refine qar ?_
     refine qaa ?_
     refine qav ?_
     exact q_k (⟨m + 1, by omega⟩)
    replace hg66 := qb hg66
    iterate 11 refine qap ?_
    refine qbp ?_
    refine qbp ?_
    refine qbu ?_
    refine CJ_cond_false rfl ?_
    refine qbj ?_
    refine qar ?_
    refine qaa ?_
    refine qav ?_
    exact q_k (⟨m + 1, by omega⟩)
   replace hg21 := qb hg21
   iterate 11 refine qap ?_
   refine qbp ?_
   refine qbp ?_
   refine qb2 ?_
   refine DJ_case (k := 126) (show _ = Value.bool _ from rfl) (fun hg35 => ?_) (fun hg35 => ?_)
   ·
    replace hg35 := qb hg35
    (exfalso; first | exact absurd (f2 hg21) hg35 | exact absurd hg35 (by decide))
   replace hg35 := qb hg35
   refine yb8aa ?_
   refine qao ?_
   refine yb8ab ?_
   refine qce ?_
   refine qbl ?_
   refine qao ?_
   refine DJ_q (yv_gtr rfl rfl) rfl rfl rfl ?_
   refine qbp ?_
   refine qb2 ?_
   refine DJ_case (k := 135) (show _ = Value.bool _ from rfl) (fun hg44 => ?_) (fun hg44 => ?_)
   ·
    replace hg44 := qb hg44
    (exfalso; omega)
   replace hg44 := qb hg44
   refine yb8aa ?_
   refine qao ?_
   refine yb8ab ?_
   refine qce ?_
   refine qbl ?_
   refine DJ_q (yv_eql rfl rfl) rfl rfl rfl ?_
   refine qao ?_
   refine DJ_q (yv_neq rfl rfl) rfl rfl rfl ?_
   refine DJ_q (yv_neq_bool tb rfl rfl rfl) rfl rfl rfl ?_
   refine qbp ?_
   refine qb2 ?_
   refine DJ_case (k := 146) (show _ = Value.bool _ from rfl) (fun hg55 => ?_) (fun hg55 => ?_)
   ·
    replace hg55 := qb hg55
    exact absurd (decide_eq_decide.2 f4) hg55
   replace hg55 := qb hg55
   refine qao ?_
   refine DJ_q (yv_eql rfl rfl) rfl rfl rfl ?_
   refine qb2 ?_
   refine DJ_case (k := 149) (show _ = Value.bool _ from rfl) (fun hg58 => ?_) (fun hg58 => ?_)
   ·
    replace hg58 := qb hg58
    refine yb8aa ?_
    refine qao ?_
    refine yb8ab ?_
    refine qce ?_
    refine qbl ?_
    refine DJ_q (yv_geq rfl rfl) rfl rfl rfl ?_
    refine qbp ?_
    refine qb2 ?_
    refine DJ_case (k := 157) (show _ = Value.bool _ from rfl) (fun hg66 => ?_) (fun hg66 => ?_)
    ·
     replace hg66 := qb hg66
     refine yb8aa ?_
     refine qao ?_
     refine yb8ab ?_
     refine qce ?_
     refine qbl ?_
     refine yb8aa ?_
     refine qao ?_
     refine yb8ab ?_
     refine qce ?_
     refine qbl ?_
     refine DJ_q (yv_neq rfl rfl) rfl rfl rfl ?_
     refine qbp ?_
     refine qbp ?_
     refine qbu ?_
     refine q_c (fun hc5 => ?_) (fun hc5 => ?_)
     ·
      (exfalso; first | exact hc5 (f5 (by omega) (by omega)) | omega | exact absurd hg66 (by decide) | exact absurd hc5 (by decide))
     refine qbj ?_
     refine qar ?_
     refine qaa ?_
     refine qav ?_
     exact q_k (⟨m + 1, by omega⟩)
    replace hg66 := qb hg66
    iterate 11 refine qap ?_
    refine qbp ?_
    refine qbp ?_
    refine qbu ?_
    refine CJ_cond_false rfl ?_
    refine qbj ?_
    refine qar ?_
    refine qaa ?_
    refine qav ?_
    exact q_k (⟨m + 1, by omega⟩)
   replace hg58 := qb hg58
   iterate 6 refine qap ?_
   refine qbp ?_
   refine qb2 ?_
   refine DJ_case (k := 157) (show _ = Value.bool _ from rfl) (fun hg66 => ?_) (fun hg66 => ?_)
   ·
    replace hg66 := qb hg66
    refine yb8aa ?_
    refine qao ?_
    refine yb8ab ?_
    refine qce ?_
    refine qbl ?_
    refine yb8aa ?_
    refine qao ?_
    refine yb8ab ?_
    refine qce ?_
    refine qbl ?_
    refine DJ_q (yv_neq rfl rfl) rfl rfl rfl ?_
    refine qbp ?_
    refine qbp ?_
    refine qbu ?_
    refine q_c (fun hc5 => ?_) (fun hc5 => ?_)
    ·
     (exfalso; first | exact hc5 (f5 (by omega) (by omega)) | omega | exact absurd hg66 (by decide) | exact absurd hc5 (by decide))
    refine qbj ?_
    refine qar ?_
    refine qaa ?_
    refine qav ?_
    exact q_k (⟨m + 1, by omega⟩)
   replace hg66 := qb hg66
   iterate 11 refine qap ?_
   refine qbp ?_
   refine qbp ?_
   refine qbu ?_
   refine CJ_cond_false rfl ?_
   refine qbj ?_
   refine qar ?_
   refine qaa ?_
   refine qav ?_
   exact q_k (⟨m + 1, by omega⟩)
  refine qbk ?_
  refine q_l rfl (awake20_tri _ _) ?_
  refine qaz ?_
  refine qa0 ?_
  refine retK_ret (L' := []) (R' := R) (res1 rfl (rv_tmp (show _ = Value.bool _ from rfl))) ?hp ?hL ?hR
  case hp => exact ⟨rfl, rfl, rfl⟩
  case hL => exact (by repeat (first | exact zs0 _ | exact zs1 _ | apply zs2 | apply zs3 | apply zs4 | apply zs5))
  case hR => exact fin
end Go.Proofs.Ytlgjgigciapkfaa
end
section
/-
  Sites, watches, states of zones as arguments. By an AI agent; no person has read it.
-/
set_option linter.unusedSimpArgs false
set_option linter.unusedVariables false
namespace Go.Proofs.Ytlgjgigciapkfaa
open Go.Aw Go
set_option maxRecDepth 20000
attribute [local irreducible] CJ LJ DJ Tri YV Gives seqK blockK loopK retK RV mergeK OwL.L
theorem wf_u64 {n : Int} (h : (Lit.int .u64 n).wf = true) : 0 ≤ n ∧ n ≤ 18446744073709551615 := by
  simp only [Lit.wf, Bool.and_eq_true, decide_eq_true_eq] at h
  exact h
theorem op_cut : Opens Try.prog 72 XCut.cells (fun s => []) (fun _ => True) := by
  intro w cs h
  obtain ⟨hl, hf⟩ := rd_struct Try.underlying72 (m := 3) (by kernel_rfl) h
  obtain ⟨c0, c1, c2, rfl⟩ : ∃ c0 c1 c2, cs = [c0, c1, c2] := by match cs, hl with | [c0, c1, c2], _ => exact ⟨c0, c1, c2, rfl⟩
  obtain ⟨a0, e0, k0, r0⟩ := op_bool w [c0] (hf 0 _ 1 rfl (by kernel_rfl))
  obtain ⟨a1, e1, k1, r1⟩ := op_int w [c1] (hf 1 _ 1 rfl (by kernel_rfl))
  obtain ⟨a2, e2, k2, r2⟩ := op_int w [c2] (hf 2 _ 1 rfl (by kernel_rfl))
  cases e0; cases e1; cases e2
  refine ⟨⟨a0, a1, a2⟩, rfl, trivial, ?_⟩
  simp only [List.mem_cons, List.not_mem_nil, or_false, forall_eq_or_imp, forall_eq, List.forall_mem_nil] at r0 r1 r2 ⊢
  simp
theorem op_cuts : Opens Try.prog 68 (fun x : Arr XCut => [x.val]) (fun x => [cusl x]) (fun _ => True) :=
  (opens_slice (wd := 3) Try.underlying68 (by kernel_rfl) (by decide) (fun _ => rfl) op_cut).conv (fun x => by rw [flat_none]) (fun _ _ => trivial)
end Go.Proofs.Ytlgjgigciapkfaa
end
