import Derived.Test.YtkpfjmibipblhaaRuleP
import Derived.Test.YtkpfjmibipblhaaCutA
import Derived.Test.YtkpfjmibipblhaaRule
import Derived.Test.YtkpfjmibipblhaaFed
import Derived.Test.YtkpfjmibipblhaaFans
section
/-
  The draws of chapter 13: spans near flows, faces, sensors. By an AI agent; no person has read it.
-/
set_option linter.unusedSimpArgs false
set_option linter.unusedVariables false
namespace Go.Proofs.Ytkpfjmibipblhaa
open Go.Aw Go
set_option maxRecDepth 20000
attribute [local irreducible] CJ LJ DJ Tri YV Gives seqK blockK loopK retK RV mergeK OwL.L

section
variable {A9 B9 : Prop}
theorem ybiaa (a : A9) (h : A9 → B9 := by exact DJ3_q (by first | exact yv_index_ro tb rfl rfl rfl rfl (by first | assumption | exact zr (by simp)) (i := i) (by first | rfl | omega | (simp; omega)) (by omega) | exact yv_index tb rfl rfl rfl rfl (i := i) (by first | rfl | omega | (simp; omega)) (by omega)) rfl rfl rfl rfl) : B9 := h a
theorem ybiab (a : A9) (h : A9 → B9 := by exact LJ_q (yv_loadN (row := [_, _, _, _, _, _, _, _]) tb rfl rfl rfl (by repeat (first | exact zi0 | apply zi1 | apply zi2)) (by rfl) (by rfl)) rfl) : B9 := h a
end
structure NearF (fl : List Int) (n : Nat) (l : List XSpan) : Prop where
  len : l.length = n
  at_ : ∀ (i : Nat) (s : XSpan), l[i]? = some s → (s.low ≤ fl.getD i 0 ∧ fl.getD i 0 ≤ s.high) ∧ fl.getD i 0 - 11 ≤ s.low ∧ s.high ≤ fl.getD i 0 + 11
theorem NearF.next {fl : List Int} {n : Nat} {l : List XSpan} (h : NearF fl n l) {s : XSpan} (hs : (s.low ≤ fl.getD n 0 ∧ fl.getD n 0 ≤ s.high) ∧ fl.getD n 0 - 11 ≤ s.low ∧ s.high ≤ fl.getD n 0 + 11) : NearF fl (n + 1) (l ++ [s]) := by
  refine ⟨by simp [h.len], fun i t ht => ?_⟩
  rcases Nat.lt_or_ge i n with hi | hi
  · rw [List.getElem?_append_left (by rw [h.len]; exact hi)] at ht
    exact h.at_ i t ht
  · rw [List.getElem?_append_right (by rw [h.len]; exact hi), h.len] at ht
    obtain rfl : i = n := by
      rcases Nat.lt_or_ge (i - n) 1 with h1 | h1
      · omega
      · rw [List.getElem?_eq_none (by simpa using h1)] at ht; cases ht
    rw [Nat.sub_self] at ht
    cases ht
    exact hs
theorem drawSpans_tri (c : Nat) (x : Arr Int) (k : Nat) (fl : Arr Int) (R : List Sl) (hx : CodesR x R) (hk : k ≤ x.l.length) (hfl : InR (isl fl) R) (hb : ∀ q ∈ fl.l, -1000000000 ≤ q ∧ q ≤ 1000000000) (hn : fl.l.length ≤ 1000) :
    Tri Try.prog 19 [.pointer (some ⟨c, 0, none⟩), fl.val].toArray [cblk c x k] R
      (fun v L' R' => ∃ (p : OwL XSpan) (k' : Nat), v = p.val ∧ p.ok 2 XSpan.cells ∧ NearF fl.l fl.l.length p.l ∧ k' ≤ x.l.length ∧ p.L 59 XSpan.cells ++ (cblk c x k' :: []) = L' ∧ R = R') := by
  refine tri_enter 32 Try.call19 Try.func19 rfl rfl rfl ?_
  refine qae ?_
  refine qc4 ?_
  refine qam ?_
  refine qc4 ?_
  refine qaw ?_
  refine qad ?_
  refine qa2 ?_
  refine CJ_forget [(0, Value.pointer _), (1, Value.slice _ _ _), (5, Value.slice _ _ _), (6, Value.int _ _)] (by repeat' (first | exact trivial | refine And.intro rfl ?_)) fun tq0 => ?_
  refine CJ_loop [5, 6, 7, 8, 9, 10, 11, 12, 13, 14, 15, 16, 17, 18, 19, 20, 21, 22, 23, 24, 25, 26, 27, 28, 29, 30] ((⟨fun g => [(5, g.1.2.2.val), (6, .int .i64 ((g.1.2.1 : Nat) : Int))], fun g => g.1.2.2.L 59 XSpan.cells ++ (cblk c x g.1.1 :: []), fun _ => R, fun g => fl.l.length - g.1.2.1⟩ : Head {g : Nat × Nat × OwL XSpan // g.1 ≤ x.l.length ∧ g.2.1 ≤ fl.l.length ∧ g.2.2.ok 2 XSpan.cells ∧ NearF fl.l g.2.1 g.2.2.l})) (⟨(k, 0, OwL.nil), hk, by dsimp only; omega, OwL.nil_ok, ⟨rfl, fun i s hs => by cases hs⟩⟩) (by repeat' (first | exact trivial | refine And.intro rfl ?_)) (by dsimp only; rw [nil_L, List.nil_append]; exact List.Sublist.refl _) (allR_self _) ?_
  rintro ⟨⟨kk, i, p⟩, hkk, hi, hpk, hN⟩ junk
  try dsimp only
  dsimp only at hkk hi hpk hN
  have hpl := hN.len
  refine qbi ?_
  refine qaa ?_
  refine qbm ?_
  refine qag ?_
  refine qaj ?_
  refine qaf ?_
  refine q_c (fun hc0 => ?_) (fun hc0 => ?_)
  ·
   have hg := get_D (l := fl.l) (k := i) 0 (by omega)
   have hqb := hb _ (List.mem_of_getElem? hg)
   refine CJ_skip (seqK_normal (CJ_seq (CJ_block ?_)))
   refine CJ_drawn2 tb [] [0, 1, 2, 3, 4, 5, 8, 9, 10, 11, 12, 6, 7, 13, 14, 15, 16] [17, 18] ([]) _ mixed (by kernel_rfl) (by repeat (first | exact zs0 _ | exact zs1 _ | apply zs2 | apply zs3 | apply zs4 | apply zs5)) (List.nil_sublist _) ?_
   refine qct ?_
   refine qct ?_
   refine qbf ?_
   refine ybiaa ?_
   refine qci ?_
   refine qb3 ?_
   refine qct ?_
   refine qbf ?_
   refine ybiaa ?_
   refine qci ?_
   refine qb3 ?_
   refine DJ3_call rfl (next1 (by repeat (first | apply USeg.here | apply USeg.cons | apply USeg.app)) hx hkk (by omega)) rfl rfl ?_
   rintro v L' R' ⟨r1, k1, rfl, g1, g1', g1'', hk1, rfl, rfl⟩
   refine qas ?_
   have g1q := g1' (by omega)
   refine qcc ?_
   refine DJ3_call rfl (next1 (by repeat (first | apply USeg.here | apply USeg.cons | apply USeg.app)) hx hk1 (by omega)) rfl rfl ?_
   rintro v L' R' ⟨r2, k2, rfl, g2, g2', g2'', hk2, rfl, rfl⟩
   refine qas ?_
   have g2q := g2' (by omega)
   refine qcj ?_
   refine qcw ?_
   refine DJ3_g (gives_buildSlice (qs := [(0, (Value.agg _).cells.toList)]) (out := [_, _]) tb rfl rfl rfl rfl rfl rfl rfl) rfl rfl rfl ?_
   rintro v L' R' ⟨b29, rfl, rfl, hR29⟩
   replace hR29 := hR29.symm; subst hR29
   refine qa1 ?_
   refine qba ?_
   refine DJ_g (gives_append1 (f := XSpan.cells) (p := p) (a := ⟨fl.l.getD i 0 - r1, fl.l.getD i 0 + r2⟩) tb rfl rfl rfl rfl (hpk) (by repeat (first | apply OSeg.cons | exact OSeg.here | exact OSeg.last | exact OSeg.at (by assumption) | apply OSeg.app)) (shown_own (by repeat (first | exact zi0 | apply zi1 | apply zi2)) rfl rfl) rfl (by first | omega | (simp only [List.length_cons, List.length_nil, List.length_append]; omega))) rfl rfl rfl ?_
   rintro v L' R' ⟨o30, rfl, hok30, rfl, rfl⟩
   refine qa1 ?_
   refine DJ_q (yv_assign (show _ = Value.slice _ _ _ from rfl)) rfl rfl rfl ?_
   refine qby ?_
   refine qaa ?_
   refine qar ?_
   refine qad ?_
   refine qav ?_
   exact q_k ⟨(k2, i + 1, _), hk2, by dsimp only; omega, hok30, hN.next (by dsimp only; omega)⟩
  obtain rfl : i = fl.l.length := by omega
  refine qbk ?_
  refine qbm ?_
  refine qc4 ?_
  refine qa0 ?_
  refine q_r (L' := p.L 59 XSpan.cells ++ (cblk c x kk :: [])) (R' := R) (res1 rfl (rv_tmp (show _ = Value.slice _ _ _ from rfl))) ?_
  exact ⟨p, kk, rfl, hpk, hN, hkk, rfl, rfl⟩

theorem stately_tri (k : Int) (L : List Blk) (R : List Sl) :
    Tri Try.prog 61 [.int .i64 k].toArray L R (fun v L' R' => v = .bool (decide (4 ≤ k)) ∧ L = L' ∧ R = R') := by
  refine tri_enter 5 Try.call61 Try.func61 rfl rfl rfl ?_
  refine qae ?_
  refine qaz ?_
  refine qam ?_
  refine qaa ?_
  refine qbz ?_
  refine qaz ?_
  refine qa0 ?_
  refine q_b (L' := L) (R' := R) ?_
  exact ⟨rfl, rfl, rfl⟩
structure SensD (kind address target : Int) (s : XSens) : Prop where
  kind : s.kind = kind
  address : s.address = address
  target : s.target = target
  offset : -50 ≤ s.offset ∧ s.offset ≤ 20
  scale : 300 ≤ s.scale ∧ s.scale ≤ 2000
  error : 0 ≤ s.error ∧ s.error ≤ 5
  drift : 0 ≤ s.drift ∧ s.drift ≤ 699
  life : 1 ≤ s.life ∧ s.life ≤ 200
theorem drawSensor_tri (c : Nat) (x : Arr Int) (k : Nat) (kind address target : Int) (R : List Sl) (hx : CodesR x R) (hk : k ≤ x.l.length) :
    Tri Try.prog 49 [.pointer (some ⟨c, 0, none⟩), .int .i64 kind, .int .i64 address, .int .i64 target].toArray [cblk c x k] R
      (fun v L' R' => ∃ (s : XSens) (k' : Nat), v = s.val ∧ SensD kind address target s ∧ k' ≤ x.l.length ∧ cblk c x k' :: [] = L' ∧ R = R') := by
  refine tri_enter 32 Try.call49 Try.func49 rfl rfl rfl ?_
  refine qae ?_
  refine qaq ?_
  intro b8
  refine qam ?_
  iterate 3 refine qaa ?_
  refine qa6 ?_
  refine LJ_call rfl (range1 (by repeat (first | apply USeg.here | apply USeg.cons | apply USeg.app)) hx hk (by omega)) rfl ?_
  rintro v L' R' ⟨r1, k1, rfl, g1, g1', hk1, rfl, rfl⟩
  refine LJ_q (yv_build (qs := [(1, (Value.int _ _).cells.toList), (0, (Value.int _ _).cells.toList), (2, (Value.int _ _).cells.toList), (4, (Value.int _ _).cells.toList), (7, (Value.int _ _).cells.toList)]) (out := [_, _, _, _, _, _, _, _]) tb rfl rfl rfl rfl) rfl ?_
  refine qaq ?_
  intro b9
  refine qak ?_
  refine qaw ?_
  refine qaa ?_
  refine q_l rfl (stately_tri _ _ _) ?_
  refine qb4 ?_
  refine qaf ?_
  refine q_c (fun hc0 => ?_) (fun hc0 => ?_)
  ·
   refine qae ?_
   refine qa6 ?_
   refine LJ_call rfl (range1 (by repeat (first | apply USeg.here | apply USeg.cons | apply USeg.app)) hx hk1 (by omega)) rfl ?_
   rintro v L' R' ⟨r2, k2, rfl, g2, g2', hk2, rfl, rfl⟩
   refine qa6 ?_
   refine LJ_call rfl (range1 (by repeat (first | apply USeg.here | apply USeg.cons | apply USeg.app)) hx hk2 (by omega)) rfl ?_
   rintro v L' R' ⟨r3, k3, rfl, g3, g3', hk3, rfl, rfl⟩
   refine qab ?_
   refine qcn ?_
   refine qab ?_
   refine qcn ?_
   refine LJ_nil (seqK_normal (CJ_region ?_))
   refine qa6 ?_
   refine LJ_call rfl (next1 (by repeat (first | apply USeg.here | apply USeg.cons | apply USeg.app)) hx hk3 (by omega)) rfl ?_
   rintro v L' R' ⟨r4, k4, rfl, g4, g4', g4'', hk4, rfl, rfl⟩
   have g4q := g4' (by omega)
   refine qa6 ?_
   refine LJ_call rfl (next1 (by repeat (first | apply USeg.here | apply USeg.cons | apply USeg.app)) hx hk4 (by omega)) rfl ?_
   rintro v L' R' ⟨r5, k5, rfl, g5, g5', g5'', hk5, rfl, rfl⟩
   have g5q := g5' (by omega)
   refine qab ?_
   refine qcn ?_
   refine qab ?_
   refine qcn ?_
   refine qam ?_
   refine ybiab ?_
   refine qak ?_
   refine qa0 ?_
   refine q_r (L' := [cblk c x k5]) (R' := R) (res1 rfl (rv_cell (row := [_, _, _, _, _, _, _, _]) tb rfl rfl rfl (by repeat (first | exact zi0 | apply zi1 | apply zi2)) (by rfl) (by rfl))) ?_
   exact ⟨⟨address, kind, target, r2, r3, r4, r5, r1⟩, k5, rfl, ⟨rfl, rfl, rfl, by dsimp only; omega, by dsimp only; omega, by dsimp only; omega, by dsimp only; omega, by dsimp only; omega⟩, hk5, rfl, rfl⟩
  refine qbv ?_
  refine ybiab ?_
  refine qak ?_
  refine qa0 ?_
  refine q_r (L' := [cblk c x k1]) (R' := R) (res1 rfl (rv_cell (row := [_, _, _, _, _, _, _, _]) tb rfl rfl rfl (by repeat (first | exact zi0 | apply zi1 | apply zi2)) (by rfl) (by rfl))) ?_
  exact ⟨⟨address, kind, target, 0, 1000, 0, 0, r1⟩, k1, rfl, ⟨rfl, rfl, rfl, by dsimp only; omega, by dsimp only; omega, by dsimp only; omega, by dsimp only; omega, by dsimp only; omega⟩, hk1, rfl, rfl⟩
end Go.Proofs.Ytkpfjmibipblhaa
end
section
/-
  What measurements say later, the reference's: ref05.Check, ref06.At, ref06.Meet. By an AI agent; no person has read it.
-/
set_option linter.unusedSimpArgs false
set_option linter.unusedVariables false
namespace Go.Proofs.Ytkpfjmibipblhaa
open Go.Aw Go
set_option maxRecDepth 20000
attribute [local irreducible] CJ LJ DJ Tri YV Gives seqK blockK loopK retK RV mergeK OwL.L

end Go.Proofs.Ytkpfjmibipblhaa
end
section
/-
  Sites and their errors: cutoff.Check, cutoff.Known, and what is known of a fan. By an AI agent; no person has read it.
-/
set_option linter.unusedSimpArgs false
set_option linter.unusedVariables false
namespace Go.Proofs.Ytkpfjmibipblhaa
open Go.Aw Go
set_option maxRecDepth 20000
attribute [local irreducible] CJ LJ DJ Tri YV Gives seqK blockK loopK retK RV mergeK OwL.L
section
variable {A9 B9 : Prop}
theorem ybkaa (a : A9) (h : A9 → B9 := by exact LJ_q (yv_loadN (row := [_, _, _, _, _, _, _, _]) tb rfl rfl rfl (by repeat (first | exact zi0 | apply zi1 | apply zi2)) (by rfl) (by rfl)) rfl) : B9 := h a
theorem ybkab (h : B9 := by exact ⟨by rw [siteErr, if_neg (by omega), if_neg (by omega), if_neg (by omega), if_neg (by omega), if_neg (by omega), e], rfl, rfl⟩) : B9 := h
end
theorem nzO_none {e : Int} (h : e = 0) : nzO e = none := by rw [nzO, if_pos h]
theorem nzO_some {e : Int} (h : e ≠ 0) : nzO e = some e := by rw [nzO, if_neg h]
abbrev condF (s : XSite) : XCond → Option Int := fun c => nzO (condErr s.sensors.l s.air.mine.roads.l.length c)
abbrev zoneF (s : XSite) : XZone → Option Int := fun z => nzO (zoneErr s.conds.l.length s.air.mine.roads.l.length z)
abbrev persF : Int → Option Int := fun p => if p < 1 ∨ 3 < p then some 19 else none
theorem siteCheck_tri (s : XSite) (L : List Blk) (R : List Sl) (hs : SiteR s R) :
    Tri Try.prog 15 [s.val].toArray L R (fun v L' R' => v = .int .i64 (siteErr s) ∧ L = L' ∧ R = R') := by
  have hsR := hs.sensors
  have hcR := hs.conds
  have hzR := hs.zones
  have hpR := hs.persons
  refine tri_enter 90 Try.call15 Try.func15 rfl rfl rfl ?_
  refine qae ?_
  refine qax ?_
  intro b1
  refine qad ?_
  refine qaw ?_
  refine qab ?_
  refine qa8 ?_
  refine q_l rfl (branchCheck_tri s.air _ _ hs.air) ?_
  refine qad ?_
  refine qam ?_
  refine qaa ?_
  refine qbq ?_
  refine qaf ?_
  refine q_c (fun hc0 => ?_) (fun hc0 => ?_)
  ·
   refine qae ?_
   refine qaa ?_
   refine qad ?_
   refine qbh ?_
   refine q_i (L' := L) (R' := R) ?_
   exact ⟨by rw [siteErr, if_pos hc0], rfl, rfl⟩
  refine qbo ?_
  refine qab ?_
  refine qac ?_
  refine qag ?_
  refine qa5 ?_
  refine qah ?_
  apply LJ_or (G := [_, _, _, _]) (j := 4) (cj := 23) rfl rfl (by rfl) rfl (show _ = Value.bool _ from rfl) rfl
  ·
   intro hg5
   replace hg5 := qb hg5
   refine qab ?_
   refine qac ?_
   refine qag ?_
   refine qa5 ?_
   exact qai
  intro junk5
  refine qah ?_
  apply LJ_or (G := [_, _, _, _]) (j := 10) (cj := 29) rfl rfl (by rfl) rfl (show _ = Value.bool _ from rfl) rfl
  ·
   intro hg11
   replace hg11 := qb hg11
   refine qab ?_
   refine qac ?_
   refine qag ?_
   refine qa5 ?_
   exact qai
  intro junk11
  refine qah ?_
  apply LJ_or (G := [_, _, _, _]) (j := 16) (cj := 35) rfl rfl (by rfl) rfl (show _ = Value.bool _ from rfl) rfl
  ·
   intro hg17
   replace hg17 := qb hg17
   refine qab ?_
   refine qac ?_
   refine qag ?_
   refine qa5 ?_
   exact qai
  intro junk17
  refine qaf ?_
  refine q_c (fun hc1 => ?_) (fun hc1 => ?_)
  ·
   refine qae ?_
   refine qad ?_
   refine qbh ?_
   refine q_i (L' := L) (R' := R) ?_
   exact ⟨by rw [siteErr, if_neg (by omega), if_pos (by omega)], rfl, rfl⟩
  refine qbo ?_
  refine ybkaa ?_
  refine q_l rfl (checkSensors_tri s _ _ hsR (by omega)) ?_
  refine qad ?_
  refine qam ?_
  refine qaa ?_
  refine qbq ?_
  refine qaf ?_
  refine q_c (fun hc2 => ?_) (fun hc2 => ?_)
  ·
   refine qae ?_
   refine qaa ?_
   refine qad ?_
   refine qbh ?_
   refine q_i (L' := L) (R' := R) ?_
   exact ⟨by rw [siteErr, if_neg (by omega), if_neg (by omega), if_pos hc2], rfl, rfl⟩
  refine qbo ?_
  refine qab ?_
  refine qac ?_
  refine qag ?_
  refine qaa ?_
  refine qa2 ?_
  refine CJ_forget [(1, Value.pointer _), (47, Value.slice _ _ _), (48, Value.int _ _), (49, Value.int _ _)] (by repeat' (first | exact trivial | refine And.intro rfl ?_)) fun tq0 => ?_
  refine q_s [2, 6, 7, 49, 50, 51, 52, 53, 54, 55, 56, 57, 58, 59] (fun g : FS (condF s) (s.conds.l) => [(49, .int .i64 ((g.1 : Nat) : Int))]) (fun g => (s.conds.l).length - g.1) ⟨0, FS_zero _ _⟩ ?_
  rintro ⟨k0, hk0, hp0⟩ junk
  try dsimp only
  refine qae ?_
  refine qaj ?_
  refine qa4 ?_
  refine q_c (fun hc3 => ?_) (fun hc3 => ?_)
  ·
   obtain ⟨c, hc⟩ := get_some (l := s.conds.l) (k := k0) (by omega)
   refine qbb ?_
   refine LJ_q (by first | exact yv_index_ro tb rfl rfl rfl rfl (by first | assumption | exact zr (by simp)) (i := k0) (by first | rfl | omega | (simp; omega)) (by omega) | exact yv_index tb rfl rfl rfl rfl (i := k0) (by first | rfl | omega | (simp; omega)) (by omega)) rfl ?_
   refine LJ_q (by first | exact yv_loadN_ro (row := [_, _, _, _, _, _]) tb rfl rfl rfl (by first | assumption | exact zr (by simp)) (by assumption) (by rfl) (by rfl) | exact yv_loadN (row := [_, _, _, _, _, _]) tb rfl rfl rfl (by repeat (first | exact zi0 | apply zi1 | apply zi2)) (by rfl) (by rfl)) rfl ?_
   refine qaq ?_
   intro b6
   refine qak ?_
   refine qam ?_
   refine ybkaa ?_
   refine LJ_q (yv_loadN (row := [_, _, _, _, _, _]) tb rfl rfl rfl (by repeat (first | exact zi0 | apply zi1 | apply zi2)) (by rfl) (by rfl)) rfl ?_
   refine q_l rfl (checkCond_tri s c _ _ hsR (by omega)) ?_
   refine qad ?_
   refine qam ?_
   refine qaa ?_
   refine qbq ?_
   refine qaf ?_
   refine q_c (fun hc4 => ?_) (fun hc4 => ?_)
   ·
    refine qae ?_
    refine qaa ?_
    refine qad ?_
    refine qbt ?_
    refine q_i (L' := L) (R' := R) ?_
    have e : condsErr s = condErr s.sensors.l s.air.mine.roads.l.length c := by rw [condsErr, FS_some (f := condF s) hp0 hc (nzO_some hc4)]; rfl
    exact ⟨by rw [siteErr, if_neg (by omega), if_neg (by omega), if_neg (by omega), if_pos (by rw [e]; exact hc4), e], rfl, rfl⟩
   refine qbj ?_
   refine qar ?_
   refine qaa ?_
   refine qav ?_
   exact q_k ⟨k0 + 1, FS_next hp0 hc (nzO_none (by omega))⟩
  have hn0 := FS_none hp0 (by omega)
  refine CJ_exit (seqK_exit (loopK_exit (blockK_exit (seqK_normal (CJ_seq (CJ_seq ?_))))))
  have hce : condsErr s = 0 := by rw [condsErr, hn0]; rfl
  refine qay ?_
  refine qab ?_
  refine qac ?_
  refine qag ?_
  refine qaa ?_
  refine qa2 ?_
  refine CJ_forget [(1, Value.pointer _), (61, Value.slice _ _ _), (62, Value.int _ _), (63, Value.int _ _)] (by repeat' (first | exact trivial | refine And.intro rfl ?_)) fun tq1 => ?_
  refine q_s [2, 9, 10, 63, 64, 65, 66, 67, 68, 69, 70, 71, 72, 73] (fun g : FS (zoneF s) (s.zones.l) => [(63, .int .i64 ((g.1 : Nat) : Int))]) (fun g => (s.zones.l).length - g.1) ⟨0, FS_zero _ _⟩ ?_
  rintro ⟨k1, hk1, hp1⟩ junk
  try dsimp only
  refine qae ?_
  refine qaj ?_
  refine qa4 ?_
  refine q_c (fun hc5 => ?_) (fun hc5 => ?_)
  ·
   obtain ⟨z, hz⟩ := get_some (l := s.zones.l) (k := k1) (by omega)
   refine qbb ?_
   refine LJ_q (by first | exact yv_index_ro tb rfl rfl rfl rfl (by first | assumption | exact zr (by simp)) (i := k1) (by first | rfl | omega | (simp; omega)) (by omega) | exact yv_index tb rfl rfl rfl rfl (i := k1) (by first | rfl | omega | (simp; omega)) (by omega)) rfl ?_
   refine qdr ?_
   refine qaq ?_
   intro b9
   refine qak ?_
   refine qam ?_
   refine ybkaa ?_
   refine qa8 ?_
   refine q_l rfl (checkZone_tri s z _ _ (InR.rule hzR hz) (InR.zroads hzR hz)) ?_
   refine qad ?_
   refine qam ?_
   refine qaa ?_
   refine qbq ?_
   refine qaf ?_
   refine q_c (fun hc6 => ?_) (fun hc6 => ?_)
   ·
    refine qae ?_
    refine qaa ?_
    refine qad ?_
    refine qbt ?_
    refine q_i (L' := L) (R' := R) ?_
    have e : zonesErr s = zoneErr s.conds.l.length s.air.mine.roads.l.length z := by rw [zonesErr, FS_some (f := zoneF s) hp1 hz (nzO_some hc6)]; rfl
    exact ⟨by rw [siteErr, if_neg (by omega), if_neg (by omega), if_neg (by omega), if_neg (by omega), if_pos (by rw [e]; exact hc6), e], rfl, rfl⟩
   refine qbj ?_
   refine qar ?_
   refine qaa ?_
   refine qav ?_
   exact q_k ⟨k1 + 1, FS_next hp1 hz (nzO_none (by omega))⟩
  have hn1 := FS_none hp1 (by omega)
  refine CJ_exit (seqK_exit (loopK_exit (blockK_exit (seqK_normal (CJ_seq (CJ_seq ?_))))))
  have hze : zonesErr s = 0 := by rw [zonesErr, hn1]; rfl
  refine qay ?_
  refine qab ?_
  refine qac ?_
  refine qag ?_
  refine qaa ?_
  refine qa2 ?_
  refine CJ_forget [(75, Value.slice _ _ _), (76, Value.int _ _), (77, Value.int _ _)] (by repeat' (first | exact trivial | refine And.intro rfl ?_)) fun tq2 => ?_
  refine q_s [2, 12, 77, 78, 79, 80, 81, 82, 83, 84, 85, 86, 87, 88, 89] (fun g : FS (persF) (s.persons.l) => [(77, .int .i64 ((g.1 : Nat) : Int))]) (fun g => (s.persons.l).length - g.1) ⟨0, FS_zero _ _⟩ ?_
  rintro ⟨k2, hk2, hp2⟩ junk
  try dsimp only
  refine qae ?_
  refine qaj ?_
  refine qa4 ?_
  refine q_c (fun hc7 => ?_) (fun hc7 => ?_)
  ·
   obtain ⟨p, hp⟩ := get_some (l := s.persons.l) (k := k2) (by omega)
   refine qbb ?_
   refine LJ_q (by first | exact yv_index_ro tb rfl rfl rfl rfl (by first | assumption | exact zr (by simp)) (i := k2) (by first | rfl | omega | (simp; omega)) (by omega) | exact yv_index tb rfl rfl rfl rfl (i := k2) (by first | rfl | omega | (simp; omega)) (by omega)) rfl ?_
   refine LJ_q (by first | exact yv_loadN_ro (row := [_]) tb rfl rfl rfl (by first | assumption | exact zr (by simp)) (by assumption) (by rfl) (by rfl) | exact yv_loadN (row := [_]) tb rfl rfl rfl (by repeat (first | exact zi0 | apply zi1 | apply zi2)) (by rfl) (by rfl)) rfl ?_
   refine qaq ?_
   intro b12
   refine qak ?_
   refine qam ?_
   refine qab ?_
   refine qac ?_
   refine qaj ?_
   refine qah ?_
   apply LJ_or (G := [_, _, _]) (j := 3) (cj := 84) rfl rfl (by rfl) rfl (show _ = Value.bool _ from rfl) rfl
   ·
    intro hg4
    replace hg4 := qb hg4
    refine qab ?_
    refine qac ?_
    refine qa5 ?_
    exact qai
   intro junk4
   refine qaf ?_
   refine q_c (fun hc8 => ?_) (fun hc8 => ?_)
   ·
    refine qae ?_
    refine qad ?_
    refine qbt ?_
    refine q_i (L' := L) (R' := R) ?_
    have e : personsErr s = 19 := by rw [personsErr, FS_some (f := persF) hp2 hp (show persF p = some 19 from if_pos hc8)]; rfl
    exact ybkab
   refine qbj ?_
   refine qar ?_
   refine qaa ?_
   refine qav ?_
   exact q_k ⟨k2 + 1, FS_next hp2 hp (show persF p = none from if_neg (by omega))⟩
  have hn2 := FS_none hp2 (by omega)
  refine qbk ?_
  refine qad ?_
  refine qa0 ?_
  refine q_i (L' := L) (R' := R) ?_
  have e : personsErr s = 0 := by rw [personsErr, hn2]; rfl
  exact ybkab
end Go.Proofs.Ytkpfjmibipblhaa
end
section
/-
  The value of a rule: rule.Eval. By an AI agent; no person has read it.
-/
set_option linter.unusedSimpArgs false
set_option linter.unusedVariables false
namespace Go.Proofs.Ytkpfjmibipblhaa
open Go.Aw Go
set_option maxRecDepth 20000
attribute [local irreducible] CJ LJ DJ Tri YV Gives seqK blockK loopK retK RV mergeK OwL.L
end Go.Proofs.Ytkpfjmibipblhaa
end
section
/-
  Rules, the reference's: part, Right, Check, value, Eval. By an AI agent; no person has read it.
-/
set_option linter.unusedSimpArgs false
set_option linter.unusedVariables false
namespace Go.Proofs.Ytkpfjmibipblhaa
open Go.Aw Go
set_option maxRecDepth 20000
attribute [local irreducible] CJ LJ DJ Tri YV Gives seqK blockK loopK retK RV mergeK OwL.L
end Go.Proofs.Ytkpfjmibipblhaa
end
section
/-
  Sites and their errors, the reference's. By an AI agent; no person has read it.
-/
set_option linter.unusedSimpArgs false
set_option linter.unusedVariables false
namespace Go.Proofs.Ytkpfjmibipblhaa
open Go.Aw Go
set_option maxRecDepth 20000
attribute [local irreducible] CJ LJ DJ Tri YV Gives seqK blockK loopK retK RV mergeK OwL.L
end Go.Proofs.Ytkpfjmibipblhaa
end
section
/-
  Restoring power: when a zone is ready, by the code and by the reference. By an AI agent; no person has read it.
-/
set_option linter.unusedSimpArgs false
set_option linter.unusedVariables false
namespace Go.Proofs.Ytkpfjmibipblhaa
open Go.Aw Go
set_option maxRecDepth 20000
attribute [local irreducible] CJ LJ DJ Tri YV Gives seqK blockK loopK retK RV mergeK OwL.L
def sureS (x : XSpan) : Int := if dirS x = 1 then x.low else if dirS x = -1 then -x.high else 0
def needS (r : XRoad) (fr : Int) : Int := 1000 * r.len * r.area * fr
def AirCh (r : XRoad) (x : XSpan) (fr sec : Int) : Prop := needS r fr = 0 ∨ 0 < sureS x ∧ needS r fr ≤ sureS x * sec
instance (r : XRoad) (x : XSpan) (fr sec : Int) : Decidable (AirCh r x fr sec) := by unfold AirCh; infer_instance
theorem dir_one {x : XSpan} (h : dirS x = 1) : sureS x = x.low ∧ 0 < x.low := by
  refine ⟨by rw [sureS, if_pos h], ?_⟩
  rw [dirS] at h
  split at h
  · cases h
  split at h
  · assumption
  split at h <;> cases h
theorem dir_neg {x : XSpan} (h : dirS x = -1) : sureS x = -x.high ∧ x.high < 0 := by
  refine ⟨by rw [sureS, if_neg (by omega), if_pos h], ?_⟩
  rw [dirS] at h
  split at h
  · cases h
  split at h
  · cases h
  split at h
  · assumption
  · cases h
theorem dir_no {x : XSpan} (h : dirS x ≠ 1) (h' : dirS x ≠ -1) : sureS x = 0 := by rw [sureS, if_neg h, if_neg h']
theorem need_rng {r : XRoad} {fr : Int} (h1 : 1 ≤ r.len ∧ r.len ≤ 100000) (h2 : 1 ≤ r.area ∧ r.area ≤ 1000) (h3 : 0 ≤ fr ∧ fr ≤ 100) :
    (0 ≤ 1000 * r.len * r.area ∧ 1000 * r.len * r.area ≤ 100000000000) ∧ 0 ≤ 1000 * r.len * r.area * fr ∧ 1000 * r.len * r.area * fr ≤ 10000000000000 := by
  have a0 : 0 ≤ 1000 * r.len * r.area := Int.mul_nonneg (by omega) (by omega)
  have a1 : 1000 * r.len * r.area ≤ 100000000 * 1000 := Int.mul_le_mul (by omega) (by omega) (by omega) (by omega)
  have b0 : 0 ≤ 1000 * r.len * r.area * fr := Int.mul_nonneg a0 (by omega)
  have b1 : 1000 * r.len * r.area * fr ≤ 100000000000 * 100 := Int.mul_le_mul (by omega) (by omega) (by omega) (by omega)
  omega
theorem ceil_iff {n s l : Int} (hn : 1 ≤ n) (hs : 0 < s) : (n + s - 1).tdiv s ≤ l ↔ n ≤ l * s := by
  rw [Int.tdiv_eq_ediv_of_nonneg (by omega)]
  have h := Int.ediv_lt_iff_lt_mul (a := n + s - 1) (b := l + 1) hs
  rw [Int.add_mul, Int.one_mul] at h
  omega
theorem changed_tri (r : XRoad) (x : XSpan) (fr sec : Int) (L : List Blk) (R : List Sl) (h1 : 1 ≤ r.len ∧ r.len ≤ 100000) (h2 : 1 ≤ r.area ∧ r.area ≤ 1000) (h3 : 0 ≤ fr ∧ fr ≤ 100) (h4 : 0 ≤ sec ∧ sec ≤ 2147483648) :
    Tri Try.prog 113 [r.val, x.val, .int .i64 fr, .int .i64 sec].toArray L R (fun v L' R' => v = .bool (decide (AirCh r x fr sec)) ∧ L = L' ∧ R = R') := by
  have hN := need_rng h1 h2 h3
  refine tri_enter 44 Try.call113 Try.func113 rfl rfl rfl ?_
  refine qae ?_
  refine qax ?_
  intro b4
  refine qax ?_
  intro b5
  refine qaz ?_
  refine qam ?_
  refine qab ?_
  refine qac ?_
  refine qcm ?_
  refine qab ?_
  refine qac ?_
  refine qcm ?_
  refine qaa ?_
  refine qcm ?_
  refine qad ?_
  refine qaw ?_
  refine qaa ?_
  refine qbn ?_
  refine qaf ?_
  refine q_c (fun hc0 => ?_) (fun hc0 => ?_)
  ·
   refine qae ?_
   refine qaz ?_
   refine qbh ?_
   refine q_b (L' := L) (R' := R) ?_
   exact ⟨by rw [decide_eq_true (p := AirCh r x fr sec) (.inl hc0)], rfl, rfl⟩
  have hn1 : 1 ≤ 1000 * r.len * r.area * fr := by omega
  refine qbo ?_
  refine qaa ?_
  refine qbn ?_
  refine qaf ?_
  refine q_c (fun hc1 => ?_) (fun hc1 => ?_)
  ·
   refine qae ?_
   refine qaz ?_
   refine qbh ?_
   refine q_b (L' := L) (R' := R) ?_
   refine ⟨by rw [decide_eq_false (p := AirCh r x fr sec)]; rintro (h | ⟨_, h⟩) <;> rw [needS] at h; omega; rw [hc1, Int.mul_zero] at h; omega, rfl, rfl⟩
  have hcl := fun l => ceil_iff (l := l) hn1 (show 0 < sec by omega)
  have hq0 : 0 ≤ (1000 * r.len * r.area * fr + sec - 1).tdiv sec := Int.tdiv_nonneg (by omega) (by omega)
  have hq1 : (1000 * r.len * r.area * fr + sec - 1).tdiv sec ≤ 100000000000000 := by
    rw [Int.tdiv_eq_ediv_of_nonneg (by omega)]
    have := Int.ediv_le_self (a := 1000 * r.len * r.area * fr + sec - 1) sec (by omega)
    omega
  refine qbv ?_
  refine qaa ?_
  refine qaa ?_
  refine qar ?_
  refine qa9 ?_
  refine qaa ?_
  refine qdd ?_
  refine qad ?_
  refine qaw ?_
  refine qbe ?_
  refine q_l rfl (direction_tri x _ _) ?_
  refine LJ_nil (seqK_normal (CJ_block (CJ_seq (CJ_region ?_))))
  refine qbn ?_
  refine qaz ?_
  refine qaf ?_
  refine q_c (fun hc2 => ?_) (fun hc2 => ?_)
  ·
   refine qae ?_
   refine qab ?_
   refine qac ?_
   refine qaa ?_
   refine qbz ?_
   refine qaz ?_
   refine qdb ?_
   refine q_b (L' := L) (R' := R) ?_
   have hd := dir_one hc2
   refine ⟨congrArg Value.bool (decide_eq_decide.2 ?_), rfl, rfl⟩
   rw [hcl, AirCh, needS, hd.1]
   omega
  refine qae ?_
  refine qbn ?_
  refine qaz ?_
  refine qaf ?_
  refine q_c (fun hc3 => ?_) (fun hc3 => ?_)
  ·
   refine qae ?_
   refine qab ?_
   refine qac ?_
   refine qaa ?_
   refine qcq ?_
   refine qbx ?_
   refine qaz ?_
   refine qdb ?_
   refine q_b (L' := L) (R' := R) ?_
   have hd := dir_neg hc3
   refine ⟨congrArg Value.bool (decide_eq_decide.2 ?_), rfl, rfl⟩
   have := hcl (-x.high)
   rw [AirCh, needS, hd.1]
   omega
  refine CJ_skip (blockK_normal (seqK_normal (CJ_seq (CJ_region ?_))))
  refine qaz ?_
  refine qa0 ?_
  refine q_b (L' := L) (R' := R) ?_
  have hd := dir_no hc2 hc3
  refine ⟨by rw [decide_eq_false (p := AirCh r x fr sec)]; rintro (h | ⟨h, _⟩); rw [needS] at h; omega; omega, rfl, rfl⟩
end Go.Proofs.Ytkpfjmibipblhaa
end
section
/-
  Sites without errors. Plain. By an AI agent; no person has read it.
-/
set_option linter.unusedSimpArgs false
set_option linter.unusedVariables false
namespace Go.Proofs.Ytkpfjmibipblhaa
open Go.Aw Go
theorem nzO_zero {e : Int} (h : nzO e = none) : e = 0 := by
  rw [nzO] at h
  split at h
  · assumption
  · cases h
theorem nzO_ne {e x : Int} (h : nzO e = some x) : x ≠ 0 := by
  rw [nzO] at h
  split at h
  · cases h
  · cases h; assumption
structure SiteOk (s : XSite) : Prop where
  air : airErr s.air = 0
  len : s.sensors.l.length ≤ 64 ∧ s.conds.l.length ≤ 64 ∧ s.zones.l.length ≤ 16 ∧ s.persons.l.length ≤ 64
  sens : ∀ i : Nat, i < s.sensors.l.length → sensAt s.air s.sensors.l i = none
  cond : ∀ c ∈ s.conds.l, condErr s.sensors.l s.air.mine.roads.l.length c = 0
  zone : ∀ z ∈ s.zones.l, zoneErr s.conds.l.length s.air.mine.roads.l.length z = 0
  pers : ∀ p ∈ s.persons.l, 1 ≤ p ∧ p ≤ 3
theorem sensAt_ne {a : XAir} {S : List XSens} {i : Nat} {e : Int} (h : sensAt a S i = some e) : e ≠ 0 := by
  rw [sensAt] at h
  split at h
  · cases h; assumption
  split at h
  · cases h; decide
  split at h
  · cases h; decide
  · cases h
theorem siteOk_of {s : XSite} (h : siteErr s = 0) : SiteOk s := by
  rw [siteErr] at h
  split at h
  · omega
  split at h
  · omega
  split at h
  · omega
  split at h
  · omega
  split at h
  · omega
  rename_i h1 h2 h3 h4 h5
  refine ⟨by omega, by omega, fun i hi => ?_, fun c hc => ?_, fun z hz => ?_, fun p hp => ?_⟩
  · have h3' : sensorsErr s.air s.sensors.l = 0 := by omega
    exact findSome_zero (f := sensAt s.air s.sensors.l) (fun x e hx => sensAt_ne hx) h3' i (List.mem_range.2 hi)
  · have h4' : condsErr s = 0 := by omega
    exact nzO_zero (findSome_zero (f := fun c => nzO (condErr s.sensors.l s.air.mine.roads.l.length c)) (fun x e hx => nzO_ne hx) h4' c hc)
  · have h5' : zonesErr s = 0 := by omega
    exact nzO_zero (findSome_zero (f := fun z => nzO (zoneErr s.conds.l.length s.air.mine.roads.l.length z)) (fun x e hx => nzO_ne hx) h5' z hz)
  · have := findSome_zero (f := fun p : Int => if p < 1 ∨ 3 < p then some 19 else none) (fun x e hx => by
      split at hx
      · cases hx; decide
      · cases hx) h p hp
    split at this
    · cases this
    · omega
theorem findSome_no {α β : Type} {f : α → Option β} {l : List α} (h : ∀ x ∈ l, f x = none) : l.findSome? f = none := List.findSome?_eq_none_iff.2 h
theorem SiteOk.err {s : XSite} (h : SiteOk s) : siteErr s = 0 := by
  have h1 := h.air
  have h2 := h.len
  have e1 : sensorsErr s.air s.sensors.l = 0 := by rw [sensorsErr, findSome_no (fun i hi => h.sens i (List.mem_range.1 hi))]; rfl
  have e2 : condsErr s = 0 := by rw [condsErr, findSome_no (fun c hc => by rw [nzO, if_pos (h.cond c hc)])]; rfl
  have e3 : zonesErr s = 0 := by rw [zonesErr, findSome_no (fun z hz => by rw [nzO, if_pos (h.zone z hz)])]; rfl
  have e4 : personsErr s = 0 := by rw [personsErr, findSome_no (fun p hp => if_neg (by have := h.pers p hp; omega))]; rfl
  rw [siteErr, if_neg (by omega), if_neg (by omega), if_neg (by omega), if_neg (by omega), if_neg (by omega), e4]
structure WrO {α : Type} (l0 : List α) (g : Nat → α) (i : Nat) (l : List α) : Prop where
  len : l.length = l0.length
  don : ∀ j : Nat, j < i → l[j]? = some (g j)
  old : ∀ j : Nat, i ≤ j → l[j]? = l0[j]?
theorem WrO.zero {α : Type} {l0 : List α} {g : Nat → α} : WrO l0 g 0 l0 := ⟨rfl, fun j hj => by omega, fun j _ => rfl⟩
theorem WrO.next {α : Type} {l0 : List α} {g : Nat → α} {i : Nat} {l : List α} (h : WrO l0 g i l) (hi : i < l0.length) {x : α} (hx : x = g i) : WrO l0 g (i + 1) (l.set i x) := by
  have hl := h.len
  refine ⟨by simp [hl], fun j hj => ?_, fun j h1 => ?_⟩
  · rw [List.getElem?_set]
    split
    · rename_i e; rw [if_pos (by omega), hx, e]
    · exact h.don j (by omega)
  · rw [List.getElem?_set_ne (by omega)]
    exact h.old j (by omega)
theorem WrO.done {α : Type} {l0 : List α} {g : Nat → α} {l : List α} (h : WrO l0 g l0.length l) : l = (List.range l0.length).map g := by
  have hl := h.len
  refine List.ext_getElem? fun j => ?_
  rcases Nat.lt_or_ge j l0.length with hj | hj
  · rw [h.don j hj, List.getElem?_map, List.getElem?_range hj]; rfl
  · rw [List.getElem?_eq_none (by omega), List.getElem?_eq_none (by simp; omega)]
end Go.Proofs.Ytkpfjmibipblhaa
end
