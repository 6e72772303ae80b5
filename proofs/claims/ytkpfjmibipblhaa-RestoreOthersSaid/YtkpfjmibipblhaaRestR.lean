import Derived.Test.YtkpfjmibipblhaaWinR
import Derived.Test.YtkpfjmibipblhaaRule
import Derived.Test.YtkpfjmibipblhaaNarrow
import Derived.Test.YtkpfjmibipblhaaGraph
section
/-
  Sites and their errors: cutoff.Check, cutoff.Known, and what is known of a fan. By an AI agent; no person has read it.
-/
set_option linter.unusedSimpArgs false
set_option linter.unusedVariables false
namespace Go.Proofs.Ytkpfjmibipblhaa
open Go.Aw Go
set_option maxRecDepth 20000
attribute [local irreducible] CJ LJ DJ Tri YV Gives seqK blockK loopK retK RV mergeK OwL.L
section
variable {A9 B9 : Prop}
theorem ybkaa (a : A9) (h : A9 → B9 := by exact LJ_q (yv_loadN (row := [_, _, _, _, _, _, _, _]) tb rfl rfl rfl (by repeat (first | exact zi0 | apply zi1 | apply zi2)) (by rfl) (by rfl)) rfl) : B9 := h a
theorem ybkab (h : B9 := by exact ⟨by rw [siteErr, if_neg (by omega), if_neg (by omega), if_neg (by omega), if_neg (by omega), if_neg (by omega), e], rfl, rfl⟩) : B9 := h
end
theorem nzO_none {e : Int} (h : e = 0) : nzO e = none := by rw [nzO, if_pos h]
theorem nzO_some {e : Int} (h : e ≠ 0) : nzO e = some e := by rw [nzO, if_neg h]
abbrev condF (s : XSite) : XCond → Option Int := fun c => nzO (condErr s.sensors.l s.air.mine.roads.l.length c)
abbrev zoneF (s : XSite) : XZone → Option Int := fun z => nzO (zoneErr s.conds.l.length s.air.mine.roads.l.length z)
abbrev persF : Int → Option Int := fun p => if p < 1 ∨ 3 < p then some 19 else none
theorem siteCheck_tri (s : XSite) (L : List Blk) (R : List Sl) (hs : SiteR s R) :
    Tri Try.prog 15 [s.val].toArray L R (fun v L' R' => v = .int .i64 (siteErr s) ∧ L = L' ∧ R = R') := by
  have hsR := hs.sensors
  have hcR := hs.conds
  have hzR := hs.zones
  have hpR := hs.persons
  refine tri_enter 90 Try.call15 Try.func15 rfl rfl rfl ?_
  refine qae ?_
  refine qax ?_
  intro b1
  refine qad ?_
  refine qaw ?_
  refine qab ?_
  refine qa8 ?_
  refine q_l rfl (branchCheck_tri s.air _ _ hs.air) ?_
  refine qad ?_
  refine qam ?_
  refine qaa ?_
  refine qbq ?_
  refine qaf ?_
  refine q_c (fun hc0 => ?_) (fun hc0 => ?_)
  ·
   refine qae ?_
   refine qaa ?_
   refine qad ?_
   refine qbh ?_
   refine q_i (L' := L) (R' := R) ?_
   exact ⟨by rw [siteErr, if_pos hc0], rfl, rfl⟩
  refine qbo ?_
  refine qab ?_
  refine qac ?_
  refine qag ?_
  refine qa5 ?_
  refine qah ?_
  apply LJ_or (G := [_, _, _, _]) (j := 4) (cj := 23) rfl rfl (by rfl) rfl (show _ = Value.bool _ from rfl) rfl
  ·
   intro hg5
   replace hg5 := qb hg5
   refine qab ?_
   refine qac ?_
   refine qag ?_
   refine qa5 ?_
   exact qai
  intro junk5
  refine qah ?_
  apply LJ_or (G := [_, _, _, _]) (j := 10) (cj := 29) rfl rfl (by rfl) rfl (show _ = Value.bool _ from rfl) rfl
  ·
   intro hg11
   replace hg11 := qb hg11
   refine qab ?_
   refine qac ?_
   refine qag ?_
   refine qa5 ?_
   exact qai
  intro junk11
  refine qah ?_
  apply LJ_or (G := [_, _, _, _]) (j := 16) (cj := 35) rfl rfl (by rfl) rfl (show _ = Value.bool _ from rfl) rfl
  ·
   intro hg17
   replace hg17 := qb hg17
   refine qab ?_
   refine qac ?_
   refine qag ?_
   refine qa5 ?_
   exact qai
  intro junk17
  refine qaf ?_
  refine q_c (fun hc1 => ?_) (fun hc1 => ?_)
  ·
   refine qae ?_
   refine qad ?_
   refine qbh ?_
   refine q_i (L' := L) (R' := R) ?_
   exact ⟨by rw [siteErr, if_neg (by omega), if_pos (by omega)], rfl, rfl⟩
  refine qbo ?_
  refine ybkaa ?_
  refine q_l rfl (checkSensors_tri s _ _ hsR (by omega)) ?_
  refine qad ?_
  refine qam ?_
  refine qaa ?_
  refine qbq ?_
  refine qaf ?_
  refine q_c (fun hc2 => ?_) (fun hc2 => ?_)
  ·
   refine qae ?_
   refine qaa ?_
   refine qad ?_
   refine qbh ?_
   refine q_i (L' := L) (R' := R) ?_
   exact ⟨by rw [siteErr, if_neg (by omega), if_neg (by omega), if_pos hc2], rfl, rfl⟩
  refine qbo ?_
  refine qab ?_
  refine qac ?_
  refine qag ?_
  refine qaa ?_
  refine qa2 ?_
  refine CJ_forget [(1, Value.pointer _), (47, Value.slice _ _ _), (48, Value.int _ _), (49, Value.int _ _)] (by repeat' (first | exact trivial | refine And.intro rfl ?_)) fun tq0 => ?_
  refine q_s [2, 6, 7, 49, 50, 51, 52, 53, 54, 55, 56, 57, 58, 59] (fun g : FS (condF s) (s.conds.l) => [(49, .int .i64 ((g.1 : Nat) : Int))]) (fun g => (s.conds.l).length - g.1) ⟨0, FS_zero _ _⟩ ?_
  rintro ⟨k0, hk0, hp0⟩ junk
  try dsimp only
  refine qae ?_
  refine qaj ?_
  refine qa4 ?_
  refine q_c (fun hc3 => ?_) (fun hc3 => ?_)
  ·
   obtain ⟨c, hc⟩ := get_some (l := s.conds.l) (k := k0) (by omega)
   refine qbb ?_
   refine LJ_q (by first | exact yv_index_ro tb rfl rfl rfl rfl (by first | assumption | exact zr (by simp)) (i := k0) (by first | rfl | omega | (simp; omega)) (by omega) | exact yv_index tb rfl rfl rfl rfl (i := k0) (by first | rfl | omega | (simp; omega)) (by omega)) rfl ?_
   refine LJ_q (by first | exact yv_loadN_ro (row := [_, _, _, _, _, _]) tb rfl rfl rfl (by first | assumption | exact zr (by simp)) (by assumption) (by rfl) (by rfl) | exact yv_loadN (row := [_, _, _, _, _, _]) tb rfl rfl rfl (by repeat (first | exact zi0 | apply zi1 | apply zi2)) (by rfl) (by rfl)) rfl ?_
   refine qaq ?_
   intro b6
   refine qak ?_
   refine qam ?_
   refine ybkaa ?_
   refine LJ_q (yv_loadN (row := [_, _, _, _, _, _]) tb rfl rfl rfl (by repeat (first | exact zi0 | apply zi1 | apply zi2)) (by rfl) (by rfl)) rfl ?_
   refine q_l rfl (checkCond_tri s c _ _ hsR (by omega)) ?_
   refine qad ?_
   refine qam ?_
   refine qaa ?_
   refine qbq ?_
   refine qaf ?_
   refine q_c (fun hc4 => ?_) (fun hc4 => ?_)
   ·
    refine qae ?_
    refine qaa ?_
    refine qad ?_
    refine qbt ?_
    refine q_i (L' := L) (R' := R) ?_
    have e : condsErr s = condErr s.sensors.l s.air.mine.roads.l.length c := by rw [condsErr, FS_some (f := condF s) hp0 hc (nzO_some hc4)]; rfl
    exact ⟨by rw [siteErr, if_neg (by omega), if_neg (by omega), if_neg (by omega), if_pos (by rw [e]; exact hc4), e], rfl, rfl⟩
   refine qbj ?_
   refine qar ?_
   refine qaa ?_
   refine qav ?_
   exact q_k ⟨k0 + 1, FS_next hp0 hc (nzO_none (by omega))⟩
  have hn0 := FS_none hp0 (by omega)
  refine CJ_exit (seqK_exit (loopK_exit (blockK_exit (seqK_normal (CJ_seq (CJ_seq ?_))))))
  have hce : condsErr s = 0 := by rw [condsErr, hn0]; rfl
  refine qay ?_
  refine qab ?_
  refine qac ?_
  refine qag ?_
  refine qaa ?_
  refine qa2 ?_
  refine CJ_forget [(1, Value.pointer _), (61, Value.slice _ _ _), (62, Value.int _ _), (63, Value.int _ _)] (by repeat' (first | exact trivial | refine And.intro rfl ?_)) fun tq1 => ?_
  refine q_s [2, 9, 10, 63, 64, 65, 66, 67, 68, 69, 70, 71, 72, 73] (fun g : FS (zoneF s) (s.zones.l) => [(63, .int .i64 ((g.1 : Nat) : Int))]) (fun g => (s.zones.l).length - g.1) ⟨0, FS_zero _ _⟩ ?_
  rintro ⟨k1, hk1, hp1⟩ junk
  try dsimp only
  refine qae ?_
  refine qaj ?_
  refine qa4 ?_
  refine q_c (fun hc5 => ?_) (fun hc5 => ?_)
  ·
   obtain ⟨z, hz⟩ := get_some (l := s.zones.l) (k := k1) (by omega)
   refine qbb ?_
   refine LJ_q (by first | exact yv_index_ro tb rfl rfl rfl rfl (by first | assumption | exact zr (by simp)) (i := k1) (by first | rfl | omega | (simp; omega)) (by omega) | exact yv_index tb rfl rfl rfl rfl (i := k1) (by first | rfl | omega | (simp; omega)) (by omega)) rfl ?_
   refine qdr ?_
   refine qaq ?_
   intro b9
   refine qak ?_
   refine qam ?_
   refine ybkaa ?_
   refine qa8 ?_
   refine q_l rfl (checkZone_tri s z _ _ (InR.rule hzR hz) (InR.zroads hzR hz)) ?_
   refine qad ?_
   refine qam ?_
   refine qaa ?_
   refine qbq ?_
   refine qaf ?_
   refine q_c (fun hc6 => ?_) (fun hc6 => ?_)
   ·
    refine qae ?_
    refine qaa ?_
    refine qad ?_
    refine qbt ?_
    refine q_i (L' := L) (R' := R) ?_
    have e : zonesErr s = zoneErr s.conds.l.length s.air.mine.roads.l.length z := by rw [zonesErr, FS_some (f := zoneF s) hp1 hz (nzO_some hc6)]; rfl
    exact ⟨by rw [siteErr, if_neg (by omega), if_neg (by omega), if_neg (by omega), if_neg (by omega), if_pos (by rw [e]; exact hc6), e], rfl, rfl⟩
   refine qbj ?_
   refine qar ?_
   refine qaa ?_
   refine qav ?_
   exact q_k ⟨k1 + 1, FS_next hp1 hz (nzO_none (by omega))⟩
  have hn1 := FS_none hp1 (by omega)
  refine CJ_exit (seqK_exit (loopK_exit (blockK_exit (seqK_normal (CJ_seq (CJ_seq ?_))))))
  have hze : zonesErr s = 0 := by rw [zonesErr, hn1]; rfl
  refine qay ?_
  refine qab ?_
  refine qac ?_
  refine qag ?_
  refine qaa ?_
  refine qa2 ?_
  refine CJ_forget [(75, Value.slice _ _ _), (76, Value.int _ _), (77, Value.int _ _)] (by repeat' (first | exact trivial | refine And.intro rfl ?_)) fun tq2 => ?_
  refine q_s [2, 12, 77, 78, 79, 80, 81, 82, 83, 84, 85, 86, 87, 88, 89] (fun g : FS (persF) (s.persons.l) => [(77, .int .i64 ((g.1 : Nat) : Int))]) (fun g => (s.persons.l).length - g.1) ⟨0, FS_zero _ _⟩ ?_
  rintro ⟨k2, hk2, hp2⟩ junk
  try dsimp only
  refine qae ?_
  refine qaj ?_
  refine qa4 ?_
  refine q_c (fun hc7 => ?_) (fun hc7 => ?_)
  ·
   obtain ⟨p, hp⟩ := get_some (l := s.persons.l) (k := k2) (by omega)
   refine qbb ?_
   refine LJ_q (by first | exact yv_index_ro tb rfl rfl rfl rfl (by first | assumption | exact zr (by simp)) (i := k2) (by first | rfl | omega | (simp; omega)) (by omega) | exact yv_index tb rfl rfl rfl rfl (i := k2) (by first | rfl | omega | (simp; omega)) (by omega)) rfl ?_
   refine LJ_q (by first | exact yv_loadN_ro (row := [_]) tb rfl rfl rfl (by first | assumption | exact zr (by simp)) (by assumption) (by rfl) (by rfl) | exact yv_loadN (row := [_]) tb rfl rfl rfl (by repeat (first | exact zi0 | apply zi1 | apply zi2)) (by rfl) (by rfl)) rfl ?_
   refine qaq ?_
   intro b12
   refine qak ?_
   refine qam ?_
   refine qab ?_
   refine qac ?_
   refine qaj ?_
   refine qah ?_
   apply LJ_or (G := [_, _, _]) (j := 3) (cj := 84) rfl rfl (by rfl) rfl (show _ = Value.bool _ from rfl) rfl
   ·
    intro hg4
    replace hg4 := qb hg4
    refine qab ?_
    refine qac ?_
    refine qa5 ?_
    exact qai
   intro junk4
   refine qaf ?_
   refine q_c (fun hc8 => ?_) (fun hc8 => ?_)
   ·
    refine qae ?_
    refine qad ?_
    refine qbt ?_
    refine q_i (L' := L) (R' := R) ?_
    have e : personsErr s = 19 := by rw [personsErr, FS_some (f := persF) hp2 hp (show persF p = some 19 from if_pos hc8)]; rfl
    exact ybkab
   refine qbj ?_
   refine qar ?_
   refine qaa ?_
   refine qav ?_
   exact q_k ⟨k2 + 1, FS_next hp2 hp (show persF p = none from if_neg (by omega))⟩
  have hn2 := FS_none hp2 (by omega)
  refine qbk ?_
  refine qad ?_
  refine qa0 ?_
  refine q_i (L' := L) (R' := R) ?_
  have e : personsErr s = 0 := by rw [personsErr, hn2]; rfl
  exact ybkab
end Go.Proofs.Ytkpfjmibipblhaa
end
section
/-
  The value of a rule: rule.Eval. By an AI agent; no person has read it.
-/
set_option linter.unusedSimpArgs false
set_option linter.unusedVariables false
namespace Go.Proofs.Ytkpfjmibipblhaa
open Go.Aw Go
set_option maxRecDepth 20000
attribute [local irreducible] CJ LJ DJ Tri YV Gives seqK blockK loopK retK RV mergeK OwL.L
end Go.Proofs.Ytkpfjmibipblhaa
end
section
/-
  Rules, the reference's: part, Right, Check, value, Eval. By an AI agent; no person has read it.
-/
set_option linter.unusedSimpArgs false
set_option linter.unusedVariables false
namespace Go.Proofs.Ytkpfjmibipblhaa
open Go.Aw Go
set_option maxRecDepth 20000
attribute [local irreducible] CJ LJ DJ Tri YV Gives seqK blockK loopK retK RV mergeK OwL.L
end Go.Proofs.Ytkpfjmibipblhaa
end
section
/-
  Sites and their errors, the reference's. By an AI agent; no person has read it.
-/
set_option linter.unusedSimpArgs false
set_option linter.unusedVariables false
namespace Go.Proofs.Ytkpfjmibipblhaa
open Go.Aw Go
set_option maxRecDepth 20000
attribute [local irreducible] CJ LJ DJ Tri YV Gives seqK blockK loopK retK RV mergeK OwL.L
end Go.Proofs.Ytkpfjmibipblhaa
end
section
/-
  Restoring power: when a zone is ready, by the code and by the reference. By an AI agent; no person has read it.
-/
set_option linter.unusedSimpArgs false
set_option linter.unusedVariables false
namespace Go.Proofs.Ytkpfjmibipblhaa
open Go.Aw Go
set_option maxRecDepth 20000
attribute [local irreducible] CJ LJ DJ Tri YV Gives seqK blockK loopK retK RV mergeK OwL.L
def sureS (x : XSpan) : Int := if dirS x = 1 then x.low else if dirS x = -1 then -x.high else 0
def needS (r : XRoad) (fr : Int) : Int := 1000 * r.len * r.area * fr
def AirCh (r : XRoad) (x : XSpan) (fr sec : Int) : Prop := needS r fr = 0 ∨ 0 < sureS x ∧ needS r fr ≤ sureS x * sec
instance (r : XRoad) (x : XSpan) (fr sec : Int) : Decidable (AirCh r x fr sec) := by unfold AirCh; infer_instance
theorem dir_one {x : XSpan} (h : dirS x = 1) : sureS x = x.low ∧ 0 < x.low := by
  refine ⟨by rw [sureS, if_pos h], ?_⟩
  rw [dirS] at h
  split at h
  · cases h
  split at h
  · assumption
  split at h <;> cases h
theorem dir_neg {x : XSpan} (h : dirS x = -1) : sureS x = -x.high ∧ x.high < 0 := by
  refine ⟨by rw [sureS, if_neg (by omega), if_pos h], ?_⟩
  rw [dirS] at h
  split at h
  · cases h
  split at h
  · cases h
  split at h
  · assumption
  · cases h
theorem dir_no {x : XSpan} (h : dirS x ≠ 1) (h' : dirS x ≠ -1) : sureS x = 0 := by rw [sureS, if_neg h, if_neg h']
theorem need_rng {r : XRoad} {fr : Int} (h1 : 1 ≤ r.len ∧ r.len ≤ 100000) (h2 : 1 ≤ r.area ∧ r.area ≤ 1000) (h3 : 0 ≤ fr ∧ fr ≤ 100) :
    (0 ≤ 1000 * r.len * r.area ∧ 1000 * r.len * r.area ≤ 100000000000) ∧ 0 ≤ 1000 * r.len * r.area * fr ∧ 1000 * r.len * r.area * fr ≤ 10000000000000 := by
  have a0 : 0 ≤ 1000 * r.len * r.area := Int.mul_nonneg (by omega) (by omega)
  have a1 : 1000 * r.len * r.area ≤ 100000000 * 1000 := Int.mul_le_mul (by omega) (by omega) (by omega) (by omega)
  have b0 : 0 ≤ 1000 * r.len * r.area * fr := Int.mul_nonneg a0 (by omega)
  have b1 : 1000 * r.len * r.area * fr ≤ 100000000000 * 100 := Int.mul_le_mul (by omega) (by omega) (by omega) (by omega)
  omega
theorem ceil_iff {n s l : Int} (hn : 1 ≤ n) (hs : 0 < s) : (n + s - 1).tdiv s ≤ l ↔ n ≤ l * s := by
  rw [Int.tdiv_eq_ediv_of_nonneg (by omega)]
  have h := Int.ediv_lt_iff_lt_mul (a := n + s - 1) (b := l + 1) hs
  rw [Int.add_mul, Int.one_mul] at h
  omega
theorem changed_tri (r : XRoad) (x : XSpan) (fr sec : Int) (L : List Blk) (R : List Sl) (h1 : 1 ≤ r.len ∧ r.len ≤ 100000) (h2 : 1 ≤ r.area ∧ r.area ≤ 1000) (h3 : 0 ≤ fr ∧ fr ≤ 100) (h4 : 0 ≤ sec ∧ sec ≤ 2147483648) :
    Tri Try.prog 113 [r.val, x.val, .int .i64 fr, .int .i64 sec].toArray L R (fun v L' R' => v = .bool (decide (AirCh r x fr sec)) ∧ L = L' ∧ R = R') := by
  have hN := need_rng h1 h2 h3
  refine tri_enter 44 Try.call113 Try.func113 rfl rfl rfl ?_
  refine qae ?_
  refine qax ?_
  intro b4
  refine qax ?_
  intro b5
  refine qaz ?_
  refine qam ?_
  refine qab ?_
  refine qac ?_
  refine qcm ?_
  refine qab ?_
  refine qac ?_
  refine qcm ?_
  refine qaa ?_
  refine qcm ?_
  refine qad ?_
  refine qaw ?_
  refine qaa ?_
  refine qbn ?_
  refine qaf ?_
  refine q_c (fun hc0 => ?_) (fun hc0 => ?_)
  ·
   refine qae ?_
   refine qaz ?_
   refine qbh ?_
   refine q_b (L' := L) (R' := R) ?_
   exact ⟨by rw [decide_eq_true (p := AirCh r x fr sec) (.inl hc0)], rfl, rfl⟩
  have hn1 : 1 ≤ 1000 * r.len * r.area * fr := by omega
  refine qbo ?_
  refine qaa ?_
  refine qbn ?_
  refine qaf ?_
  refine q_c (fun hc1 => ?_) (fun hc1 => ?_)
  ·
   refine qae ?_
   refine qaz ?_
   refine qbh ?_
   refine q_b (L' := L) (R' := R) ?_
   refine ⟨by rw [decide_eq_false (p := AirCh r x fr sec)]; rintro (h | ⟨_, h⟩) <;> rw [needS] at h; omega; rw [hc1, Int.mul_zero] at h; omega, rfl, rfl⟩
  have hcl := fun l => ceil_iff (l := l) hn1 (show 0 < sec by omega)
  have hq0 : 0 ≤ (1000 * r.len * r.area * fr + sec - 1).tdiv sec := Int.tdiv_nonneg (by omega) (by omega)
  have hq1 : (1000 * r.len * r.area * fr + sec - 1).tdiv sec ≤ 100000000000000 := by
    rw [Int.tdiv_eq_ediv_of_nonneg (by omega)]
    have := Int.ediv_le_self (a := 1000 * r.len * r.area * fr + sec - 1) sec (by omega)
    omega
  refine qbv ?_
  refine qaa ?_
  refine qaa ?_
  refine qar ?_
  refine qa9 ?_
  refine qaa ?_
  refine qdd ?_
  refine qad ?_
  refine qaw ?_
  refine qbe ?_
  refine q_l rfl (direction_tri x _ _) ?_
  refine LJ_nil (seqK_normal (CJ_block (CJ_seq (CJ_region ?_))))
  refine qbn ?_
  refine qaz ?_
  refine qaf ?_
  refine q_c (fun hc2 => ?_) (fun hc2 => ?_)
  ·
   refine qae ?_
   refine qab ?_
   refine qac ?_
   refine qaa ?_
   refine qbz ?_
   refine qaz ?_
   refine qdb ?_
   refine q_b (L' := L) (R' := R) ?_
   have hd := dir_one hc2
   refine ⟨congrArg Value.bool (decide_eq_decide.2 ?_), rfl, rfl⟩
   rw [hcl, AirCh, needS, hd.1]
   omega
  refine qae ?_
  refine qbn ?_
  refine qaz ?_
  refine qaf ?_
  refine q_c (fun hc3 => ?_) (fun hc3 => ?_)
  ·
   refine qae ?_
   refine qab ?_
   refine qac ?_
   refine qaa ?_
   refine qcq ?_
   refine qbx ?_
   refine qaz ?_
   refine qdb ?_
   refine q_b (L' := L) (R' := R) ?_
   have hd := dir_neg hc3
   refine ⟨congrArg Value.bool (decide_eq_decide.2 ?_), rfl, rfl⟩
   have := hcl (-x.high)
   rw [AirCh, needS, hd.1]
   omega
  refine CJ_skip (blockK_normal (seqK_normal (CJ_seq (CJ_region ?_))))
  refine qaz ?_
  refine qa0 ?_
  refine q_b (L' := L) (R' := R) ?_
  have hd := dir_no hc2 hc3
  refine ⟨by rw [decide_eq_false (p := AirCh r x fr sec)]; rintro (h | ⟨h, _⟩); rw [needS] at h; omega; omega, rfl, rfl⟩
end Go.Proofs.Ytkpfjmibipblhaa
end
section
/-
  Sites without errors. Plain. By an AI agent; no person has read it.
-/
set_option linter.unusedSimpArgs false
set_option linter.unusedVariables false
namespace Go.Proofs.Ytkpfjmibipblhaa
open Go.Aw Go
theorem nzO_zero {e : Int} (h : nzO e = none) : e = 0 := by
  rw [nzO] at h
  split at h
  · assumption
  · cases h
theorem nzO_ne {e x : Int} (h : nzO e = some x) : x ≠ 0 := by
  rw [nzO] at h
  split at h
  · cases h
  · cases h; assumption
structure SiteOk (s : XSite) : Prop where
  air : airErr s.air = 0
  len : s.sensors.l.length ≤ 64 ∧ s.conds.l.length ≤ 64 ∧ s.zones.l.length ≤ 16 ∧ s.persons.l.length ≤ 64
  sens : ∀ i : Nat, i < s.sensors.l.length → sensAt s.air s.sensors.l i = none
  cond : ∀ c ∈ s.conds.l, condErr s.sensors.l s.air.mine.roads.l.length c = 0
  zone : ∀ z ∈ s.zones.l, zoneErr s.conds.l.length s.air.mine.roads.l.length z = 0
  pers : ∀ p ∈ s.persons.l, 1 ≤ p ∧ p ≤ 3
theorem sensAt_ne {a : XAir} {S : List XSens} {i : Nat} {e : Int} (h : sensAt a S i = some e) : e ≠ 0 := by
  rw [sensAt] at h
  split at h
  · cases h; assumption
  split at h
  · cases h; decide
  split at h
  · cases h; decide
  · cases h
theorem siteOk_of {s : XSite} (h : siteErr s = 0) : SiteOk s := by
  rw [siteErr] at h
  split at h
  · omega
  split at h
  · omega
  split at h
  · omega
  split at h
  · omega
  split at h
  · omega
  rename_i h1 h2 h3 h4 h5
  refine ⟨by omega, by omega, fun i hi => ?_, fun c hc => ?_, fun z hz => ?_, fun p hp => ?_⟩
  · have h3' : sensorsErr s.air s.sensors.l = 0 := by omega
    exact findSome_zero (f := sensAt s.air s.sensors.l) (fun x e hx => sensAt_ne hx) h3' i (List.mem_range.2 hi)
  · have h4' : condsErr s = 0 := by omega
    exact nzO_zero (findSome_zero (f := fun c => nzO (condErr s.sensors.l s.air.mine.roads.l.length c)) (fun x e hx => nzO_ne hx) h4' c hc)
  · have h5' : zonesErr s = 0 := by omega
    exact nzO_zero (findSome_zero (f := fun z => nzO (zoneErr s.conds.l.length s.air.mine.roads.l.length z)) (fun x e hx => nzO_ne hx) h5' z hz)
  · have := findSome_zero (f := fun p : Int => if p < 1 ∨ 3 < p then some 19 else none) (fun x e hx => by
      split at hx
      · cases hx; decide
      · cases hx) h p hp
    split at this
    · cases this
    · omega
theorem findSome_no {α β : Type} {f : α → Option β} {l : List α} (h : ∀ x ∈ l, f x = none) : l.findSome? f = none := List.findSome?_eq_none_iff.2 h
theorem SiteOk.err {s : XSite} (h : SiteOk s) : siteErr s = 0 := by
  have h1 := h.air
  have h2 := h.len
  have e1 : sensorsErr s.air s.sensors.l = 0 := by rw [sensorsErr, findSome_no (fun i hi => h.sens i (List.mem_range.1 hi))]; rfl
  have e2 : condsErr s = 0 := by rw [condsErr, findSome_no (fun c hc => by rw [nzO, if_pos (h.cond c hc)])]; rfl
  have e3 : zonesErr s = 0 := by rw [zonesErr, findSome_no (fun z hz => by rw [nzO, if_pos (h.zone z hz)])]; rfl
  have e4 : personsErr s = 0 := by rw [personsErr, findSome_no (fun p hp => if_neg (by have := h.pers p hp; omega))]; rfl
  rw [siteErr, if_neg (by omega), if_neg (by omega), if_neg (by omega), if_neg (by omega), if_neg (by omega), e4]
end Go.Proofs.Ytkpfjmibipblhaa
end
section
/-
  Restoring power: restore.ready, and the reference's. By an AI agent; no person has read it.
-/
set_option linter.unusedSimpArgs false
set_option linter.unusedVariables false
namespace Go.Proofs.Ytkpfjmibipblhaa
open Go.Aw Go
set_option maxRecDepth 20000
attribute [local irreducible] CJ LJ DJ Tri YV Gives seqK blockK loopK retK RV mergeK OwL.L
section
variable {A9 B9 : Prop}
theorem ybqaa (a : A9) (h : A9 → B9 := by exact DJ_q (by first | exact yv_index_ro tb rfl rfl rfl rfl (by first | assumption | exact zr (by simp)) (i := k.toNat) (by first | rfl | omega | (simp; omega)) (by omega) | exact yv_index tb rfl rfl rfl rfl (i := k.toNat) (by first | rfl | omega | (simp; omega)) (by omega)) rfl rfl rfl) : B9 := h a
theorem ybqab (a : A9) (h : A9 → B9 := by exact DJ_q (by first | exact yv_index_ro tb rfl rfl rfl rfl (by first | assumption | exact zr (by simp)) (i := (z.roads.l.getD j 0).toNat) (by first | rfl | omega | (simp; omega)) (by omega) | exact yv_index tb rfl rfl rfl rfl (i := (z.roads.l.getD j 0).toNat) (by first | rfl | omega | (simp; omega)) (by omega)) rfl rfl rfl) : B9 := h a
end
theorem road_rng {s : XSite} (h : SiteOk s) {r : XRoad} (hr : r ∈ s.air.mine.roads.l) : (1 ≤ r.len ∧ r.len ≤ 100000) ∧ (1 ≤ r.area ∧ r.area ≤ 1000) := by
  have h1 : mineErr s.air.mine = 0 := by
    have := h.air
    rw [airErr] at this
    split at this
    · exact this
    · rename_i h2; exact Decidable.not_not.1 h2
  unfold mineErr at h1
  split at h1
  · cases h1
  split at h1
  · rename_i e he
    subst h1
    obtain ⟨x, _, hx⟩ := List.exists_of_findSome?_eq_some he
    unfold placeErr at hx
    split at hx <;> cases hx
  have hall := findSome_zero (f := roadErr s.air.mine.places.l.length) (fun x e hx he => by
    subst he
    unfold roadErr at hx
    split at hx
    · cases hx
    · split at hx <;> cases hx) h1
  have := hall r hr
  unfold roadErr at this
  split at this
  · cases this
  split at this
  · cases this
  rename_i h2
  omega
theorem zone_rng {s : XSite} (h : SiteOk s) {z : XZone} (hz : z ∈ s.zones.l) : (0 ≤ z.hold ∧ z.hold ≤ 100000) ∧ (0 ≤ z.fresh ∧ z.fresh ≤ 100) ∧ ∀ i : Nat, i < z.roads.l.length → 0 ≤ z.roads.l.getD i 0 ∧ z.roads.l.getD i 0 < s.air.mine.roads.l.length := by
  have := h.zone z hz
  rw [zoneErr] at this
  split at this
  · omega
  split at this
  · cases this
  rename_i h1
  split at this
  · cases this
  rename_i h2
  refine ⟨by omega, by omega, fun i hi => ?_⟩
  have : ¬ roadBad s.air.mine.roads.l.length z.roads.l i := fun hb => h2 ⟨i, hi, hb⟩
  rw [roadBad] at this
  omega
theorem zone_len {s : XSite} (h : SiteOk s) {z : XZone} (hz : z ∈ s.zones.l) : z.roads.l.length ≤ 128 := by
  have := h.zone z hz
  rw [zoneErr] at this
  split at this
  · omega
  split at this
  · cases this
  split at this
  · cases this
  rename_i h2
  have hb : ∀ i : Nat, i < z.roads.l.length → ¬ roadBad s.air.mine.roads.l.length z.roads.l i := fun i hi hb => h2 ⟨i, hi, hb⟩
  have up : ∀ i : Nat, i < z.roads.l.length → (i : Int) ≤ z.roads.l.getD i 0 := by
    intro i
    induction i with
    | zero => intro hi; have := hb 0 hi; rw [roadBad] at this; omega
    | succ i ih =>
      intro hi
      have h1 := ih (by omega)
      have h2 := hb (i + 1) hi
      rw [roadBad, Nat.add_sub_cancel] at h2
      omega
  have hn := (airOk_of h.air).mine.roads
  rcases Nat.lt_or_ge 128 z.roads.l.length with h3 | h3
  · have h4 := up 128 h3
    have h5 := hb 128 h3
    rw [roadBad] at h5
    omega
  · exact h3
def roadWait (s : XSite) (fl : List XSpan) (z : XZone) (sec r : Int) : Prop := ¬ AirCh (s.air.mine.roads.l.getD r.toNat default) (fl.getD r.toNat default) z.fresh sec
instance (s : XSite) (fl : List XSpan) (z : XZone) (sec r : Int) : Decidable (roadWait s fl z sec r) := by unfold roadWait; infer_instance
def readyZ (s : XSite) (fl : List XSpan) (c : XCut) (z : XZone) (t : Int) : Int :=
  if c.off = false then 10
  else if (c.clear < 0 ∨ t < c.clear) ∨ t - c.clear < z.hold then 20
  else if ∃ r ∈ z.roads.l, roadWait s fl z (t - c.clear) r then 20 else 0
def readyE (s : XSite) (c : List XCut) (fl : List XSpan) (k t : Int) : Int :=
  if k < 0 ∨ (c.length : Int) ≤ k then 17 else readyZ s fl (c.getD k.toNat default) (s.zones.l.getD k.toNat default) t
theorem ready_no {s : XSite} {fl : List XSpan} {c : XCut} {z : XZone} {t : Int} (h1 : c.off = true) (h2 : ¬ ((c.clear < 0 ∨ t < c.clear) ∨ t - c.clear < z.hold)) (h3 : ∀ j : Nat, j < z.roads.l.length → ¬ roadWait s fl z (t - c.clear) (z.roads.l.getD j 0)) : readyZ s fl c z t = 0 := by
  rw [readyZ, if_neg (by rw [h1]; decide), if_neg h2, if_neg]
  rintro ⟨r, hr, hw⟩
  obtain ⟨j, hj, rfl⟩ := List.getElem_of_mem hr
  have := h3 j hj
  rw [List.getD_eq_getElem?_getD, List.getElem?_eq_getElem hj] at this
  exact this hw
theorem ready_yes {s : XSite} {fl : List XSpan} {c : XCut} {z : XZone} {t r : Int} (h1 : c.off = true) (h2 : ¬ ((c.clear < 0 ∨ t < c.clear) ∨ t - c.clear < z.hold)) (hr : r ∈ z.roads.l) (h3 : roadWait s fl z (t - c.clear) r) : readyZ s fl c z t = 20 := by
  rw [readyZ, if_neg (by rw [h1]; decide), if_neg h2, if_pos ⟨r, hr, h3⟩]
structure RestA (s : XSite) (c : Arr XCut) (fl : Arr XSpan) (R : List Sl) : Prop where
  site : SiteR s R
  cuts : InR (cusl c) R
  flows : InR (spsl fl) R
theorem RestA.mono {s : XSite} {c : Arr XCut} {fl : Arr XSpan} {R R' : List Sl} (h : RestA s c fl R) (k : ∀ r ∈ R, InR r R') : RestA s c fl R' := ⟨h.site.mono k, h.cuts.mono k, h.flows.mono k⟩
theorem ready_tri (s : XSite) (c : Arr XCut) (fl : Arr XSpan) (k t : Int) (L : List Blk) (R : List Sl) (h : RestA s c fl R) (hok : SiteOk s) (hlen : c.l.length = s.zones.l.length ∧ fl.l.length = s.air.mine.roads.l.length) (ht : 0 ≤ t ∧ t ≤ 2147483648) :
    Tri Try.prog 76 [s.val, c.val, fl.val, .int .i64 k, .int .i64 t].toArray L R (fun v L' R' => v = .int .i64 (readyE s c.l fl.l k t) ∧ L = L' ∧ R = R') := by
  have hcR := h.cuts
  have hfR := h.flows
  have hzR := h.site.zones
  have hrR := h.site.air.roads
  have hsl := hok.len
  refine tri_enter 80 Try.call76 Try.func76 rfl rfl rfl ?_
  refine qae ?_
  refine qax ?_
  intro b5
  refine qad ?_
  refine qaw ?_
  refine qaa ?_
  refine qaj ?_
  refine qah ?_
  apply LJ_or (G := [_, _, _, _]) (j := 2) (cj := 17) rfl rfl (by rfl) rfl (show _ = Value.bool _ from rfl) rfl
  ·
   intro hg3
   replace hg3 := qb hg3
   refine qaa ?_
   refine qbm ?_
   refine qag ?_
   refine qbz ?_
   exact qai
  intro junk3
  refine qaf ?_
  refine q_c (fun hc0 => ?_) (fun hc0 => ?_)
  ·
   refine qae ?_
   refine qad ?_
   refine qbh ?_
   refine q_i (L' := L) (R' := R) ?_
   exact ⟨by rw [readyE, if_pos (by omega)], rfl, rfl⟩
  have hcg := get_D (l := c.l) (k := k.toNat) default (by omega)
  have hzg := get_D (l := s.zones.l) (k := k.toNat) default (by omega)
  have he : readyE s c.l fl.l k t = readyZ s fl.l (c.l.getD k.toNat default) (s.zones.l.getD k.toNat default) t := by rw [readyE, if_neg (by omega)]
  obtain ⟨z, hz⟩ : ∃ z, z = s.zones.l.getD k.toNat default := ⟨_, rfl⟩
  obtain ⟨x, hx⟩ : ∃ x, x = c.l.getD k.toNat default := ⟨_, rfl⟩
  rw [← hz] at hzg he
  rw [← hx] at hcg he
  have hzr := zone_rng hok (List.mem_of_getElem? hzg)
  have hzl := zone_len hok (List.mem_of_getElem? hzg)
  have hzroR : InR (isl z.roads) R := InR.zroads hzR hzg
  refine qcl ?_
  refine CJ_drawn tb [0, 1, 2, 3, 4, 5, 6, 7, 8, 9, 10, 11, 12] _ mixed (by kernel_rfl) (List.Sublist.refl _) ?_
  refine DJ_q (yv_move (show _ = Value.slice _ _ _ from rfl)) rfl rfl rfl ?_
  refine qao ?_
  refine ybqaa ?_
  refine qdv ?_
  refine qal ?_
  refine qat ?_
  refine qao ?_
  refine ybqaa ?_
  refine qdp ?_
  refine qbr ?_
  intro b11
  refine qbr ?_
  intro b12
  refine qbg ?_
  refine qbg ?_
  refine qc6 ?_
  refine qab ?_
  refine qac ?_
  refine qb4 ?_
  refine qaf ?_
  refine q_c (fun hc1 => ?_) (fun hc1 => ?_)
  ·
   refine qae ?_
   refine qad ?_
   refine qbh ?_
   refine q_i (L' := L) (R' := R) ?_
   exact ⟨by rw [he, readyZ, if_pos (by simpa using hc1)], rfl, rfl⟩
  have hoff : x.off = true := by simpa using hc1
  refine qbo ?_
  refine qab ?_
  refine qac ?_
  refine qaj ?_
  refine qah ?_
  apply LJ_or (G := [_, _, _, _]) (j := 3) (cj := 38) rfl rfl (by rfl) rfl (show _ = Value.bool _ from rfl) rfl
  ·
   intro hg4
   replace hg4 := qb hg4
   refine qab ?_
   refine qac ?_
   refine qaa ?_
   refine qa5 ?_
   exact qai
  intro junk4
  refine qah ?_
  apply LJ_or (G := [_, _, _, _, _, _, _]) (j := 9) (cj := 44) rfl rfl (by rfl) rfl (show _ = Value.bool _ from rfl) rfl
  ·
   intro hg10
   replace hg10 := qb hg10
   refine qaa ?_
   refine qab ?_
   refine qac ?_
   refine qa9 ?_
   refine qab ?_
   refine qac ?_
   refine qaj ?_
   exact qai
  intro junk10
  refine qaf ?_
  refine q_c (fun hc2 => ?_) (fun hc2 => ?_)
  ·
   refine qae ?_
   refine qad ?_
   refine qbh ?_
   refine q_i (L' := L) (R' := R) ?_
   exact ⟨by rw [he, readyZ, if_neg (by rw [hoff]; decide), if_pos (by omega)], rfl, rfl⟩
  refine qbo ?_
  refine qab ?_
  refine qac ?_
  refine qag ?_
  refine qaa ?_
  refine qa2 ?_
  refine CJ_forget [(2, Value.slice _ _ _), (4, Value.int _ _), (5, Value.pointer _), (11, Value.pointer _), (12, Value.pointer _), (54, Value.slice _ _ _), (55, Value.int _ _), (56, Value.int _ _)] (by repeat' (first | exact trivial | refine And.intro rfl ?_)) fun tq0 => ?_
  refine q_s [10, 14, 56, 57, 58, 59, 60, 61, 62, 63, 64, 65, 66, 67, 68, 69, 70, 71, 72, 73, 74, 75, 76, 77, 78, 79] (fun g : {j : Nat // j ≤ z.roads.l.length ∧ ∀ m : Nat, m < j → ¬ roadWait s fl.l z (t - x.clear) (z.roads.l.getD m 0)} => [(56, .int .i64 ((g.1 : Nat) : Int))]) (fun g => z.roads.l.length - g.1) (⟨0, by omega, fun m hm => by omega⟩) ?_
  rintro ⟨j, hj, hal⟩ junk
  try dsimp only
  refine qae ?_
  refine qaj ?_
  refine qa4 ?_
  refine q_c (fun hc3 => ?_) (fun hc3 => ?_)
  ·
   have hjg := get_D (l := z.roads.l) (k := j) 0 (by omega)
   have hjr := hzr.2.2 j (by omega)
   have hrg := get_D (l := s.air.mine.roads.l) (k := (z.roads.l.getD j 0).toNat) default (by omega)
   have hfg := get_D (l := fl.l) (k := (z.roads.l.getD j 0).toNat) default (by omega)
   have hrr := road_rng hok (List.mem_of_getElem? hrg)
   refine qbb ?_
   refine LJ_q (by first | exact yv_index_ro tb rfl rfl rfl rfl (by first | assumption | exact zr (by simp)) (i := j) (by first | rfl | omega | (simp; omega)) (by omega) | exact yv_index tb rfl rfl rfl rfl (i := j) (by first | rfl | omega | (simp; omega)) (by omega)) rfl ?_
   refine qa7 ?_
   refine qad ?_
   refine qa4 ?_
   refine CJ_drawn tb [0, 1, 2, 3, 4, 5, 6, 7, 8, 9, 10, 11, 12, 13, 14, 15, 16, 17, 18] _ mixed (by kernel_rfl) (List.Sublist.refl _) ?_
   iterate 3 refine qal ?_
   refine qat ?_
   refine qao ?_
   refine ybqab ?_
   refine DJ_q (by first | exact yv_loadN_ro (row := [_, _, _, _, _, _, _, _, _, _]) tb rfl rfl rfl (by first | assumption | exact zr (by simp)) (by assumption) (by rfl) (by rfl) | exact yv_loadN (row := [_, _, _, _, _, _, _, _, _, _]) tb rfl rfl rfl (by repeat (first | exact zi0 | apply zi1 | apply zi2)) (by rfl) (by rfl)) rfl rfl rfl ?_
   refine DJ_q (yv_move (show _ = Value.slice _ _ _ from rfl)) rfl rfl rfl ?_
   refine qao ?_
   refine ybqab ?_
   refine qdo ?_
   refine qal ?_
   refine qat ?_
   refine qao ?_
   refine qal ?_
   refine qat ?_
   refine qb7 ?_
   refine q_d rfl (changed_tri (s.air.mine.roads.l.getD (z.roads.l.getD j 0).toNat default) (fl.l.getD (z.roads.l.getD j 0).toNat default) z.fresh (t - x.clear) _ _ hrr.1 hrr.2 hzr.2.1 (by omega)) ?_
   refine DJ_q (yv_not rfl) rfl rfl rfl ?_
   refine qbu ?_
   refine q_c (fun hc4 => ?_) (fun hc4 => ?_)
   ·
    refine qae ?_
    refine qad ?_
    refine qbt ?_
    refine q_i (L' := L) (R' := R) ?_
    exact ⟨by rw [he, ready_yes hoff (by omega) (List.mem_of_getElem? hjg) (by rw [roadWait]; simpa using hc4)], rfl, rfl⟩
   refine qbj ?_
   refine qar ?_
   refine qaa ?_
   refine qav ?_
   exact loopK_mk (⟨j + 1, by omega, fun m hm => by
   rcases Nat.lt_or_ge m j with h | h
   · exact hal m h
   · obtain rfl : m = j := by omega
     rw [roadWait]; simpa using hc4⟩) (by repeat (first | exact Off.refl | apply Off.upd rfl | apply Off.havoc rfl | apply Off.updL rfl | apply Off.left rfl)) (by repeat' (first | exact trivial | refine And.intro rfl ?_)) (by repeat (first | exact zs0 _ | exact zs1 _ | apply zs2 | apply zs3 | apply zs4 | apply zs5)) (allR_self _) (by dsimp only; omega)
  refine qbk ?_
  refine qad ?_
  refine qa0 ?_
  refine q_i (L' := L) (R' := R) ?_
  exact ⟨by rw [he, ready_no hoff (by omega) (fun m hm => hal m (by omega))], rfl, rfl⟩
end Go.Proofs.Ytkpfjmibipblhaa
end
