import Derived.Test.YtlgjgigciapkfaaDraw13
import Derived.Test.YtlgjgigciapkfaaSiteD
section
/-
  What measurements say later, the reference's: ref05.Check, ref06.At, ref06.Meet. By an AI agent; no person has read it.
-/
set_option linter.unusedSimpArgs false
set_option linter.unusedVariables false
namespace Go.Proofs.Ytlgjgigciapkfaa
open Go.Aw Go
set_option maxRecDepth 20000
attribute [local irreducible] CJ LJ DJ Tri YV Gives seqK blockK loopK retK RV mergeK OwL.L

end Go.Proofs.Ytlgjgigciapkfaa
end
section
/-
  Sites and their errors: cutoff.Check, cutoff.Known, and what is known of a fan. By an AI agent; no person has read it.
-/
set_option linter.unusedSimpArgs false
set_option linter.unusedVariables false
namespace Go.Proofs.Ytlgjgigciapkfaa
open Go.Aw Go
set_option maxRecDepth 20000
attribute [local irreducible] CJ LJ DJ Tri YV Gives seqK blockK loopK retK RV mergeK OwL.L
section
variable {A9 B9 : Prop}
theorem ybsaa (a : A9) (h : A9 → B9 := by exact LJ_q (yv_loadN (row := [_, _, _, _, _, _, _, _]) tb rfl rfl rfl (by repeat (first | exact zi0 | apply zi1 | apply zi2)) (by rfl) (by rfl)) rfl) : B9 := h a
theorem ybsab (h : B9 := by exact ⟨by rw [siteErr, if_neg (by omega), if_neg (by omega), if_neg (by omega), if_neg (by omega), if_neg (by omega), e], rfl, rfl⟩) : B9 := h
theorem ybsac (a : A9) (h : A9 → B9 := by exact DJ3_q (by first | exact yv_index_ro tb rfl rfl rfl rfl (by first | assumption | exact zr (by simp)) (i := n.toNat) (by first | rfl | omega | (simp; omega)) (by omega) | exact yv_index tb rfl rfl rfl rfl (i := n.toNat) (by first | rfl | omega | (simp; omega)) (by omega)) rfl rfl rfl rfl) : B9 := h a
end
theorem nzO_none {e : Int} (h : e = 0) : nzO e = none := by rw [nzO, if_pos h]
theorem nzO_some {e : Int} (h : e ≠ 0) : nzO e = some e := by rw [nzO, if_neg h]
abbrev condF (s : XSite) : XCond → Option Int := fun c => nzO (condErr s.sensors.l s.air.mine.roads.l.length c)
abbrev zoneF (s : XSite) : XZone → Option Int := fun z => nzO (zoneErr s.conds.l.length s.air.mine.roads.l.length z)
abbrev persF : Int → Option Int := fun p => if p < 1 ∨ 3 < p then some 19 else none
theorem siteCheck_tri (s : XSite) (L : List Blk) (R : List Sl) (hs : SiteR s R) :
    Tri Try.prog 18 [s.val].toArray L R (fun v L' R' => v = .int .i64 (siteErr s) ∧ L = L' ∧ R = R') := by
  have hsR := hs.sensors
  have hcR := hs.conds
  have hzR := hs.zones
  have hpR := hs.persons
  refine tri_enter 90 Try.call18 Try.func18 rfl rfl rfl ?_
  refine qae ?_
  refine qax ?_
  intro b1
  refine qad ?_
  refine qaw ?_
  refine qab ?_
  refine qa8 ?_
  refine q_l rfl (branchCheck_tri s.air _ _ hs.air) ?_
  refine qad ?_
  refine qam ?_
  refine qaa ?_
  refine qbq ?_
  refine qaf ?_
  refine q_c (fun hc0 => ?_) (fun hc0 => ?_)
  ·
   refine qae ?_
   refine qaa ?_
   refine qad ?_
   refine qbh ?_
   refine q_i (L' := L) (R' := R) ?_
   exact ⟨by rw [siteErr, if_pos hc0], rfl, rfl⟩
  refine qbo ?_
  refine qab ?_
  refine qac ?_
  refine qag ?_
  refine qa5 ?_
  refine qah ?_
  apply LJ_or (G := [_, _, _, _]) (j := 4) (cj := 23) rfl rfl (by rfl) rfl (show _ = Value.bool _ from rfl) rfl
  ·
   intro hg5
   replace hg5 := qb hg5
   refine qab ?_
   refine qac ?_
   refine qag ?_
   refine qa5 ?_
   exact qai
  intro junk5
  refine qah ?_
  apply LJ_or (G := [_, _, _, _]) (j := 10) (cj := 29) rfl rfl (by rfl) rfl (show _ = Value.bool _ from rfl) rfl
  ·
   intro hg11
   replace hg11 := qb hg11
   refine qab ?_
   refine qac ?_
   refine qag ?_
   refine qa5 ?_
   exact qai
  intro junk11
  refine qah ?_
  apply LJ_or (G := [_, _, _, _]) (j := 16) (cj := 35) rfl rfl (by rfl) rfl (show _ = Value.bool _ from rfl) rfl
  ·
   intro hg17
   replace hg17 := qb hg17
   refine qab ?_
   refine qac ?_
   refine qag ?_
   refine qa5 ?_
   exact qai
  intro junk17
  refine qaf ?_
  refine q_c (fun hc1 => ?_) (fun hc1 => ?_)
  ·
   refine qae ?_
   refine qad ?_
   refine qbh ?_
   refine q_i (L' := L) (R' := R) ?_
   exact ⟨by rw [siteErr, if_neg (by omega), if_pos (by omega)], rfl, rfl⟩
  refine qbo ?_
  refine ybsaa ?_
  refine q_l rfl (checkSensors_tri s _ _ hsR (by omega)) ?_
  refine qad ?_
  refine qam ?_
  refine qaa ?_
  refine qbq ?_
  refine qaf ?_
  refine q_c (fun hc2 => ?_) (fun hc2 => ?_)
  ·
   refine qae ?_
   refine qaa ?_
   refine qad ?_
   refine qbh ?_
   refine q_i (L' := L) (R' := R) ?_
   exact ⟨by rw [siteErr, if_neg (by omega), if_neg (by omega), if_pos hc2], rfl, rfl⟩
  refine qbo ?_
  refine qab ?_
  refine qac ?_
  refine qag ?_
  refine qaa ?_
  refine qa2 ?_
  refine CJ_forget [(1, Value.pointer _), (47, Value.slice _ _ _), (48, Value.int _ _), (49, Value.int _ _)] (by repeat' (first | exact trivial | refine And.intro rfl ?_)) fun tq0 => ?_
  refine q_s [2, 6, 7, 49, 50, 51, 52, 53, 54, 55, 56, 57, 58, 59] (fun g : FS (condF s) (s.conds.l) => [(49, .int .i64 ((g.1 : Nat) : Int))]) (fun g => (s.conds.l).length - g.1) ⟨0, FS_zero _ _⟩ ?_
  rintro ⟨k0, hk0, hp0⟩ junk
  try dsimp only
  refine qae ?_
  refine qaj ?_
  refine qa4 ?_
  refine q_c (fun hc3 => ?_) (fun hc3 => ?_)
  ·
   obtain ⟨c, hc⟩ := get_some (l := s.conds.l) (k := k0) (by omega)
   refine qbb ?_
   refine LJ_q (by first | exact yv_index_ro tb rfl rfl rfl rfl (by first | assumption | exact zr (by simp)) (i := k0) (by first | rfl | omega | (simp; omega)) (by omega) | exact yv_index tb rfl rfl rfl rfl (i := k0) (by first | rfl | omega | (simp; omega)) (by omega)) rfl ?_
   refine LJ_q (by first | exact yv_loadN_ro (row := [_, _, _, _, _, _]) tb rfl rfl rfl (by first | assumption | exact zr (by simp)) (by assumption) (by rfl) (by rfl) | exact yv_loadN (row := [_, _, _, _, _, _]) tb rfl rfl rfl (by repeat (first | exact zi0 | apply zi1 | apply zi2)) (by rfl) (by rfl)) rfl ?_
   refine qaq ?_
   intro b6
   refine qak ?_
   refine qam ?_
   refine ybsaa ?_
   refine LJ_q (yv_loadN (row := [_, _, _, _, _, _]) tb rfl rfl rfl (by repeat (first | exact zi0 | apply zi1 | apply zi2)) (by rfl) (by rfl)) rfl ?_
   refine q_l rfl (checkCond_tri s c _ _ hsR (by omega)) ?_
   refine qad ?_
   refine qam ?_
   refine qaa ?_
   refine qbq ?_
   refine qaf ?_
   refine q_c (fun hc4 => ?_) (fun hc4 => ?_)
   ·
    refine qae ?_
    refine qaa ?_
    refine qad ?_
    refine qbt ?_
    refine q_i (L' := L) (R' := R) ?_
    have e : condsErr s = condErr s.sensors.l s.air.mine.roads.l.length c := by rw [condsErr, FS_some (f := condF s) hp0 hc (nzO_some hc4)]; rfl
    exact ⟨by rw [siteErr, if_neg (by omega), if_neg (by omega), if_neg (by omega), if_pos (by rw [e]; exact hc4), e], rfl, rfl⟩
   refine qbj ?_
   refine qar ?_
   refine qaa ?_
   refine qav ?_
   exact q_k ⟨k0 + 1, FS_next hp0 hc (nzO_none (by omega))⟩
  have hn0 := FS_none hp0 (by omega)
  refine CJ_exit (seqK_exit (loopK_exit (blockK_exit (seqK_normal (CJ_seq (CJ_seq ?_))))))
  have hce : condsErr s = 0 := by rw [condsErr, hn0]; rfl
  refine qay ?_
  refine qab ?_
  refine qac ?_
  refine qag ?_
  refine qaa ?_
  refine qa2 ?_
  refine CJ_forget [(1, Value.pointer _), (61, Value.slice _ _ _), (62, Value.int _ _), (63, Value.int _ _)] (by repeat' (first | exact trivial | refine And.intro rfl ?_)) fun tq1 => ?_
  refine q_s [2, 9, 10, 63, 64, 65, 66, 67, 68, 69, 70, 71, 72, 73] (fun g : FS (zoneF s) (s.zones.l) => [(63, .int .i64 ((g.1 : Nat) : Int))]) (fun g => (s.zones.l).length - g.1) ⟨0, FS_zero _ _⟩ ?_
  rintro ⟨k1, hk1, hp1⟩ junk
  try dsimp only
  refine qae ?_
  refine qaj ?_
  refine qa4 ?_
  refine q_c (fun hc5 => ?_) (fun hc5 => ?_)
  ·
   obtain ⟨z, hz⟩ := get_some (l := s.zones.l) (k := k1) (by omega)
   refine qbb ?_
   refine LJ_q (by first | exact yv_index_ro tb rfl rfl rfl rfl (by first | assumption | exact zr (by simp)) (i := k1) (by first | rfl | omega | (simp; omega)) (by omega) | exact yv_index tb rfl rfl rfl rfl (i := k1) (by first | rfl | omega | (simp; omega)) (by omega)) rfl ?_
   refine qdr ?_
   refine qaq ?_
   intro b9
   refine qak ?_
   refine qam ?_
   refine ybsaa ?_
   refine qa8 ?_
   refine q_l rfl (checkZone_tri s z _ _ (InR.rule hzR hz) (InR.zroads hzR hz)) ?_
   refine qad ?_
   refine qam ?_
   refine qaa ?_
   refine qbq ?_
   refine qaf ?_
   refine q_c (fun hc6 => ?_) (fun hc6 => ?_)
   ·
    refine qae ?_
    refine qaa ?_
    refine qad ?_
    refine qbt ?_
    refine q_i (L' := L) (R' := R) ?_
    have e : zonesErr s = zoneErr s.conds.l.length s.air.mine.roads.l.length z := by rw [zonesErr, FS_some (f := zoneF s) hp1 hz (nzO_some hc6)]; rfl
    exact ⟨by rw [siteErr, if_neg (by omega), if_neg (by omega), if_neg (by omega), if_neg (by omega), if_pos (by rw [e]; exact hc6), e], rfl, rfl⟩
   refine qbj ?_
   refine qar ?_
   refine qaa ?_
   refine qav ?_
   exact q_k ⟨k1 + 1, FS_next hp1 hz (nzO_none (by omega))⟩
  have hn1 := FS_none hp1 (by omega)
  refine CJ_exit (seqK_exit (loopK_exit (blockK_exit (seqK_normal (CJ_seq (CJ_seq ?_))))))
  have hze : zonesErr s = 0 := by rw [zonesErr, hn1]; rfl
  refine qay ?_
  refine qab ?_
  refine qac ?_
  refine qag ?_
  refine qaa ?_
  refine qa2 ?_
  refine CJ_forget [(75, Value.slice _ _ _), (76, Value.int _ _), (77, Value.int _ _)] (by repeat' (first | exact trivial | refine And.intro rfl ?_)) fun tq2 => ?_
  refine q_s [2, 12, 77, 78, 79, 80, 81, 82, 83, 84, 85, 86, 87, 88, 89] (fun g : FS (persF) (s.persons.l) => [(77, .int .i64 ((g.1 : Nat) : Int))]) (fun g => (s.persons.l).length - g.1) ⟨0, FS_zero _ _⟩ ?_
  rintro ⟨k2, hk2, hp2⟩ junk
  try dsimp only
  refine qae ?_
  refine qaj ?_
  refine qa4 ?_
  refine q_c (fun hc7 => ?_) (fun hc7 => ?_)
  ·
   obtain ⟨p, hp⟩ := get_some (l := s.persons.l) (k := k2) (by omega)
   refine qbb ?_
   refine LJ_q (by first | exact yv_index_ro tb rfl rfl rfl rfl (by first | assumption | exact zr (by simp)) (i := k2) (by first | rfl | omega | (simp; omega)) (by omega) | exact yv_index tb rfl rfl rfl rfl (i := k2) (by first | rfl | omega | (simp; omega)) (by omega)) rfl ?_
   refine LJ_q (by first | exact yv_loadN_ro (row := [_]) tb rfl rfl rfl (by first | assumption | exact zr (by simp)) (by assumption) (by rfl) (by rfl) | exact yv_loadN (row := [_]) tb rfl rfl rfl (by repeat (first | exact zi0 | apply zi1 | apply zi2)) (by rfl) (by rfl)) rfl ?_
   refine qaq ?_
   intro b12
   refine qak ?_
   refine qam ?_
   refine qab ?_
   refine qac ?_
   refine qaj ?_
   refine qah ?_
   apply LJ_or (G := [_, _, _]) (j := 3) (cj := 84) rfl rfl (by rfl) rfl (show _ = Value.bool _ from rfl) rfl
   ·
    intro hg4
    replace hg4 := qb hg4
    refine qab ?_
    refine qac ?_
    refine qa5 ?_
    exact qai
   intro junk4
   refine qaf ?_
   refine q_c (fun hc8 => ?_) (fun hc8 => ?_)
   ·
    refine qae ?_
    refine qad ?_
    refine qbt ?_
    refine q_i (L' := L) (R' := R) ?_
    have e : personsErr s = 19 := by rw [personsErr, FS_some (f := persF) hp2 hp (show persF p = some 19 from if_pos hc8)]; rfl
    exact ybsab
   refine qbj ?_
   refine qar ?_
   refine qaa ?_
   refine qav ?_
   exact q_k ⟨k2 + 1, FS_next hp2 hp (show persF p = none from if_neg (by omega))⟩
  have hn2 := FS_none hp2 (by omega)
  refine qbk ?_
  refine qad ?_
  refine qa0 ?_
  refine q_i (L' := L) (R' := R) ?_
  have e : personsErr s = 0 := by rw [personsErr, hn2]; rfl
  exact ybsab
theorem known_tri (s : XSite) (m : Arr XMeas) (n t : Int) (L : List Blk) (R : List Sl) (hs : InR (sesl s.sensors) R) (hm : InR (mesl m) R) (hok : ∀ x ∈ m.l, MeasOk x) (ht : 0 ≤ t ∧ t ≤ 2147483648) :
    Tri Try.prog 24 [s.val, m.val, .int .i64 n, .int .i64 t].toArray L R (fun v L' R' => v = (knownS s.sensors.l m.l n t).val ∧ L = L' ∧ R = R') := by
  refine tri_enter 42 Try.call24 Try.func24 rfl rfl rfl ?_
  refine qae ?_
  refine qax ?_
  intro b4
  refine qaq ?_
  intro b8
  refine qaw ?_
  refine qaa ?_
  refine qab ?_
  refine qac ?_
  refine qag ?_
  refine q_l rfl (has_tri n (s.sensors.l.length : Int) _ _) ?_
  refine qb4 ?_
  refine qah ?_
  apply LJ_or (G := [_, _, _, _]) (j := 6) (cj := 15) rfl rfl (by rfl) rfl (show _ = Value.bool _ from rfl) rfl
  ·
   intro hg7
   replace hg7 := qb hg7
   refine qaa ?_
   refine qbm ?_
   refine qag ?_
   refine qbz ?_
   exact qai
  intro junk7
  refine qah ?_
  apply LJ_or (G := [_, _, _, _, _, _, _]) (j := 12) (cj := 21) rfl rfl (by rfl) rfl (show _ = Value.bool _ from rfl) rfl
  ·
   intro hg13
   replace hg13 := qb hg13
   have hmg := get_D (l := m.l) (k := n.toNat) default (by (try simp at hg13); omega)
   refine qbm ?_
   refine qaa ?_
   have hnn : 0 ≤ n ∧ n < m.l.length := by (try simp at hg13); omega
   refine LJ_q (by first | exact yv_index_ro tb rfl rfl rfl rfl (by first | assumption | exact zr (by simp)) (i := n.toNat) (by first | rfl | omega | (simp; omega)) (by omega) | exact yv_index tb rfl rfl rfl rfl (i := n.toNat) (by first | rfl | omega | (simp; omega)) (by omega)) rfl ?_
   refine qb0 ?_
   refine qa7 ?_
   refine qaa ?_
   refine qbq ?_
   exact qai
  intro junk13
  refine qaf ?_
  refine q_c (fun hc0 => ?_) (fun hc0 => ?_)
  ·
   refine qae ?_
   refine q_l rfl (sensNothing_tri _ _) ?_
   refine qak ?_
   refine qbh ?_
   refine q_r (L' := L) (R' := R) (res1 rfl (rv_cell (row := [_, _]) tb rfl rfl rfl (by repeat (first | exact zi0 | apply zi1 | apply zi2)) (by rfl) (by rfl))) ?_
   exact ⟨by rw [knownS, if_neg (by omega)], rfl, rfl⟩
  have hmg := get_D (l := m.l) (k := n.toNat) default (by omega)
  have hsg := get_D (l := s.sensors.l) (k := n.toNat) default (by omega)
  have hmo := hok _ (List.mem_of_getElem? hmg)
  refine qcl ?_
  refine CJ_drawn2 tb [] [0, 1, 2, 3, 4, 5, 6, 7, 8, 9, 10] [11] ([Blk.mk b8 _ _, Blk.mk b4 _ _]) _ mixed (by kernel_rfl) (by repeat (first | exact zs0 _ | exact zs1 _ | apply zs2 | apply zs3 | apply zs4 | apply zs5)) (by (repeat (first | apply List.Sublist.cons (a := Blk.mk b8 _ _) | apply List.Sublist.cons_cons)); exact List.Sublist.refl _) ?_
  refine qan ?_
  refine qau ?_
  refine qbf ?_
  refine ybsac ?_
  refine DJ3_q (by first | exact yv_loadN_ro (row := [_, _, _, _, _, _, _, _]) tb rfl rfl rfl (by first | assumption | exact zr (by simp)) (by assumption) (by rfl) (by rfl) | exact yv_loadN (row := [_, _, _, _, _, _, _, _]) tb rfl rfl rfl (by repeat (first | exact zi0 | apply zi1 | apply zi2)) (by rfl) (by rfl)) rfl rfl rfl rfl ?_
  refine qct ?_
  refine qbf ?_
  refine ybsac ?_
  refine DJ3_q (by first | exact yv_loadN_ro (row := [_, _, _, _]) tb rfl rfl rfl (by first | assumption | exact zr (by simp)) (by assumption) (by rfl) (by rfl) | exact yv_loadN (row := [_, _, _, _]) tb rfl rfl rfl (by repeat (first | exact zi0 | apply zi1 | apply zi2)) (by rfl) (by rfl)) rfl rfl rfl rfl ?_
  refine qbf ?_
  refine DJ3_call rfl (at_tri _ _ t _ _ hmo ht) rfl rfl ?_
  rintro v L' R' ⟨rfl, rfl, rfl⟩
  refine qas ?_
  refine qba ?_
  refine qbg ?_
  refine DJ_nil (seqK_normal (CJ_ret ?_))
  refine q_r (L' := L) (R' := R) (res1 rfl (rv_cell (row := [_, _]) tb rfl rfl rfl (by repeat (first | exact zi0 | apply zi1 | apply zi2)) (by rfl) (by rfl))) ?_
  exact ⟨by rw [knownS, if_pos (by omega)], rfl, rfl⟩
theorem stopped_tri (x : XSpan) (L : List Blk) (R : List Sl) :
    Tri Try.prog 81 [x.val].toArray L R (fun v L' R' => v = .int .i64 (stoppedS x) ∧ L = L' ∧ R = R') := by
  refine tri_enter 27 Try.call81 Try.func81 rfl rfl rfl ?_
  refine qae ?_
  refine qax ?_
  intro b1
  refine qad ?_
  refine LJ_nil (seqK_normal (CJ_seq (CJ_block (CJ_seq (CJ_region ?_)))))
  refine qab ?_
  refine qac ?_
  refine qab ?_
  refine qac ?_
  refine qa5 ?_
  refine qaz ?_
  refine qaf ?_
  refine q_c (fun hc0 => ?_) (fun hc0 => ?_)
  ·
   refine qae ?_
   refine qad ?_
   refine qdb ?_
   refine q_i (L' := L) (R' := R) ?_
   exact ⟨by refine congrArg (Value.int .i64) ?_; rw [stoppedS]; (repeat' split) <;> omega, rfl, rfl⟩
  refine qae ?_
  refine qab ?_
  refine qac ?_
  refine qbn ?_
  refine qah ?_
  apply LJ_and (G := [_, _, _]) (j := 3) (cj := 13) rfl rfl (by rfl) rfl (show _ = Value.bool _ from rfl) rfl
  ·
   intro hg4
   replace hg4 := qb hg4
   refine qab ?_
   refine qac ?_
   refine qbn ?_
   exact qai
  intro junk4
  refine qaz ?_
  refine qaf ?_
  refine q_c (fun hc1 => ?_) (fun hc1 => ?_)
  ·
   refine qae ?_
   refine qad ?_
   refine qdb ?_
   refine q_i (L' := L) (R' := R) ?_
   exact ⟨by refine congrArg (Value.int .i64) ?_; rw [stoppedS]; (repeat' split) <;> omega, rfl, rfl⟩
  refine qae ?_
  refine qab ?_
  refine qac ?_
  refine qa5 ?_
  refine qah ?_
  apply LJ_or (G := [_, _, _]) (j := 3) (cj := 22) rfl rfl (by rfl) rfl (show _ = Value.bool _ from rfl) rfl
  ·
   intro hg4
   replace hg4 := qb hg4
   refine qab ?_
   refine qac ?_
   refine qaj ?_
   exact qai
  intro junk4
  refine qaz ?_
  refine qaf ?_
  refine q_c (fun hc2 => ?_) (fun hc2 => ?_)
  ·
   refine qae ?_
   refine qad ?_
   refine qdb ?_
   refine q_i (L' := L) (R' := R) ?_
   exact ⟨by refine congrArg (Value.int .i64) ?_; rw [stoppedS]; (repeat' split) <;> omega, rfl, rfl⟩
  refine CJ_skip (blockK_normal (seqK_normal (CJ_seq (CJ_region ?_))))
  refine qad ?_
  refine qa0 ?_
  refine q_i (L' := L) (R' := R) ?_
  exact ⟨by refine congrArg (Value.int .i64) ?_; rw [stoppedS]; (repeat' split) <;> omega, rfl, rfl⟩

theorem over_tri (c : XCond) (w : XWatch) (x : XSpan) (L : List Blk) (R : List Sl) :
    Tri Try.prog 79 [c.val, w.val, x.val].toArray L R (fun v L' R' => v = .int .i64 (if w.over = false then -1 else if aboveS x c.level.cut = 1 then 1 else 0) ∧ L = L' ∧ R = R') := by
  refine tri_enter 18 Try.call79 Try.func79 rfl rfl rfl ?_
  refine qae ?_
  refine qax ?_
  intro b3
  refine qax ?_
  intro b4
  refine qax ?_
  intro b5
  refine qad ?_
  refine LJ_nil (seqK_normal (CJ_seq (CJ_block (CJ_seq (CJ_region ?_)))))
  refine qab ?_
  refine qac ?_
  refine qb4 ?_
  refine qaz ?_
  refine qaf ?_
  refine q_c (fun hc0 => ?_) (fun hc0 => ?_)
  ·
   refine qae ?_
   refine qad ?_
   refine qdb ?_
   refine q_i (L' := L) (R' := R) ?_
   exact ⟨by rw [if_pos (by simpa using hc0)], rfl, rfl⟩
  refine qae ?_
  refine qbe ?_
  refine qab ?_
  refine qab ?_
  refine qac ?_
  refine q_l rfl (above_tri x c.level.cut _ _) ?_
  refine qbn ?_
  refine qaz ?_
  refine qaf ?_
  refine q_c (fun hc1 => ?_) (fun hc1 => ?_)
  ·
   refine qae ?_
   refine qad ?_
   refine qdb ?_
   refine q_i (L' := L) (R' := R) ?_
   exact ⟨by rw [if_neg (by simpa using hc0), if_pos hc1], rfl, rfl⟩
  refine CJ_skip (blockK_normal (seqK_normal (CJ_seq (CJ_region ?_))))
  refine qad ?_
  refine qa0 ?_
  refine q_i (L' := L) (R' := R) ?_
  exact ⟨by rw [if_neg (by simpa using hc0), if_neg hc1], rfl, rfl⟩
end Go.Proofs.Ytlgjgigciapkfaa
end
