/-
  Sites and their errors, the reference's. By an AI agent; no person has read it.
-/
import Derived.Test.YtkpfjmibipblhaaEval
import Derived.Test.YtkpfjmibipblhaaRuleR
set_option linter.unusedSimpArgs false
set_option linter.unusedVariables false
namespace Go.Proofs.Ytkpfjmibipblhaa
open Go.Aw Go
set_option maxRecDepth 20000
attribute [local irreducible] CJ LJ DJ Tri YV Gives seqK blockK loopK retK RV mergeK OwL.L
section
variable {A9 B9 : Prop}
theorem ybnaa (a : A9) (h : A9 → B9 := by exact LJ_q (yv_loadN (row := [_, _, _]) tb rfl rfl rfl (by repeat (first | exact zi0 | apply zi1 | apply zi2)) (by rfl) (by rfl)) rfl) : B9 := h a
theorem ybnab (a : A9) (h : A9 → B9 := by exact LJ_q (by first | exact yv_index_ro tb rfl rfl rfl rfl (by first | assumption | exact zr (by simp)) (i := c.target.toNat) (by first | rfl | omega | (simp; omega)) (by omega) | exact yv_index tb rfl rfl rfl rfl (i := c.target.toNat) (by first | rfl | omega | (simp; omega)) (by omega)) rfl) : B9 := h a
theorem ybnac (h : B9 := by exact ⟨by rw [zoneErr_of (n := s.air.mine.roads.l.length) (by omega) (by omega) k (by omega) (by rw [roadBad]; omega)], rfl, rfl⟩) : B9 := h
theorem ybnad (a : A9) (h : A9 → B9 := by exact LJ_q (yv_loadN (row := [_, _, _, _, _, _, _, _]) tb rfl rfl rfl (by repeat (first | exact zi0 | apply zi1 | apply zi2)) (by rfl) (by rfl)) rfl) : B9 := h a
theorem ybnae (a : A9) (h : A9 → B9 := by exact CJ_drawn tb [0, 1, 2, 3, 4, 5, 6, 7] ([Blk.mk b1 _ _]) mixed (by kernel_rfl) (by repeat (first | exact zs0 _ | exact zs1 _ | apply zs2 | apply zs3 | apply zs4 | apply zs5))) : B9 := h a
theorem ybnaf (a : A9) (h : A9 → B9 := by exact DJ_q (yv_loadN (row := [_, _, _, _, _, _, _, _]) tb rfl rfl rfl (by repeat (first | exact zi0 | apply zi1 | apply zi2)) (by rfl) (by rfl)) rfl rfl rfl) : B9 := h a
theorem ybnag (a : A9) (h : A9 → B9 := by exact LJ_q (by first | exact yv_index_ro tb rfl rfl rfl rfl (by first | assumption | exact zr (by simp)) (i := k2) (by first | rfl | omega | (simp; omega)) (by omega) | exact yv_index tb rfl rfl rfl rfl (i := k2) (by first | rfl | omega | (simp; omega)) (by omega)) rfl) : B9 := h a
theorem ybnah (h : B9 := by exact ⟨by rw [siteErr, if_neg (by omega), if_neg (by omega), if_neg (by omega), if_neg (by omega), if_neg (by omega), e], rfl, rfl⟩) : B9 := h
end
theorem sensErr_target {x : XSens} (h : sensErr x = 0) : 0 ≤ x.target := by
  rw [sensErr] at h
  split at h
  · omega
  split at h
  · rename_i h2; rw [SensOk] at h2; omega
  · omega
theorem refSensors_tri (s : XSite) (L : List Blk) (R : List Sl) (hs : InR (sesl s.sensors) R) (hn : s.sensors.l.length ≤ 64) :
    Tri Try.prog 57 [s.val].toArray L R (fun v L' R' => v = .int .i64 (sensorsErr s.air s.sensors.l) ∧ L = L' ∧ R = R') := by
  refine tri_enter 62 Try.call57 Try.func57 rfl rfl rfl ?_
  refine qae ?_
  refine qax ?_
  intro b1
  refine qad ?_
  refine qaw ?_
  refine qad ?_
  refine qa2 ?_
  refine CJ_forget [(1, Value.pointer _), (3, Value.int _ _)] (by repeat' (first | exact trivial | refine And.intro rfl ?_)) fun tq0 => ?_
  refine q_s [2, 3, 4, 5, 6, 7, 8, 9, 10, 11, 12, 13, 14, 15, 16, 17, 18, 19, 20, 21, 22, 23, 24, 25, 26, 27, 28, 29, 30, 31, 32, 33, 34, 35, 36, 37, 38, 39, 40, 41, 42, 43, 44, 45, 46, 47, 48, 49, 50, 51, 52, 53, 54, 55, 56, 57, 58, 59, 60, 61] (fun g : FSR (sensAt s.air s.sensors.l) (s.sensors.l.length) => [(3, .int .i64 ((g.1 : Nat) : Int))]) (fun g => (s.sensors.l.length) - g.1) ⟨0, FSR_zero _ _⟩ ?_
  rintro ⟨k0, hk0, hp0⟩ junk
  try dsimp only
  refine qbi ?_
  refine qaa ?_
  refine qab ?_
  refine qac ?_
  refine qag ?_
  refine qaj ?_
  refine qaf ?_
  refine q_c (fun hc0 => ?_) (fun hc0 => ?_)
  ·
   have hxg := get_D (l := s.sensors.l) (k := k0) default (by omega)
   obtain ⟨x, hx⟩ : ∃ x, x = s.sensors.l.getD k0 default := ⟨_, rfl⟩
   rw [← hx] at hxg
   refine qbb ?_
   refine qab ?_
   refine qac ?_
   refine qaa ?_
   refine LJ_q (by first | exact yv_index_ro tb rfl rfl rfl rfl (by first | assumption | exact zr (by simp)) (i := k0) (by first | rfl | omega | (simp; omega)) (by omega) | exact yv_index tb rfl rfl rfl rfl (i := k0) (by first | rfl | omega | (simp; omega)) (by omega)) rfl ?_
   refine LJ_q (by first | exact yv_loadN_ro (row := [_, _, _, _, _, _, _, _]) tb rfl rfl rfl (by first | assumption | exact zr (by simp)) (by assumption) (by rfl) (by rfl) | exact yv_loadN (row := [_, _, _, _, _, _, _, _]) tb rfl rfl rfl (by repeat (first | exact zi0 | apply zi1 | apply zi2)) (by rfl) (by rfl)) rfl ?_
   refine qaq ?_
   intro b4
   refine qak ?_
   refine qaw ?_
   refine ybnad ?_
   refine q_l rfl (ref05Check_tri x _ _) ?_
   refine qad ?_
   refine qam ?_
   refine qaa ?_
   refine qbq ?_
   refine qaf ?_
   refine q_c (fun hc1 => ?_) (fun hc1 => ?_)
   ·
    refine qae ?_
    refine qaa ?_
    refine qad ?_
    refine qch ?_
    refine q_i (L' := L) (R' := R) ?_
    have h := FSR_some hp0 (by omega) (show sensAt s.air s.sensors.l k0 = some (sensErr x) by rw [sensAt, ← hx, if_pos hc1])
    exact ⟨by rw [sensorsErr, h]; rfl, rfl, rfl⟩
   have htg := sensErr_target (x := x) (by omega)
   refine qbv ?_
   iterate 3 refine qab ?_
   refine qac ?_
   refine qag ?_
   refine qad ?_
   refine qaw ?_
   refine qab ?_
   refine qac ?_
   refine qbn ?_
   refine qaf ?_
   refine CJ_joinS [6, 33, 34, 35, 36] ((⟨fun g => [(6, .int .i64 g.1)], fun _ => ⟨b4, x.cells, 128⟩ :: ⟨b1, s.cells, 36⟩ :: L, fun _ => R, fun _ => 0⟩ : Head {n : Int // n = if x.kind = 5 then (s.air.fans.l.length : Int) else s.air.mine.roads.l.length})) ?_ ?_
   ·
    skip
    refine q_c (fun hc2 => ?_) (fun hc2 => ?_)
    ·
     refine qay ?_
     refine qab ?_
     refine qab ?_
     refine qac ?_
     refine qag ?_
     refine qad ?_
     refine qav ?_
     refine q_j ⟨_, ?_⟩
     (repeat' split) <;> first | rfl | omega
    refine CJ_skip ?_
    refine q_j ⟨_, ?_⟩
    (repeat' split) <;> first | rfl | omega
   rintro ⟨of1, hof1⟩ junk
   try dsimp only
   refine qbi ?_
   refine qab ?_
   refine qac ?_
   refine qbn ?_
   refine qaf ?_
   refine CJ_joinS [6, 40, 41, 42, 43] ((⟨fun g => [(6, .int .i64 g.1)], fun _ => ⟨b4, x.cells, 128⟩ :: ⟨b1, s.cells, 36⟩ :: L, fun _ => R, fun _ => 0⟩ : Head {n : Int // n = sensOf s.air x})) ?_ ?_
   ·
    skip
    refine q_c (fun hc3 => ?_) (fun hc3 => ?_)
    ·
     refine qay ?_
     refine qab ?_
     refine qab ?_
     refine qac ?_
     refine qag ?_
     refine qad ?_
     refine qav ?_
     refine q_j ⟨_, ?_⟩
     rw [sensOf]; (repeat' split) <;> first | rfl | omega | (rw [hof1, if_pos (by omega)]; done) | (rw [hof1, if_neg (by omega)]; done)
    refine CJ_skip ?_
    refine q_j ⟨_, ?_⟩
    rw [sensOf]; (repeat' split) <;> first | rfl | omega | (rw [hof1, if_pos (by omega)]; done) | (rw [hof1, if_neg (by omega)]; done)
   rintro ⟨of, hof⟩ junk
   try dsimp only
   refine qbi ?_
   refine qab ?_
   refine qac ?_
   refine qaa ?_
   refine qbz ?_
   refine qaf ?_
   refine q_c (fun hc4 => ?_) (fun hc4 => ?_)
   ·
    refine qae ?_
    refine qad ?_
    refine qch ?_
    refine q_i (L' := L) (R' := R) ?_
    have h := FSR_some hp0 (by omega) (show sensAt s.air s.sensors.l k0 = some 9 by rw [sensAt, ← hx, if_neg (by omega), if_pos (by rw [← hof]; omega)])
    exact ⟨by rw [sensorsErr, h]; rfl, rfl, rfl⟩
   refine qbv ?_
   refine qad ?_
   refine qa2 ?_
   refine CJ_forgetW [2, 3, 4, 5, 6, 7, 8, 9, 10, 11, 12, 13, 14, 15, 16, 17, 18, 19, 20, 21, 22, 23, 24, 25, 26, 27, 28, 29, 30, 31, 32, 33, 34, 35, 36, 37, 38, 39, 40, 41, 42, 43, 44, 45, 46, 47, 48, 49, 50, 51, 52, 53, 54, 55, 56, 57, 58, 59, 60, 61] (by repeat (first | apply Off.upd rfl | apply Off.havoc rfl | refine Off.updL (t' := havoc _ _ _) rfl ?_ | exact Off.refl)) [(3, Value.int _ _), (4, Value.pointer _), (7, Value.int _ _)] (by repeat' (first | exact trivial | refine And.intro rfl ?_)) fun tq1 => ?_
   refine q_s [2, 7, 48, 49, 50, 51, 52, 53, 54, 55, 56, 57, 58, 59, 60, 61] (fun g : {j : Nat // j ≤ k0 ∧ ∀ m : Nat, m < j → (s.sensors.l.getD m default).address ≠ x.address} => [(7, .int .i64 ((g.1 : Nat) : Int))]) (fun g => k0 - g.1) (⟨0, by omega, fun m hm => by omega⟩) ?_
   rintro ⟨j, hj, hal⟩ junk
   try dsimp only
   refine qbi ?_
   refine qaa ?_
   refine qaa ?_
   refine qaj ?_
   refine qaf ?_
   refine q_c (fun hc5 => ?_) (fun hc5 => ?_)
   ·
    have hjg := get_D (l := s.sensors.l) (k := j) default (by omega)
    refine CJ_skip (seqK_normal (CJ_seq (CJ_block (CJ_seq ?_))))
    refine CJ_drawn tb [0, 1, 2, 3, 4, 5, 6, 7, 8] ([Blk.mk b4 _ _, Blk.mk b1 _ _]) mixed (by kernel_rfl) (by repeat (first | exact zs0 _ | exact zs1 _ | apply zs2 | apply zs3 | apply zs4 | apply zs5)) ?_
    refine qal ?_
    refine qat ?_
    refine qao ?_
    refine DJ_q (by first | exact yv_index_ro tb rfl rfl rfl rfl (by first | assumption | exact zr (by simp)) (i := j) (by first | rfl | omega | (simp; omega)) (by omega) | exact yv_index tb rfl rfl rfl rfl (i := j) (by first | rfl | omega | (simp; omega)) (by omega)) rfl rfl rfl ?_
    refine qce ?_
    refine qbl ?_
    refine qal ?_
    refine qat ?_
    refine DJ_q (yv_eql rfl rfl) rfl rfl rfl ?_
    refine qbu ?_
    refine q_c (fun hc6 => ?_) (fun hc6 => ?_)
    ·
     refine qae ?_
     refine qad ?_
     refine LJ_nil (seqK_normal (CJ_ret (blockK_ret (seqK_ret (loopK_ret (blockK_ret (blockK_ret (seqK_ret (loopK_ret (blockK_ret (seqK_ret ?_)))))))))))
     refine q_i (L' := L) (R' := R) ?_
     have h := FSR_some hp0 (by omega) (show sensAt s.air s.sensors.l k0 = some 9 by rw [sensAt, ← hx, if_neg (by omega), if_neg (fun h => h (by rw [← hof]; omega)), if_pos ⟨j, by omega, hc6⟩])
     exact ⟨by rw [sensorsErr, h]; rfl, rfl, rfl⟩
    refine qbj ?_
    refine qaa ?_
    refine qar ?_
    refine qad ?_
    refine qav ?_
    exact loopK_mk (⟨j + 1, by omega, fun m hm => by
    rcases Nat.lt_or_ge m j with h | h
    · exact hal m h
    · obtain rfl : m = j := by omega
      exact hc6⟩) (by repeat (first | exact Off.refl | apply Off.upd rfl | apply Off.havoc rfl | apply Off.updL rfl | apply Off.left rfl)) (by repeat' (first | exact trivial | refine And.intro rfl ?_)) (by repeat (first | exact zs0 _ | exact zs1 _ | apply zs2 | apply zs3 | apply zs4 | apply zs5)) (allR_self _) (by dsimp only; omega)
   refine CJ_exit (seqK_exit (loopK_exit (blockK_exit (blockK_normal (seqK_normal (CJ_region ?_))))))
   refine qaa ?_
   refine qar ?_
   refine qad ?_
   refine qav ?_
   exact q_k ⟨k0 + 1, FSR_next hp0 (by omega) (sensAt_none hx (by omega) (by rw [← hof]; omega) (fun m hm => hal m (by omega)))⟩
  have hn0 := FSR_none hp0 (by omega)
  refine qbk ?_
  refine qad ?_
  refine qa0 ?_
  refine q_i (L' := L) (R' := R) ?_
  exact ⟨by rw [sensorsErr, hn0]; rfl, rfl, rfl⟩
set_option maxHeartbeats 1000000 in
theorem refCond_tri (s : XSite) (c : XCond) (L : List Blk) (R : List Sl) (hs : InR (sesl s.sensors) R) (hn : s.sensors.l.length ≤ 64) :
    Tri Try.prog 58 [s.val, c.val].toArray L R (fun v L' R' => v = .int .i64 (condErr s.sensors.l s.air.mine.roads.l.length c) ∧ L = L' ∧ R = R') := by
  refine tri_enter 67 Try.call58 Try.func58 rfl rfl rfl ?_
  refine qae ?_
  refine qax ?_
  intro b2
  refine qax ?_
  intro b3
  refine qad ?_
  refine qaw ?_
  refine qab ?_
  refine qac ?_
  refine LJ_nil (seqK_normal (CJ_block (CJ_seq (CJ_seq (CJ_region ?_)))))
  refine qbn ?_
  refine qaz ?_
  refine qaf ?_
  refine q_c (fun hc0 => ?_) (fun hc0 => ?_)
  ·
   refine CJ_skip (seqK_normal ?_)
   refine q_c (fun hc3 => ?_) (fun hc3 => ?_)
   ·
    refine qae ?_
    refine qab ?_
    refine qac ?_
    refine qaj ?_
    refine qah ?_
    apply LJ_or (G := [_, _, _, _, _, _]) (j := 3) (cj := 15) rfl rfl (by rfl) rfl (show _ = Value.bool _ from rfl) rfl
    ·
     intro hg4
     replace hg4 := qb hg4
     refine qab ?_
     refine qac ?_
     refine qab ?_
     refine qac ?_
     refine qag ?_
     refine qbz ?_
     exact qai
    intro junk4
    refine qah ?_
    apply LJ_or (G := [_, _, _, _, _, _, _, _, _, _, _, _, _]) (j := 11) (cj := 23) rfl rfl (by rfl) rfl (show _ = Value.bool _ from rfl) rfl
    ·
     intro hg12
     replace hg12 := qb hg12
     have htt : 0 ≤ c.target ∧ c.target < s.sensors.l.length := by omega
     refine qab ?_
     refine qac ?_
     refine qbn ?_
     refine qah ?_
     apply LJ_and (G := [_, _, _, _, _, _, _, _]) (j := 15) (cj := 27) rfl rfl (by rfl) rfl (show _ = Value.bool _ from rfl) rfl
     ·
      intro hg16
      replace hg16 := qb hg16
      have hsg := get_D (l := s.sensors.l) (k := c.target.toNat) default (by omega)
      refine qab ?_
      refine qac ?_
      refine qab ?_
      refine qac ?_
      refine ybnab ?_
      refine qb0 ?_
      refine qa7 ?_
      refine qbq ?_
      exact qai
     intro junk16
     exact qai
    intro junk12
    refine qaf ?_
    refine q_c (fun hc4 => ?_) (fun hc4 => ?_)
    ·
     refine qae ?_
     refine qad ?_
     refine qdb ?_
     refine q_i (L' := L) (R' := R) ?_
     exact ⟨by refine congrArg (Value.int .i64) ?_; rw [condErr, condBase]; (repeat' split) <;> omega, rfl, rfl⟩
    refine CJ_skip (blockK_normal (seqK_normal (CJ_seq (CJ_seq (CJ_region ?_)))))
    refine qab ?_
    refine qac ?_
    refine qaj ?_
    refine qah ?_
    apply LJ_or (G := [_, _, _]) (j := 3) (cj := 56) rfl rfl (by rfl) rfl (show _ = Value.bool _ from rfl) rfl
    ·
     intro hg4
     replace hg4 := qb hg4
     refine qab ?_
     refine qac ?_
     refine qa5 ?_
     exact qai
    intro junk4
    refine qaf ?_
    refine q_c (fun hc7 => ?_) (fun hc7 => ?_)
    ·
     refine qae ?_
     refine qad ?_
     refine qbh ?_
     refine q_i (L' := L) (R' := R) ?_
     exact ⟨by refine congrArg (Value.int .i64) ?_; rw [condErr, condBase]; (repeat' split) <;> omega, rfl, rfl⟩
    refine qbo ?_
    refine qab ?_
    refine qac ?_
    refine qbn ?_
    refine qaf ?_
    refine q_c (fun hc8 => ?_) (fun hc8 => ?_)
    ·
     refine qae ?_
     refine qab ?_
     refine ybnaa ?_
     refine q_l rfl (refLevel_tri c.level _ _) ?_
     refine qad ?_
     refine qbh ?_
     refine q_i (L' := L) (R' := R) ?_
     exact ⟨by refine congrArg (Value.int .i64) ?_; rw [condErr, condBase]; (repeat' split) <;> omega, rfl, rfl⟩
    refine qbv ?_
    refine qad ?_
    refine qa0 ?_
    refine q_i (L' := L) (R' := R) ?_
    exact ⟨by refine congrArg (Value.int .i64) ?_; rw [condErr, condBase]; (repeat' split) <;> omega, rfl, rfl⟩
   refine qae ?_
   refine qbn ?_
   refine qaz ?_
   refine qaf ?_
   refine q_c (fun hc5 => ?_) (fun hc5 => ?_)
   ·
    refine qae ?_
    refine qab ?_
    refine qac ?_
    refine qaj ?_
    refine qah ?_
    apply LJ_or (G := [_, _, _, _, _, _, _, _]) (j := 3) (cj := 43) rfl rfl (by rfl) rfl (show _ = Value.bool _ from rfl) rfl
    ·
     intro hg4
     replace hg4 := qb hg4
     refine qab ?_
     refine qac ?_
     iterate 3 refine qab ?_
     refine qac ?_
     refine qag ?_
     refine qbz ?_
     exact qai
    intro junk4
    refine qaf ?_
    refine q_c (fun hc6 => ?_) (fun hc6 => ?_)
    ·
     refine qae ?_
     refine qad ?_
     refine qdb ?_
     refine q_i (L' := L) (R' := R) ?_
     exact ⟨by refine congrArg (Value.int .i64) ?_; rw [condErr, condBase]; (repeat' split) <;> omega, rfl, rfl⟩
    refine CJ_skip (blockK_normal (seqK_normal (CJ_seq (CJ_seq (CJ_region ?_)))))
    refine qab ?_
    refine qac ?_
    refine qaj ?_
    refine qah ?_
    apply LJ_or (G := [_, _, _]) (j := 3) (cj := 56) rfl rfl (by rfl) rfl (show _ = Value.bool _ from rfl) rfl
    ·
     intro hg4
     replace hg4 := qb hg4
     refine qab ?_
     refine qac ?_
     refine qa5 ?_
     exact qai
    intro junk4
    refine qaf ?_
    refine q_c (fun hc7 => ?_) (fun hc7 => ?_)
    ·
     refine qae ?_
     refine qad ?_
     refine qbh ?_
     refine q_i (L' := L) (R' := R) ?_
     exact ⟨by refine congrArg (Value.int .i64) ?_; rw [condErr, condBase]; (repeat' split) <;> omega, rfl, rfl⟩
    refine qbo ?_
    refine qab ?_
    refine qac ?_
    refine qbn ?_
    refine qaf ?_
    refine q_c (fun hc8 => ?_) (fun hc8 => ?_)
    ·
     refine qae ?_
     refine qab ?_
     refine ybnaa ?_
     refine q_l rfl (refLevel_tri c.level _ _) ?_
     refine qad ?_
     refine qbh ?_
     refine q_i (L' := L) (R' := R) ?_
     exact ⟨by refine congrArg (Value.int .i64) ?_; rw [condErr, condBase]; (repeat' split) <;> omega, rfl, rfl⟩
    refine qbv ?_
    refine qad ?_
    refine qa0 ?_
    refine q_i (L' := L) (R' := R) ?_
    exact ⟨by refine congrArg (Value.int .i64) ?_; rw [condErr, condBase]; (repeat' split) <;> omega, rfl, rfl⟩
   refine qae ?_
   refine qad ?_
   refine qdb ?_
   refine q_i (L' := L) (R' := R) ?_
   exact ⟨by refine congrArg (Value.int .i64) ?_; rw [condErr, condBase]; (repeat' split) <;> omega, rfl, rfl⟩
  refine qae ?_
  refine qbn ?_
  refine qaz ?_
  refine qaf ?_
  refine q_c (fun hc1 => ?_) (fun hc1 => ?_)
  ·
   refine CJ_skip (seqK_normal ?_)
   refine q_c (fun hc3 => ?_) (fun hc3 => ?_)
   ·
    refine qae ?_
    refine qab ?_
    refine qac ?_
    refine qaj ?_
    refine qah ?_
    apply LJ_or (G := [_, _, _, _, _, _]) (j := 3) (cj := 15) rfl rfl (by rfl) rfl (show _ = Value.bool _ from rfl) rfl
    ·
     intro hg4
     replace hg4 := qb hg4
     refine qab ?_
     refine qac ?_
     refine qab ?_
     refine qac ?_
     refine qag ?_
     refine qbz ?_
     exact qai
    intro junk4
    refine qah ?_
    apply LJ_or (G := [_, _, _, _, _, _, _, _, _, _, _, _, _]) (j := 11) (cj := 23) rfl rfl (by rfl) rfl (show _ = Value.bool _ from rfl) rfl
    ·
     intro hg12
     replace hg12 := qb hg12
     have htt : 0 ≤ c.target ∧ c.target < s.sensors.l.length := by omega
     refine qab ?_
     refine qac ?_
     refine qbn ?_
     refine qah ?_
     apply LJ_and (G := [_, _, _, _, _, _, _, _]) (j := 15) (cj := 27) rfl rfl (by rfl) rfl (show _ = Value.bool _ from rfl) rfl
     ·
      intro hg16
      replace hg16 := qb hg16
      have hsg := get_D (l := s.sensors.l) (k := c.target.toNat) default (by omega)
      refine qab ?_
      refine qac ?_
      refine qab ?_
      refine qac ?_
      refine ybnab ?_
      refine qb0 ?_
      refine qa7 ?_
      refine qbq ?_
      exact qai
     intro junk16
     exact qai
    intro junk12
    refine qaf ?_
    refine q_c (fun hc4 => ?_) (fun hc4 => ?_)
    ·
     refine qae ?_
     refine qad ?_
     refine qdb ?_
     refine q_i (L' := L) (R' := R) ?_
     exact ⟨by refine congrArg (Value.int .i64) ?_; rw [condErr, condBase]; (repeat' split) <;> omega, rfl, rfl⟩
    refine CJ_skip (blockK_normal (seqK_normal (CJ_seq (CJ_seq (CJ_region ?_)))))
    refine qab ?_
    refine qac ?_
    refine qaj ?_
    refine qah ?_
    apply LJ_or (G := [_, _, _]) (j := 3) (cj := 56) rfl rfl (by rfl) rfl (show _ = Value.bool _ from rfl) rfl
    ·
     intro hg4
     replace hg4 := qb hg4
     refine qab ?_
     refine qac ?_
     refine qa5 ?_
     exact qai
    intro junk4
    refine qaf ?_
    refine q_c (fun hc7 => ?_) (fun hc7 => ?_)
    ·
     refine qae ?_
     refine qad ?_
     refine qbh ?_
     refine q_i (L' := L) (R' := R) ?_
     exact ⟨by refine congrArg (Value.int .i64) ?_; rw [condErr, condBase]; (repeat' split) <;> omega, rfl, rfl⟩
    refine qbo ?_
    refine qab ?_
    refine qac ?_
    refine qbn ?_
    refine qaf ?_
    refine q_c (fun hc8 => ?_) (fun hc8 => ?_)
    ·
     refine qae ?_
     refine qab ?_
     refine ybnaa ?_
     refine q_l rfl (refLevel_tri c.level _ _) ?_
     refine qad ?_
     refine qbh ?_
     refine q_i (L' := L) (R' := R) ?_
     exact ⟨by refine congrArg (Value.int .i64) ?_; rw [condErr, condBase]; (repeat' split) <;> omega, rfl, rfl⟩
    refine qbv ?_
    refine qad ?_
    refine qa0 ?_
    refine q_i (L' := L) (R' := R) ?_
    exact ⟨by refine congrArg (Value.int .i64) ?_; rw [condErr, condBase]; (repeat' split) <;> omega, rfl, rfl⟩
   refine qae ?_
   refine qbn ?_
   refine qaz ?_
   refine qaf ?_
   refine q_c (fun hc5 => ?_) (fun hc5 => ?_)
   ·
    refine qae ?_
    refine qab ?_
    refine qac ?_
    refine qaj ?_
    refine qah ?_
    apply LJ_or (G := [_, _, _, _, _, _, _, _]) (j := 3) (cj := 43) rfl rfl (by rfl) rfl (show _ = Value.bool _ from rfl) rfl
    ·
     intro hg4
     replace hg4 := qb hg4
     refine qab ?_
     refine qac ?_
     iterate 3 refine qab ?_
     refine qac ?_
     refine qag ?_
     refine qbz ?_
     exact qai
    intro junk4
    refine qaf ?_
    refine q_c (fun hc6 => ?_) (fun hc6 => ?_)
    ·
     refine qae ?_
     refine qad ?_
     refine qdb ?_
     refine q_i (L' := L) (R' := R) ?_
     exact ⟨by refine congrArg (Value.int .i64) ?_; rw [condErr, condBase]; (repeat' split) <;> omega, rfl, rfl⟩
    refine CJ_skip (blockK_normal (seqK_normal (CJ_seq (CJ_seq (CJ_region ?_)))))
    refine qab ?_
    refine qac ?_
    refine qaj ?_
    refine qah ?_
    apply LJ_or (G := [_, _, _]) (j := 3) (cj := 56) rfl rfl (by rfl) rfl (show _ = Value.bool _ from rfl) rfl
    ·
     intro hg4
     replace hg4 := qb hg4
     refine qab ?_
     refine qac ?_
     refine qa5 ?_
     exact qai
    intro junk4
    refine qaf ?_
    refine q_c (fun hc7 => ?_) (fun hc7 => ?_)
    ·
     refine qae ?_
     refine qad ?_
     refine qbh ?_
     refine q_i (L' := L) (R' := R) ?_
     exact ⟨by refine congrArg (Value.int .i64) ?_; rw [condErr, condBase]; (repeat' split) <;> omega, rfl, rfl⟩
    refine qbo ?_
    refine qab ?_
    refine qac ?_
    refine qbn ?_
    refine qaf ?_
    refine q_c (fun hc8 => ?_) (fun hc8 => ?_)
    ·
     refine qae ?_
     refine qab ?_
     refine ybnaa ?_
     refine q_l rfl (refLevel_tri c.level _ _) ?_
     refine qad ?_
     refine qbh ?_
     refine q_i (L' := L) (R' := R) ?_
     exact ⟨by refine congrArg (Value.int .i64) ?_; rw [condErr, condBase]; (repeat' split) <;> omega, rfl, rfl⟩
    refine qbv ?_
    refine qad ?_
    refine qa0 ?_
    refine q_i (L' := L) (R' := R) ?_
    exact ⟨by refine congrArg (Value.int .i64) ?_; rw [condErr, condBase]; (repeat' split) <;> omega, rfl, rfl⟩
   refine qae ?_
   refine qad ?_
   refine qdb ?_
   refine q_i (L' := L) (R' := R) ?_
   exact ⟨by refine congrArg (Value.int .i64) ?_; rw [condErr, condBase]; (repeat' split) <;> omega, rfl, rfl⟩
  refine qae ?_
  refine qbn ?_
  refine qaz ?_
  refine qaf ?_
  refine q_c (fun hc2 => ?_) (fun hc2 => ?_)
  ·
   refine CJ_skip (seqK_normal ?_)
   refine q_c (fun hc3 => ?_) (fun hc3 => ?_)
   ·
    refine qae ?_
    refine qab ?_
    refine qac ?_
    refine qaj ?_
    refine qah ?_
    apply LJ_or (G := [_, _, _, _, _, _]) (j := 3) (cj := 15) rfl rfl (by rfl) rfl (show _ = Value.bool _ from rfl) rfl
    ·
     intro hg4
     replace hg4 := qb hg4
     refine qab ?_
     refine qac ?_
     refine qab ?_
     refine qac ?_
     refine qag ?_
     refine qbz ?_
     exact qai
    intro junk4
    refine qah ?_
    apply LJ_or (G := [_, _, _, _, _, _, _, _, _, _, _, _, _]) (j := 11) (cj := 23) rfl rfl (by rfl) rfl (show _ = Value.bool _ from rfl) rfl
    ·
     intro hg12
     replace hg12 := qb hg12
     have htt : 0 ≤ c.target ∧ c.target < s.sensors.l.length := by omega
     refine qab ?_
     refine qac ?_
     refine qbn ?_
     refine qah ?_
     apply LJ_and (G := [_, _, _, _, _, _, _, _]) (j := 15) (cj := 27) rfl rfl (by rfl) rfl (show _ = Value.bool _ from rfl) rfl
     ·
      intro hg16
      replace hg16 := qb hg16
      have hsg := get_D (l := s.sensors.l) (k := c.target.toNat) default (by omega)
      refine qab ?_
      refine qac ?_
      refine qab ?_
      refine qac ?_
      refine ybnab ?_
      refine qb0 ?_
      refine qa7 ?_
      refine qbq ?_
      exact qai
     intro junk16
     exact qai
    intro junk12
    refine qaf ?_
    refine q_c (fun hc4 => ?_) (fun hc4 => ?_)
    ·
     refine qae ?_
     refine qad ?_
     refine qdb ?_
     refine q_i (L' := L) (R' := R) ?_
     exact ⟨by refine congrArg (Value.int .i64) ?_; rw [condErr, condBase]; (repeat' split) <;> omega, rfl, rfl⟩
    refine CJ_skip (blockK_normal (seqK_normal (CJ_seq (CJ_seq (CJ_region ?_)))))
    refine qab ?_
    refine qac ?_
    refine qaj ?_
    refine qah ?_
    apply LJ_or (G := [_, _, _]) (j := 3) (cj := 56) rfl rfl (by rfl) rfl (show _ = Value.bool _ from rfl) rfl
    ·
     intro hg4
     replace hg4 := qb hg4
     refine qab ?_
     refine qac ?_
     refine qa5 ?_
     exact qai
    intro junk4
    refine qaf ?_
    refine q_c (fun hc7 => ?_) (fun hc7 => ?_)
    ·
     refine qae ?_
     refine qad ?_
     refine qbh ?_
     refine q_i (L' := L) (R' := R) ?_
     exact ⟨by refine congrArg (Value.int .i64) ?_; rw [condErr, condBase]; (repeat' split) <;> omega, rfl, rfl⟩
    refine qbo ?_
    refine qab ?_
    refine qac ?_
    refine qbn ?_
    refine qaf ?_
    refine q_c (fun hc8 => ?_) (fun hc8 => ?_)
    ·
     refine qae ?_
     refine qab ?_
     refine ybnaa ?_
     refine q_l rfl (refLevel_tri c.level _ _) ?_
     refine qad ?_
     refine qbh ?_
     refine q_i (L' := L) (R' := R) ?_
     exact ⟨by refine congrArg (Value.int .i64) ?_; rw [condErr, condBase]; (repeat' split) <;> omega, rfl, rfl⟩
    refine qbv ?_
    refine qad ?_
    refine qa0 ?_
    refine q_i (L' := L) (R' := R) ?_
    exact ⟨by refine congrArg (Value.int .i64) ?_; rw [condErr, condBase]; (repeat' split) <;> omega, rfl, rfl⟩
   refine qae ?_
   refine qbn ?_
   refine qaz ?_
   refine qaf ?_
   refine q_c (fun hc5 => ?_) (fun hc5 => ?_)
   ·
    refine qae ?_
    refine qab ?_
    refine qac ?_
    refine qaj ?_
    refine qah ?_
    apply LJ_or (G := [_, _, _, _, _, _, _, _]) (j := 3) (cj := 43) rfl rfl (by rfl) rfl (show _ = Value.bool _ from rfl) rfl
    ·
     intro hg4
     replace hg4 := qb hg4
     refine qab ?_
     refine qac ?_
     iterate 3 refine qab ?_
     refine qac ?_
     refine qag ?_
     refine qbz ?_
     exact qai
    intro junk4
    refine qaf ?_
    refine q_c (fun hc6 => ?_) (fun hc6 => ?_)
    ·
     refine qae ?_
     refine qad ?_
     refine qdb ?_
     refine q_i (L' := L) (R' := R) ?_
     exact ⟨by refine congrArg (Value.int .i64) ?_; rw [condErr, condBase]; (repeat' split) <;> omega, rfl, rfl⟩
    refine CJ_skip (blockK_normal (seqK_normal (CJ_seq (CJ_seq (CJ_region ?_)))))
    refine qab ?_
    refine qac ?_
    refine qaj ?_
    refine qah ?_
    apply LJ_or (G := [_, _, _]) (j := 3) (cj := 56) rfl rfl (by rfl) rfl (show _ = Value.bool _ from rfl) rfl
    ·
     intro hg4
     replace hg4 := qb hg4
     refine qab ?_
     refine qac ?_
     refine qa5 ?_
     exact qai
    intro junk4
    refine qaf ?_
    refine q_c (fun hc7 => ?_) (fun hc7 => ?_)
    ·
     refine qae ?_
     refine qad ?_
     refine qbh ?_
     refine q_i (L' := L) (R' := R) ?_
     exact ⟨by refine congrArg (Value.int .i64) ?_; rw [condErr, condBase]; (repeat' split) <;> omega, rfl, rfl⟩
    refine qbo ?_
    refine qab ?_
    refine qac ?_
    refine qbn ?_
    refine qaf ?_
    refine q_c (fun hc8 => ?_) (fun hc8 => ?_)
    ·
     refine qae ?_
     refine qab ?_
     refine ybnaa ?_
     refine q_l rfl (refLevel_tri c.level _ _) ?_
     refine qad ?_
     refine qbh ?_
     refine q_i (L' := L) (R' := R) ?_
     exact ⟨by refine congrArg (Value.int .i64) ?_; rw [condErr, condBase]; (repeat' split) <;> omega, rfl, rfl⟩
    refine qbv ?_
    refine qad ?_
    refine qa0 ?_
    refine q_i (L' := L) (R' := R) ?_
    exact ⟨by refine congrArg (Value.int .i64) ?_; rw [condErr, condBase]; (repeat' split) <;> omega, rfl, rfl⟩
   refine qae ?_
   refine qad ?_
   refine qdb ?_
   refine q_i (L' := L) (R' := R) ?_
   exact ⟨by refine congrArg (Value.int .i64) ?_; rw [condErr, condBase]; (repeat' split) <;> omega, rfl, rfl⟩
  refine qay ?_
  refine qbn ?_
  refine qaz ?_
  refine qaf ?_
  refine q_c (fun hc3 => ?_) (fun hc3 => ?_)
  ·
   refine qae ?_
   refine qab ?_
   refine qac ?_
   refine qaj ?_
   refine qah ?_
   apply LJ_or (G := [_, _, _, _, _, _]) (j := 3) (cj := 15) rfl rfl (by rfl) rfl (show _ = Value.bool _ from rfl) rfl
   ·
    intro hg4
    replace hg4 := qb hg4
    refine qab ?_
    refine qac ?_
    refine qab ?_
    refine qac ?_
    refine qag ?_
    refine qbz ?_
    exact qai
   intro junk4
   refine qah ?_
   apply LJ_or (G := [_, _, _, _, _, _, _, _, _, _, _, _, _]) (j := 11) (cj := 23) rfl rfl (by rfl) rfl (show _ = Value.bool _ from rfl) rfl
   ·
    intro hg12
    replace hg12 := qb hg12
    have htt : 0 ≤ c.target ∧ c.target < s.sensors.l.length := by omega
    refine qab ?_
    refine qac ?_
    refine qbn ?_
    refine qah ?_
    apply LJ_and (G := [_, _, _, _, _, _, _, _]) (j := 15) (cj := 27) rfl rfl (by rfl) rfl (show _ = Value.bool _ from rfl) rfl
    ·
     intro hg16
     replace hg16 := qb hg16
     have hsg := get_D (l := s.sensors.l) (k := c.target.toNat) default (by omega)
     refine qab ?_
     refine qac ?_
     refine qab ?_
     refine qac ?_
     refine ybnab ?_
     refine qb0 ?_
     refine qa7 ?_
     refine qbq ?_
     exact qai
    intro junk16
    exact qai
   intro junk12
   refine qaf ?_
   refine q_c (fun hc4 => ?_) (fun hc4 => ?_)
   ·
    refine qae ?_
    refine qad ?_
    refine qdb ?_
    refine q_i (L' := L) (R' := R) ?_
    exact ⟨by refine congrArg (Value.int .i64) ?_; rw [condErr, condBase]; (repeat' split) <;> omega, rfl, rfl⟩
   refine CJ_skip (blockK_normal (seqK_normal (CJ_seq (CJ_seq (CJ_region ?_)))))
   refine qab ?_
   refine qac ?_
   refine qaj ?_
   refine qah ?_
   apply LJ_or (G := [_, _, _]) (j := 3) (cj := 56) rfl rfl (by rfl) rfl (show _ = Value.bool _ from rfl) rfl
   ·
    intro hg4
    replace hg4 := qb hg4
    refine qab ?_
    refine qac ?_
    refine qa5 ?_
    exact qai
   intro junk4
   refine qaf ?_
   refine q_c (fun hc7 => ?_) (fun hc7 => ?_)
   ·
    refine qae ?_
    refine qad ?_
    refine qbh ?_
    refine q_i (L' := L) (R' := R) ?_
    exact ⟨by refine congrArg (Value.int .i64) ?_; rw [condErr, condBase]; (repeat' split) <;> omega, rfl, rfl⟩
   refine qbo ?_
   refine qab ?_
   refine qac ?_
   refine qbn ?_
   refine qaf ?_
   refine q_c (fun hc8 => ?_) (fun hc8 => ?_)
   ·
    refine qae ?_
    refine qab ?_
    refine ybnaa ?_
    refine q_l rfl (refLevel_tri c.level _ _) ?_
    refine qad ?_
    refine qbh ?_
    refine q_i (L' := L) (R' := R) ?_
    exact ⟨by refine congrArg (Value.int .i64) ?_; rw [condErr, condBase]; (repeat' split) <;> omega, rfl, rfl⟩
   refine qbv ?_
   refine qad ?_
   refine qa0 ?_
   refine q_i (L' := L) (R' := R) ?_
   exact ⟨by refine congrArg (Value.int .i64) ?_; rw [condErr, condBase]; (repeat' split) <;> omega, rfl, rfl⟩
  refine qae ?_
  refine qbn ?_
  refine qaz ?_
  refine qaf ?_
  refine q_c (fun hc5 => ?_) (fun hc5 => ?_)
  ·
   refine qae ?_
   refine qab ?_
   refine qac ?_
   refine qaj ?_
   refine qah ?_
   apply LJ_or (G := [_, _, _, _, _, _, _, _]) (j := 3) (cj := 43) rfl rfl (by rfl) rfl (show _ = Value.bool _ from rfl) rfl
   ·
    intro hg4
    replace hg4 := qb hg4
    refine qab ?_
    refine qac ?_
    iterate 3 refine qab ?_
    refine qac ?_
    refine qag ?_
    refine qbz ?_
    exact qai
   intro junk4
   refine qaf ?_
   refine q_c (fun hc6 => ?_) (fun hc6 => ?_)
   ·
    refine qae ?_
    refine qad ?_
    refine qdb ?_
    refine q_i (L' := L) (R' := R) ?_
    exact ⟨by refine congrArg (Value.int .i64) ?_; rw [condErr, condBase]; (repeat' split) <;> omega, rfl, rfl⟩
   refine CJ_skip (blockK_normal (seqK_normal (CJ_seq (CJ_seq (CJ_region ?_)))))
   refine qab ?_
   refine qac ?_
   refine qaj ?_
   refine qah ?_
   apply LJ_or (G := [_, _, _]) (j := 3) (cj := 56) rfl rfl (by rfl) rfl (show _ = Value.bool _ from rfl) rfl
   ·
    intro hg4
    replace hg4 := qb hg4
    refine qab ?_
    refine qac ?_
    refine qa5 ?_
    exact qai
   intro junk4
   refine qaf ?_
   refine q_c (fun hc7 => ?_) (fun hc7 => ?_)
   ·
    refine qae ?_
    refine qad ?_
    refine qbh ?_
    refine q_i (L' := L) (R' := R) ?_
    exact ⟨by refine congrArg (Value.int .i64) ?_; rw [condErr, condBase]; (repeat' split) <;> omega, rfl, rfl⟩
   refine qbo ?_
   refine qab ?_
   refine qac ?_
   refine qbn ?_
   refine qaf ?_
   refine q_c (fun hc8 => ?_) (fun hc8 => ?_)
   ·
    refine qae ?_
    refine qab ?_
    refine ybnaa ?_
    refine q_l rfl (refLevel_tri c.level _ _) ?_
    refine qad ?_
    refine qbh ?_
    refine q_i (L' := L) (R' := R) ?_
    exact ⟨by refine congrArg (Value.int .i64) ?_; rw [condErr, condBase]; (repeat' split) <;> omega, rfl, rfl⟩
   refine qbv ?_
   refine qad ?_
   refine qa0 ?_
   refine q_i (L' := L) (R' := R) ?_
   exact ⟨by refine congrArg (Value.int .i64) ?_; rw [condErr, condBase]; (repeat' split) <;> omega, rfl, rfl⟩
  refine qae ?_
  refine qad ?_
  refine qdb ?_
  refine q_i (L' := L) (R' := R) ?_
  exact ⟨by refine congrArg (Value.int .i64) ?_; rw [condErr, condBase]; (repeat' split) <;> omega, rfl, rfl⟩
theorem refZone_tri (s : XSite) (z : XZone) (L : List Blk) (R : List Sl) (hr : InR (ndsl z.rule) R) (hz : InR (isl z.roads) R) :
    Tri Try.prog 59 [s.val, z.val].toArray L R (fun v L' R' => v = .int .i64 (zoneErr s.conds.l.length s.air.mine.roads.l.length z) ∧ L = L' ∧ R = R') := by
  refine Tri_len Try.call59 hz fun hzn => ?_
  refine tri_enter 78 Try.call59 Try.func59 rfl rfl rfl ?_
  refine qae ?_
  refine qax ?_
  intro b2
  refine qax ?_
  intro b3
  refine qad ?_
  refine qaw ?_
  refine qab ?_
  refine qac ?_
  refine qab ?_
  refine qac ?_
  refine qag ?_
  refine q_l rfl (refRuleCheck_tri z.rule s.conds.l.length _ _ hr) ?_
  refine qad ?_
  refine qam ?_
  refine qaa ?_
  refine qbq ?_
  refine qaf ?_
  refine q_c (fun hc0 => ?_) (fun hc0 => ?_)
  ·
   refine qae ?_
   refine qaa ?_
   refine qad ?_
   refine qbh ?_
   refine q_i (L' := L) (R' := R) ?_
   exact ⟨by rw [zoneErr, if_pos hc0], rfl, rfl⟩
  refine qbo ?_
  refine qab ?_
  refine qac ?_
  refine qaj ?_
  refine qah ?_
  apply LJ_or (G := [_, _, _]) (j := 3) (cj := 19) rfl rfl (by rfl) rfl (show _ = Value.bool _ from rfl) rfl
  ·
   intro hg4
   replace hg4 := qb hg4
   refine qab ?_
   refine qac ?_
   refine qa5 ?_
   exact qai
  intro junk4
  refine qah ?_
  apply LJ_or (G := [_, _, _]) (j := 8) (cj := 24) rfl rfl (by rfl) rfl (show _ = Value.bool _ from rfl) rfl
  ·
   intro hg9
   replace hg9 := qb hg9
   refine qab ?_
   refine qac ?_
   refine qaj ?_
   exact qai
  intro junk9
  refine qah ?_
  apply LJ_or (G := [_, _, _]) (j := 13) (cj := 29) rfl rfl (by rfl) rfl (show _ = Value.bool _ from rfl) rfl
  ·
   intro hg14
   replace hg14 := qb hg14
   refine qab ?_
   refine qac ?_
   refine qa5 ?_
   exact qai
  intro junk14
  refine qaf ?_
  refine q_c (fun hc1 => ?_) (fun hc1 => ?_)
  ·
   refine qae ?_
   refine qad ?_
   refine qbh ?_
   refine q_i (L' := L) (R' := R) ?_
   exact ⟨by rw [zoneErr, if_neg (by omega), if_pos (by omega)], rfl, rfl⟩
  refine qbo ?_
  refine qad ?_
  refine qa2 ?_
  refine CJ_forget [(2, Value.pointer _), (3, Value.pointer _), (6, Value.int _ _)] (by repeat' (first | exact trivial | refine And.intro rfl ?_)) fun tq0 => ?_
  refine q_s [4, 6, 34, 35, 36, 37, 38, 39, 40, 41, 42, 43, 44, 45, 46, 47, 48, 49, 50, 51, 52, 53, 54, 55, 56, 57, 58, 59, 60, 61, 62, 63, 64, 65, 66, 67, 68, 69, 70, 71, 72, 73, 74, 75, 76, 77] (fun g : {k : Nat // k ≤ z.roads.l.length ∧ ∀ j : Nat, j < k → ¬ roadBad s.air.mine.roads.l.length z.roads.l j} => [(6, .int .i64 ((g.1 : Nat) : Int))]) (fun g => z.roads.l.length - g.1) (⟨0, by omega, fun j hj => by omega⟩) ?_
  rintro ⟨k, hk, hal⟩ junk
  try dsimp only
  refine qbi ?_
  refine qaa ?_
  refine qab ?_
  refine qac ?_
  refine qag ?_
  refine qaj ?_
  refine qaf ?_
  refine q_c (fun hc2 => ?_) (fun hc2 => ?_)
  ·
   have hzg := get_D (l := z.roads.l) (k := k) 0 (by omega)
   refine CJ_skip (seqK_normal (CJ_seq (CJ_block (CJ_seq ?_))))
   refine CJ_drawn tb [0, 1, 2, 3, 4, 5, 6, 7, 8, 9, 10, 11, 12, 13, 14, 15, 16, 17, 18, 19, 20, 21, 22, 23, 24, 25, 26, 27, 28, 29, 30, 31, 32, 33, 34, 35, 36] ([Blk.mk b3 _ _, Blk.mk b2 _ _]) mixed (by kernel_rfl) (by repeat (first | exact zs0 _ | exact zs1 _ | apply zs2 | apply zs3 | apply zs4 | apply zs5)) ?_
   refine qal ?_
   refine qat ?_
   refine qao ?_
   refine qds ?_
   refine qbl ?_
   refine DJ_q (yv_lss rfl rfl) rfl rfl rfl ?_
   refine qb2 ?_
   refine DJ_case (k := 47) (show _ = Value.bool _ from rfl) (fun hg6 => ?_) (fun hg6 => ?_)
   ·
    replace hg6 := qb hg6
    iterate 11 refine qap ?_
    refine qbp ?_
    refine qb2 ?_
    iterate 16 refine qap ?_
    refine qbp ?_
    refine qbu ?_
    refine CJ_cond_true rfl ?_
    refine qae ?_
    refine qad ?_
    refine qbt ?_
    refine q_i (L' := L) (R' := R) ?_
    exact ybnac
   replace hg6 := qb hg6
   refine qal ?_
   refine qat ?_
   refine qao ?_
   refine qds ?_
   refine qbl ?_
   iterate 3 refine qal ?_
   refine qat ?_
   refine DJ_q (yv_len tb rfl rfl rfl) rfl rfl rfl ?_
   refine DJ_q (yv_geq rfl rfl) rfl rfl rfl ?_
   refine qbp ?_
   refine qb2 ?_
   refine DJ_case (k := 60) (show _ = Value.bool _ from rfl) (fun hg19 => ?_) (fun hg19 => ?_)
   ·
    replace hg19 := qb hg19
    iterate 16 refine qap ?_
    refine qbp ?_
    refine qbu ?_
    refine CJ_cond_true rfl ?_
    refine qae ?_
    refine qad ?_
    refine qbt ?_
    refine q_i (L' := L) (R' := R) ?_
    exact ybnac
   replace hg19 := qb hg19
   refine qao ?_
   refine DJ_q (yv_gtr rfl rfl) rfl rfl rfl ?_
   refine qb2 ?_
   refine DJ_case (k := 63) (show _ = Value.bool _ from rfl) (fun hg22 => ?_) (fun hg22 => ?_)
   ·
    replace hg22 := qb hg22
    have hzg2 := get_D (l := z.roads.l) (k := k - 1) 0 (by omega)
    refine qal ?_
    refine qat ?_
    refine qao ?_
    refine qds ?_
    refine qbl ?_
    refine qal ?_
    refine qat ?_
    refine qao ?_
    refine qb7 ?_
    refine DJ_q (by first | exact yv_index_ro tb rfl rfl rfl rfl (by first | assumption | exact zr (by simp)) (i := k - 1) (by first | rfl | omega | (simp; omega)) (by omega) | exact yv_index tb rfl rfl rfl rfl (i := k - 1) (by first | rfl | omega | (simp; omega)) (by omega)) rfl rfl rfl ?_
    refine qbl ?_
    refine DJ_q (yv_leq rfl rfl) rfl rfl rfl ?_
    refine qbp ?_
    refine qbp ?_
    refine qbu ?_
    refine q_c (fun hc3 => ?_) (fun hc3 => ?_)
    ·
     refine qae ?_
     refine qad ?_
     refine qbt ?_
     refine q_i (L' := L) (R' := R) ?_
     exact ybnac
    refine qbj ?_
    refine qaa ?_
    refine qar ?_
    refine qad ?_
    refine qav ?_
    exact loopK_mk (⟨k + 1, by omega, fun j hj => by
    rcases Nat.lt_or_ge j k with h | h
    · exact hal j h
    · obtain rfl : j = k := by omega
      rw [roadBad]; omega⟩) (by repeat (first | exact Off.refl | apply Off.upd rfl | apply Off.havoc rfl | apply Off.updL rfl | apply Off.left rfl)) (by repeat' (first | exact trivial | refine And.intro rfl ?_)) (by repeat (first | exact zs0 _ | exact zs1 _ | apply zs2 | apply zs3 | apply zs4 | apply zs5)) (allR_self _) (by dsimp only; omega)
   replace hg22 := qb hg22
   iterate 12 refine qap ?_
   refine qbp ?_
   refine qbp ?_
   refine qbu ?_
   refine CJ_cond_false rfl ?_
   refine qbj ?_
   refine qaa ?_
   refine qar ?_
   refine qad ?_
   refine qav ?_
   exact loopK_mk (⟨k + 1, by omega, fun j hj => by
   rcases Nat.lt_or_ge j k with h | h
   · exact hal j h
   · obtain rfl : j = k := by omega
     rw [roadBad]; omega⟩) (by repeat (first | exact Off.refl | apply Off.upd rfl | apply Off.havoc rfl | apply Off.updL rfl | apply Off.left rfl)) (by repeat' (first | exact trivial | refine And.intro rfl ?_)) (by repeat (first | exact zs0 _ | exact zs1 _ | apply zs2 | apply zs3 | apply zs4 | apply zs5)) (allR_self _) (by dsimp only; omega)
  refine qbk ?_
  refine qad ?_
  refine qa0 ?_
  refine q_i (L' := L) (R' := R) ?_
  exact ⟨by rw [zoneErr_none (by omega) (by omega) (fun j hj => hal j (by omega))], rfl, rfl⟩
theorem refSite_tri (s : XSite) (L : List Blk) (R : List Sl) (hs : SiteR s R) :
    Tri Try.prog 16 [s.val].toArray L R (fun v L' R' => v = .int .i64 (siteErr s) ∧ L = L' ∧ R = R') := by
  have hsR := hs.sensors
  have hcR := hs.conds
  have hzR := hs.zones
  have hpR := hs.persons
  refine tri_enter 100 Try.call16 Try.func16 rfl rfl rfl ?_
  refine qae ?_
  refine qax ?_
  intro b1
  refine qad ?_
  refine qaw ?_
  refine qab ?_
  refine qa8 ?_
  refine q_l rfl (ref09Check_tri s.air _ _ hs.air) ?_
  refine qad ?_
  refine qam ?_
  refine qaa ?_
  refine qbq ?_
  refine qaf ?_
  refine q_c (fun hc0 => ?_) (fun hc0 => ?_)
  ·
   refine qae ?_
   refine qaa ?_
   refine qad ?_
   refine qbh ?_
   refine q_i (L' := L) (R' := R) ?_
   exact ⟨by rw [siteErr, if_pos hc0], rfl, rfl⟩
  refine qbo ?_
  refine qab ?_
  refine qac ?_
  refine qag ?_
  refine qa5 ?_
  refine qah ?_
  apply LJ_or (G := [_, _, _, _]) (j := 4) (cj := 20) rfl rfl (by rfl) rfl (show _ = Value.bool _ from rfl) rfl
  ·
   intro hg5
   replace hg5 := qb hg5
   refine qab ?_
   refine qac ?_
   refine qag ?_
   refine qa5 ?_
   exact qai
  intro junk5
  refine qah ?_
  apply LJ_or (G := [_, _, _, _]) (j := 10) (cj := 26) rfl rfl (by rfl) rfl (show _ = Value.bool _ from rfl) rfl
  ·
   intro hg11
   replace hg11 := qb hg11
   refine qab ?_
   refine qac ?_
   refine qag ?_
   refine qa5 ?_
   exact qai
  intro junk11
  refine qah ?_
  apply LJ_or (G := [_, _, _, _]) (j := 16) (cj := 32) rfl rfl (by rfl) rfl (show _ = Value.bool _ from rfl) rfl
  ·
   intro hg17
   replace hg17 := qb hg17
   refine qab ?_
   refine qac ?_
   refine qag ?_
   refine qa5 ?_
   exact qai
  intro junk17
  refine qaf ?_
  refine q_c (fun hc1 => ?_) (fun hc1 => ?_)
  ·
   refine qae ?_
   refine qad ?_
   refine qbh ?_
   refine q_i (L' := L) (R' := R) ?_
   exact ⟨by rw [siteErr, if_neg (by omega), if_pos (by omega)], rfl, rfl⟩
  refine qbo ?_
  refine ybnad ?_
  refine q_l rfl (refSensors_tri s _ _ hsR (by omega)) ?_
  refine qad ?_
  refine qam ?_
  refine qaa ?_
  refine qbq ?_
  refine qaf ?_
  refine q_c (fun hc2 => ?_) (fun hc2 => ?_)
  ·
   refine qae ?_
   refine qaa ?_
   refine qad ?_
   refine qbh ?_
   refine q_i (L' := L) (R' := R) ?_
   exact ⟨by rw [siteErr, if_neg (by omega), if_neg (by omega), if_pos hc2], rfl, rfl⟩
  refine qbo ?_
  refine qad ?_
  refine qa2 ?_
  refine CJ_forget [(1, Value.pointer _), (5, Value.int _ _)] (by repeat' (first | exact trivial | refine And.intro rfl ?_)) fun tq0 => ?_
  refine q_s [2, 5, 6, 43, 44, 45, 46, 47, 48, 49, 50, 51, 52, 53, 54, 55, 56, 57, 58, 59] (fun g : FS (condF s) (s.conds.l) => [(5, .int .i64 ((g.1 : Nat) : Int))]) (fun g => (s.conds.l).length - g.1) ⟨0, FS_zero _ _⟩ ?_
  rintro ⟨k0, hk0, hp0⟩ junk
  try dsimp only
  refine qbi ?_
  refine qaa ?_
  refine qab ?_
  refine qac ?_
  refine qag ?_
  refine qaj ?_
  refine qaf ?_
  refine q_c (fun hc3 => ?_) (fun hc3 => ?_)
  ·
   obtain ⟨c, hc⟩ := get_some (l := s.conds.l) (k := k0) (by omega)
   refine CJ_skip (seqK_normal (CJ_seq (CJ_block (CJ_seq ?_))))
   refine ybnae ?_
   refine ybnaf ?_
   refine qal ?_
   refine qat ?_
   refine qao ?_
   refine DJ_q (by first | exact yv_index_ro tb rfl rfl rfl rfl (by first | assumption | exact zr (by simp)) (i := k0) (by first | rfl | omega | (simp; omega)) (by omega) | exact yv_index tb rfl rfl rfl rfl (i := k0) (by first | rfl | omega | (simp; omega)) (by omega)) rfl rfl rfl ?_
   refine DJ_q (by first | exact yv_loadN_ro (row := [_, _, _, _, _, _]) tb rfl rfl rfl (by first | assumption | exact zr (by simp)) (by assumption) (by rfl) (by rfl) | exact yv_loadN (row := [_, _, _, _, _, _]) tb rfl rfl rfl (by repeat (first | exact zi0 | apply zi1 | apply zi2)) (by rfl) (by rfl)) rfl rfl rfl ?_
   refine q_d rfl (refCond_tri s c _ _ hsR (by omega)) ?_
   refine qcg ?_
   refine DJ_nil (seqK_normal (CJ_seq (CJ_region ?_)))
   refine qaa ?_
   refine qbq ?_
   refine qaf ?_
   refine q_c (fun hc4 => ?_) (fun hc4 => ?_)
   ·
    refine qae ?_
    refine qaa ?_
    refine qad ?_
    refine qbt ?_
    refine q_i (L' := L) (R' := R) ?_
    have e : condsErr s = condErr s.sensors.l s.air.mine.roads.l.length c := by rw [condsErr, FS_some (f := condF s) hp0 hc (nzO_some hc4)]; rfl
    exact ⟨by rw [siteErr, if_neg (by omega), if_neg (by omega), if_neg (by omega), if_pos (by rw [e]; exact hc4), e], rfl, rfl⟩
   refine qbj ?_
   refine qaa ?_
   refine qar ?_
   refine qad ?_
   refine qav ?_
   exact q_k ⟨k0 + 1, FS_next hp0 hc (nzO_none (by omega))⟩
  have hn0 := FS_none hp0 (by omega)
  refine CJ_exit (seqK_exit (loopK_exit (blockK_exit (seqK_normal (CJ_seq (CJ_seq ?_))))))
  have hce : condsErr s = 0 := by rw [condsErr, hn0]; rfl
  refine qay ?_
  refine qad ?_
  refine qa2 ?_
  refine CJ_forget [(1, Value.pointer _), (7, Value.int _ _)] (by repeat' (first | exact trivial | refine And.intro rfl ?_)) fun tq1 => ?_
  refine q_s [2, 7, 8, 60, 61, 62, 63, 64, 65, 66, 67, 68, 69, 70, 71, 72, 73, 74, 75, 76] (fun g : FS (zoneF s) (s.zones.l) => [(7, .int .i64 ((g.1 : Nat) : Int))]) (fun g => (s.zones.l).length - g.1) ⟨0, FS_zero _ _⟩ ?_
  rintro ⟨k1, hk1, hp1⟩ junk
  try dsimp only
  refine qbi ?_
  refine qaa ?_
  refine qab ?_
  refine qac ?_
  refine qag ?_
  refine qaj ?_
  refine qaf ?_
  refine q_c (fun hc5 => ?_) (fun hc5 => ?_)
  ·
   obtain ⟨z, hz⟩ := get_some (l := s.zones.l) (k := k1) (by omega)
   refine CJ_skip (seqK_normal (CJ_seq (CJ_block (CJ_seq ?_))))
   refine ybnae ?_
   refine ybnaf ?_
   refine qal ?_
   refine qat ?_
   refine qao ?_
   refine DJ_q (by first | exact yv_index_ro tb rfl rfl rfl rfl (by first | assumption | exact zr (by simp)) (i := k1) (by first | rfl | omega | (simp; omega)) (by omega) | exact yv_index tb rfl rfl rfl rfl (i := k1) (by first | rfl | omega | (simp; omega)) (by omega)) rfl rfl rfl ?_
   refine qdp ?_
   refine q_d rfl (refZone_tri s z _ _ (InR.rule hzR hz) (InR.zroads hzR hz)) ?_
   refine qcg ?_
   refine DJ_nil (seqK_normal (CJ_seq (CJ_region ?_)))
   refine qaa ?_
   refine qbq ?_
   refine qaf ?_
   refine q_c (fun hc6 => ?_) (fun hc6 => ?_)
   ·
    refine qae ?_
    refine qaa ?_
    refine qad ?_
    refine qbt ?_
    refine q_i (L' := L) (R' := R) ?_
    have e : zonesErr s = zoneErr s.conds.l.length s.air.mine.roads.l.length z := by rw [zonesErr, FS_some (f := zoneF s) hp1 hz (nzO_some hc6)]; rfl
    exact ⟨by rw [siteErr, if_neg (by omega), if_neg (by omega), if_neg (by omega), if_neg (by omega), if_pos (by rw [e]; exact hc6), e], rfl, rfl⟩
   refine qbj ?_
   refine qaa ?_
   refine qar ?_
   refine qad ?_
   refine qav ?_
   exact q_k ⟨k1 + 1, FS_next hp1 hz (nzO_none (by omega))⟩
  have hn1 := FS_none hp1 (by omega)
  refine CJ_exit (seqK_exit (loopK_exit (blockK_exit (seqK_normal (CJ_seq (CJ_seq ?_))))))
  have hze : zonesErr s = 0 := by rw [zonesErr, hn1]; rfl
  refine qay ?_
  refine qad ?_
  refine qa2 ?_
  refine CJ_forget [(1, Value.pointer _), (9, Value.int _ _)] (by repeat' (first | exact trivial | refine And.intro rfl ?_)) fun tq2 => ?_
  refine q_s [2, 9, 77, 78, 79, 80, 81, 82, 83, 84, 85, 86, 87, 88, 89, 90, 91, 92, 93, 94, 95, 96, 97, 98, 99] (fun g : FS (persF) (s.persons.l) => [(9, .int .i64 ((g.1 : Nat) : Int))]) (fun g => (s.persons.l).length - g.1) ⟨0, FS_zero _ _⟩ ?_
  rintro ⟨k2, hk2, hp2⟩ junk
  try dsimp only
  refine qbi ?_
  refine qaa ?_
  refine qab ?_
  refine qac ?_
  refine qag ?_
  refine qaj ?_
  refine qaf ?_
  refine q_c (fun hc7 => ?_) (fun hc7 => ?_)
  ·
   obtain ⟨p, hp⟩ := get_some (l := s.persons.l) (k := k2) (by omega)
   refine qbb ?_
   refine qab ?_
   refine qac ?_
   refine qaa ?_
   refine ybnag ?_
   refine qb0 ?_
   refine qa7 ?_
   refine qaj ?_
   refine qah ?_
   apply LJ_or (G := [_, _, _, _, _, _, _]) (j := 7) (cj := 91) rfl rfl (by rfl) rfl (show _ = Value.bool _ from rfl) rfl
   ·
    intro hg8
    replace hg8 := qb hg8
    refine qab ?_
    refine qac ?_
    refine qaa ?_
    refine ybnag ?_
    refine qb0 ?_
    refine qa7 ?_
    refine qa5 ?_
    exact qai
   intro junk8
   refine qaf ?_
   refine q_c (fun hc8 => ?_) (fun hc8 => ?_)
   ·
    refine qae ?_
    refine qad ?_
    refine qbt ?_
    refine q_i (L' := L) (R' := R) ?_
    have e : personsErr s = 19 := by rw [personsErr, FS_some (f := persF) hp2 hp (show persF p = some 19 from if_pos hc8)]; rfl
    exact ybnah
   refine qbj ?_
   refine qaa ?_
   refine qar ?_
   refine qad ?_
   refine qav ?_
   exact q_k ⟨k2 + 1, FS_next hp2 hp (show persF p = none from if_neg (by omega))⟩
  have hn2 := FS_none hp2 (by omega)
  refine qbk ?_
  refine qad ?_
  refine qa0 ?_
  refine q_i (L' := L) (R' := R) ?_
  have e : personsErr s = 0 := by rw [personsErr, hn2]; rfl
  exact ybnah
end Go.Proofs.Ytkpfjmibipblhaa
