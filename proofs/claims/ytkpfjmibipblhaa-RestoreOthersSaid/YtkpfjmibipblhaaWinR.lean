import Derived.Test.YtkpfjmibipblhaaRule
import Derived.Test.YtkpfjmibipblhaaChecks
import Derived.Test.YtkpfjmibipblhaaNarrow
section
/-
  Sites and their errors: cutoff.Check, cutoff.Known. By an AI agent; no person has read it.
-/
set_option linter.unusedSimpArgs false
set_option linter.unusedVariables false
namespace Go.Proofs.Ytkpfjmibipblhaa
open Go.Aw Go
section
variable {A9 B9 : Prop}
theorem ybhaa (a : A9) (h : A9 → B9 := by exact LJ_q (yv_loadN (row := [_, _, _]) tb rfl rfl rfl (by repeat (first | exact zi0 | apply zi1 | apply zi2)) (by rfl) (by rfl)) rfl) : B9 := h a
theorem ybhab (a : A9) (h : A9 → B9 := by exact LJ_q (by first | exact yv_index_ro tb rfl rfl rfl rfl (by first | assumption | exact zr (by simp)) (i := c.target.toNat) (by first | rfl | omega | (simp; omega)) (by omega) | exact yv_index tb rfl rfl rfl rfl (i := c.target.toNat) (by first | rfl | omega | (simp; omega)) (by omega)) rfl) : B9 := h a
theorem ybhac (a : A9) (h : A9 → B9 := by exact LJ_q (by first | exact yv_loadN_ro (row := [_, _, _, _, _, _, _, _]) tb rfl rfl rfl (by first | assumption | exact zr (by simp)) (by assumption) (by rfl) (by rfl) | exact yv_loadN (row := [_, _, _, _, _, _, _, _]) tb rfl rfl rfl (by repeat (first | exact zi0 | apply zi1 | apply zi2)) (by rfl) (by rfl)) rfl) : B9 := h a
end
theorem yv_index_cut {P : Program} {ρ : Operand → Value} {L : List Blk} {R : List Sl} {dst : Option Tmp} {ty : TypeId} {pos : String} {after : Array Edge} {guard : Option (Nat × Bool)} (tb : Tabs P) {T : TypeId} {x y : Operand} {k : IntKind} {a : Int} {e n n2 bt z bt2 z2 k2} {fl fl2 : List (Nat × Nat)} {h len cap i : Nat} {ar : Option Addr} {rows : List (List Value)} {subs : List Sl} (hT : getT tb.tab T = some ⟨.slice e, n, fl, bt, z⟩) (hE : getT tb.tab e = some ⟨k2, n2, fl2, bt2, z2⟩)
    (hx : ρ x = .slice ar h cap) (hy : ρ y = .int k a) (hR : InR (.mk n2 ar len cap rows subs) R) (hle : h ≤ len) (hi : a = (i : Int)) (hlt : i < h) :
    YV P ⟨dst, .indexAddr T x y, ty, pos, after, guard⟩ ρ L R (.pointer (some ⟨adB ar, eo ar n2 i 0, none⟩)) := fun c w hst => by
  obtain ⟨⟨G, hh, hg⟩, ho, hk⟩ := hst
  have hst2 : St c L (.mk n2 ar h cap (rows.take h) subs :: R) w := ⟨⟨G, ⟨hh.nd, hh.own, hh.ng, hh.gs, fun r hr => by
    rcases List.mem_cons.1 hr with rfl | hr
    · obtain ⟨r', hr', hs⟩ := hR
      exact rep_take ((hh.rep r' hr').sub hs) hle
    · exact hh.rep r hr⟩, hg⟩, ho, hk⟩
  exact yv_index_ro tb hT hE hx hy (inR_self (.head _)) hi hlt c w hst2

set_option maxRecDepth 20000
attribute [local irreducible] CJ LJ DJ Tri YV Gives seqK blockK loopK retK RV mergeK OwL.L
theorem has_tri (a b : Int) (L : List Blk) (R : List Sl) :
    Tri Try.prog 63 [.int .i64 a, .int .i64 b].toArray L R (fun v L' R' => v = .bool (decide (0 ≤ a ∧ a < b)) ∧ L = L' ∧ R = R') := by
  refine tri_enter 12 Try.call63 Try.func63 rfl rfl rfl ?_
  refine qae ?_
  refine qaz ?_
  refine qam ?_
  refine qaa ?_
  refine qbz ?_
  refine qah ?_
  apply LJ_and (G := [_, _, _]) (j := 2) (cj := 7) rfl rfl (by rfl) rfl (show _ = Value.bool _ from rfl) rfl
  ·
   intro hg3
   replace hg3 := qb hg3
   refine qaa ?_
   refine qaa ?_
   refine qaj ?_
   exact qai
  intro junk3
  refine qaz ?_
  refine qa0 ?_
  refine q_b (L' := L) (R' := R) ?_
  exact ⟨by refine congrArg Value.bool ?_; rw [Bool.eq_iff_iff]; simp, rfl, rfl⟩
theorem sensAt_none {a : XAir} {S : List XSens} {i : Nat} {x : XSens} (hx : x = S.getD i default) (h1 : sensErr x = 0) (h2 : 0 ≤ x.target ∧ x.target < sensOf a x) (h3 : ∀ k : Nat, k < i → (S.getD k default).address ≠ x.address) : sensAt a S i = none := by
  rw [sensAt, ← hx, if_neg (by omega), if_neg (fun h => h h2), if_neg]
  rintro ⟨k, k1, k2⟩
  exact h3 k k1 k2
theorem checkSensors_tri (s : XSite) (L : List Blk) (R : List Sl) (hs : InR (sesl s.sensors) R) (hn : s.sensors.l.length ≤ 64) :
    Tri Try.prog 53 [s.val].toArray L R (fun v L' R' => v = .int .i64 (sensorsErr s.air s.sensors.l) ∧ L = L' ∧ R = R') := by
  refine Tri_cap Try.call53 hs fun hcap => ?_
  refine tri_enter 62 Try.call53 Try.func53 rfl rfl rfl ?_
  refine qae ?_
  refine qax ?_
  intro b1
  refine qad ?_
  refine qaw ?_
  refine qab ?_
  refine qac ?_
  refine qag ?_
  refine qaa ?_
  refine qa2 ?_
  refine CJ_forget [(1, Value.pointer _), (10, Value.slice _ _ _), (11, Value.int _ _), (12, Value.int _ _)] (by repeat' (first | exact trivial | refine And.intro rfl ?_)) fun tq0 => ?_
  refine q_s [2, 3, 4, 5, 6, 8, 12, 13, 14, 15, 16, 17, 18, 19, 20, 21, 22, 23, 24, 25, 26, 27, 28, 29, 30, 31, 32, 33, 34, 35, 36, 37, 38, 39, 40, 41, 42, 43, 44, 45, 46, 47, 48, 49, 50, 51, 52, 53, 54, 55, 56, 57, 58, 59, 60, 61] (fun g : FSR (sensAt s.air s.sensors.l) (s.sensors.l.length) => [(12, .int .i64 ((g.1 : Nat) : Int))]) (fun g => (s.sensors.l.length) - g.1) ⟨0, FSR_zero _ _⟩ ?_
  rintro ⟨k0, hk0, hp0⟩ junk
  try dsimp only
  refine qae ?_
  refine qaj ?_
  refine qa4 ?_
  refine q_c (fun hc0 => ?_) (fun hc0 => ?_)
  ·
   have hxg := get_D (l := s.sensors.l) (k := k0) default (by omega)
   obtain ⟨x, hx⟩ : ∃ x, x = s.sensors.l.getD k0 default := ⟨_, rfl⟩
   rw [← hx] at hxg
   refine qbb ?_
   refine qaa ?_
   refine LJ_q (by first | exact yv_index_ro tb rfl rfl rfl rfl (by first | assumption | exact zr (by simp)) (i := k0) (by first | rfl | omega | (simp; omega)) (by omega) | exact yv_index tb rfl rfl rfl rfl (i := k0) (by first | rfl | omega | (simp; omega)) (by omega)) rfl ?_
   refine ybhac ?_
   refine qaq ?_
   intro b4
   refine qad ?_
   refine qak ?_
   refine qaw ?_
   refine LJ_q (yv_loadN (row := [_, _, _, _, _, _, _, _]) tb rfl rfl rfl (by repeat (first | exact zi0 | apply zi1 | apply zi2)) (by rfl) (by rfl)) rfl ?_
   refine q_l rfl (sensCheck_tri x _ _) ?_
   refine qad ?_
   refine qam ?_
   refine qaa ?_
   refine qbq ?_
   refine qaf ?_
   refine q_c (fun hc1 => ?_) (fun hc1 => ?_)
   ·
    refine qae ?_
    refine qaa ?_
    refine qad ?_
    refine qch ?_
    refine q_i (L' := L) (R' := R) ?_
    have h := FSR_some hp0 (by omega) (show sensAt s.air s.sensors.l k0 = some (sensErr x) by rw [sensAt, ← hx, if_pos hc1])
    exact ⟨by rw [sensorsErr, h]; rfl, rfl, rfl⟩
   refine qbv ?_
   iterate 3 refine qab ?_
   refine qac ?_
   refine qag ?_
   refine qad ?_
   refine qaw ?_
   refine qab ?_
   refine qac ?_
   refine qaf ?_
   refine CJ_joinS [6, 29, 30, 31, 32, 33, 34, 35, 36, 37, 38, 39, 40] ((⟨fun g => [(6, .int .i64 g.1)], fun _ => ⟨b4, x.cells, 128⟩ :: ⟨b1, s.cells, 36⟩ :: L, fun _ => R, fun _ => 0⟩ : Head {n : Int // n = sensOf s.air x})) ?_ ?_
   ·
    refine CJ_block (CJ_seq (CJ_region ?_))
    refine qbn ?_
    refine qaz ?_
    refine qaf ?_
    refine q_c (fun hc2 => ?_) (fun hc2 => ?_)
    ·
     refine qay ?_
     refine qab ?_
     refine qab ?_
     refine qac ?_
     refine qag ?_
     refine qad ?_
     refine LJ_nil (blockK_normal ?_)
     refine q_j ⟨_, ?_⟩
     rw [sensOf]; (repeat' split) <;> first | rfl | omega
    refine qae ?_
    refine qbn ?_
    refine qaz ?_
    refine qaf ?_
    refine q_c (fun hc3 => ?_) (fun hc3 => ?_)
    ·
     refine qay ?_
     refine qab ?_
     refine qab ?_
     refine qac ?_
     refine qag ?_
     refine qad ?_
     refine LJ_nil (blockK_normal ?_)
     refine q_j ⟨_, ?_⟩
     rw [sensOf]; (repeat' split) <;> first | rfl | omega
    refine CJ_skip (blockK_normal ?_)
    refine q_j ⟨_, ?_⟩
    rw [sensOf]; (repeat' split) <;> first | rfl | omega
   rintro ⟨of, hof⟩ junk
   try dsimp only
   refine qbi ?_
   refine qab ?_
   refine qac ?_
   refine qaa ?_
   refine q_l rfl (has_tri x.target of _ _) ?_
   refine qb4 ?_
   refine qaf ?_
   refine q_c (fun hc4 => ?_) (fun hc4 => ?_)
   ·
    refine qae ?_
    refine qad ?_
    refine qch ?_
    refine q_i (L' := L) (R' := R) ?_
    have h := FSR_some hp0 (by omega) (show sensAt s.air s.sensors.l k0 = some 9 by rw [sensAt, ← hx, if_neg (by omega), if_pos (by rw [← hof]; simpa using hc4)])
    exact ⟨by rw [sensorsErr, h]; rfl, rfl, rfl⟩
   refine qbv ?_
   refine qab ?_
   refine qac ?_
   refine qaa ?_
   refine LJ_q (yv_slice_h tb rfl rfl rfl rfl (n := k0) (by first | rfl | omega | (simp; omega)) (by omega)) rfl ?_
   refine qag ?_
   refine qaa ?_
   refine qa2 ?_
   refine CJ_forgetW [2, 3, 4, 5, 6, 8, 12, 13, 14, 15, 16, 17, 18, 19, 20, 21, 22, 23, 24, 25, 26, 27, 28, 29, 30, 31, 32, 33, 34, 35, 36, 37, 38, 39, 40, 41, 42, 43, 44, 45, 46, 47, 48, 49, 50, 51, 52, 53, 54, 55, 56, 57, 58, 59, 60, 61] (by repeat (first | apply Off.upd rfl | apply Off.havoc rfl | refine Off.updL (t' := havoc _ _ _) rfl ?_ | exact Off.refl)) [(4, Value.pointer _), (12, Value.int _ _), (49, Value.slice _ _ _), (50, Value.int _ _), (51, Value.int _ _)] (by repeat' (first | exact trivial | refine And.intro rfl ?_)) fun tq1 => ?_
   refine q_s [2, 8, 51, 52, 53, 54, 55, 56, 57, 58, 59, 60] (fun g : {j : Nat // j ≤ k0 ∧ ∀ m : Nat, m < j → (s.sensors.l.getD m default).address ≠ x.address} => [(51, .int .i64 ((g.1 : Nat) : Int))]) (fun g => k0 - g.1) (⟨0, by omega, fun m hm => by omega⟩) ?_
   rintro ⟨j, hj, hal⟩ junk
   try dsimp only
   refine qae ?_
   refine qaj ?_
   refine qa4 ?_
   refine q_c (fun hc5 => ?_) (fun hc5 => ?_)
   ·
    have hjg := get_D (l := s.sensors.l) (k := j) default (by omega)
    refine qbb ?_
    refine LJ_q (yv_index_cut tb rfl rfl rfl rfl hs (by omega) (i := j) rfl (by omega)) rfl ?_
    refine ybhac ?_
    refine qaq ?_
    intro b8
    refine qak ?_
    refine qam ?_
    refine qab ?_
    refine qac ?_
    refine qab ?_
    refine qac ?_
    refine qbn ?_
    refine qaf ?_
    refine q_c (fun hc6 => ?_) (fun hc6 => ?_)
    ·
     refine qae ?_
     refine qad ?_
     refine LJ_nil (seqK_normal (CJ_ret (blockK_ret (seqK_ret (loopK_ret (blockK_ret (blockK_ret (seqK_ret (loopK_ret (blockK_ret (seqK_ret ?_)))))))))))
     refine q_i (L' := L) (R' := R) ?_
     have h := FSR_some hp0 (by omega) (show sensAt s.air s.sensors.l k0 = some 9 by rw [sensAt, ← hx, if_neg (by omega), if_neg (fun h => h (by rw [← hof]; simpa using hc4)), if_pos ⟨j, by omega, hc6⟩])
     exact ⟨by rw [sensorsErr, h]; rfl, rfl, rfl⟩
    refine qbj ?_
    refine qar ?_
    refine qaa ?_
    refine qav ?_
    exact loopK_mk (⟨j + 1, by omega, fun m hm => by
    rcases Nat.lt_or_ge m j with h | h
    · exact hal m h
    · obtain rfl : m = j := by omega
      exact hc6⟩) (by repeat (first | exact Off.refl | apply Off.upd rfl | apply Off.havoc rfl | apply Off.updL rfl | apply Off.left rfl)) (by repeat' (first | exact trivial | refine And.intro rfl ?_)) (by repeat (first | exact zs0 _ | exact zs1 _ | apply zs2 | apply zs3 | apply zs4 | apply zs5)) (allR_self _) (by dsimp only; omega)
   refine CJ_exit (seqK_exit (loopK_exit (blockK_exit (blockK_normal (seqK_normal (CJ_region ?_))))))
   refine qar ?_
   refine qaa ?_
   refine qav ?_
   exact q_k ⟨k0 + 1, FSR_next hp0 (by omega) (sensAt_none hx (by omega) (by rw [← hof]; simpa using hc4) (fun m hm => hal m (by omega)))⟩
  have hn0 := FSR_none hp0 (by omega)
  refine qbk ?_
  refine qad ?_
  refine qa0 ?_
  refine q_i (L' := L) (R' := R) ?_
  exact ⟨by rw [sensorsErr, hn0]; rfl, rfl, rfl⟩
theorem checkCond_tri (s : XSite) (c : XCond) (L : List Blk) (R : List Sl) (hs : InR (sesl s.sensors) R) (hn : s.sensors.l.length ≤ 64) :
    Tri Try.prog 54 [s.val, c.val].toArray L R (fun v L' R' => v = .int .i64 (condErr s.sensors.l s.air.mine.roads.l.length c) ∧ L = L' ∧ R = R') := by
  refine tri_enter 62 Try.call54 Try.func54 rfl rfl rfl ?_
  refine qae ?_
  refine qax ?_
  intro b2
  refine qax ?_
  intro b3
  refine qad ?_
  refine qaw ?_
  refine qab ?_
  refine qac ?_
  refine LJ_nil (seqK_normal (CJ_block (CJ_seq (CJ_seq (CJ_region ?_)))))
  refine qbn ?_
  refine qaz ?_
  refine qaf ?_
  refine q_c (fun hc0 => ?_) (fun hc0 => ?_)
  ·
   refine CJ_skip (seqK_normal ?_)
   refine q_c (fun hc2 => ?_) (fun hc2 => ?_)
   ·
    refine qae ?_
    refine qab ?_
    refine qac ?_
    refine qab ?_
    refine qac ?_
    refine qag ?_
    refine q_l rfl (has_tri c.target (s.sensors.l.length : Int) _ _) ?_
    refine qb4 ?_
    refine qaf ?_
    refine q_c (fun hc3 => ?_) (fun hc3 => ?_)
    ·
     refine qae ?_
     refine qad ?_
     refine qdb ?_
     refine q_i (L' := L) (R' := R) ?_
     exact ⟨by refine congrArg (Value.int .i64) ?_; rw [condErr, condBase]; (repeat' split) <;> omega, rfl, rfl⟩
    refine CJ_skip (blockK_normal (seqK_normal (CJ_seq (CJ_seq (CJ_region ?_)))))
    refine qab ?_
    refine qac ?_
    refine qaj ?_
    refine qah ?_
    apply LJ_or (G := [_, _, _]) (j := 3) (cj := 51) rfl rfl (by rfl) rfl (show _ = Value.bool _ from rfl) rfl
    ·
     intro hg4
     replace hg4 := qb hg4
     refine qab ?_
     refine qac ?_
     refine qa5 ?_
     exact qai
    intro junk4
    refine qaf ?_
    refine q_c (fun hc8 => ?_) (fun hc8 => ?_)
    ·
     refine qae ?_
     refine qad ?_
     refine qbh ?_
     refine q_i (L' := L) (R' := R) ?_
     exact ⟨by refine congrArg (Value.int .i64) ?_; rw [condErr, condBase]; (repeat' split) <;> omega, rfl, rfl⟩
    refine qbo ?_
    refine qab ?_
    refine qac ?_
    refine qbn ?_
    refine qaf ?_
    refine q_c (fun hc9 => ?_) (fun hc9 => ?_)
    ·
     refine qae ?_
     refine qab ?_
     refine ybhaa ?_
     refine q_l rfl (levelCheck_tri c.level _ _) ?_
     refine qad ?_
     refine qbh ?_
     refine q_i (L' := L) (R' := R) ?_
     exact ⟨by refine congrArg (Value.int .i64) ?_; rw [condErr, condBase]; (repeat' split) <;> omega, rfl, rfl⟩
    refine qbv ?_
    refine qad ?_
    refine qa0 ?_
    refine q_i (L' := L) (R' := R) ?_
    exact ⟨by refine congrArg (Value.int .i64) ?_; rw [condErr, condBase]; (repeat' split) <;> omega, rfl, rfl⟩
   refine qae ?_
   refine qbn ?_
   refine qaz ?_
   refine qaf ?_
   refine q_c (fun hc4 => ?_) (fun hc4 => ?_)
   ·
    refine qae ?_
    refine qab ?_
    refine qac ?_
    refine qab ?_
    refine qac ?_
    refine qag ?_
    refine q_l rfl (has_tri c.target (s.sensors.l.length : Int) _ _) ?_
    refine qb4 ?_
    refine qah ?_
    apply LJ_or (G := [_, _, _, _, _, _, _, _]) (j := 7) (cj := 27) rfl rfl (by rfl) rfl (show _ = Value.bool _ from rfl) rfl
    ·
     intro hg8
     replace hg8 := qb hg8
     have hsg := get_D (l := s.sensors.l) (k := c.target.toNat) default (by (try simp at hg8); omega)
     refine qab ?_
     refine qac ?_
     refine qab ?_
     refine qac ?_
     have htt : 0 ≤ c.target ∧ c.target < s.sensors.l.length := by (try simp at hg8); omega
     refine ybhab ?_
     refine qb0 ?_
     refine qa7 ?_
     refine qbq ?_
     exact qai
    intro junk8
    refine qaf ?_
    refine q_c (fun hc5 => ?_) (fun hc5 => ?_)
    ·
     refine qae ?_
     refine qad ?_
     refine qdb ?_
     refine q_i (L' := L) (R' := R) ?_
     exact ⟨by refine congrArg (Value.int .i64) ?_; rw [condErr, condBase]; (repeat' split) <;> omega, rfl, rfl⟩
    refine CJ_skip (blockK_normal (seqK_normal (CJ_seq (CJ_seq (CJ_region ?_)))))
    refine qab ?_
    refine qac ?_
    refine qaj ?_
    refine qah ?_
    apply LJ_or (G := [_, _, _]) (j := 3) (cj := 51) rfl rfl (by rfl) rfl (show _ = Value.bool _ from rfl) rfl
    ·
     intro hg4
     replace hg4 := qb hg4
     refine qab ?_
     refine qac ?_
     refine qa5 ?_
     exact qai
    intro junk4
    refine qaf ?_
    refine q_c (fun hc8 => ?_) (fun hc8 => ?_)
    ·
     refine qae ?_
     refine qad ?_
     refine qbh ?_
     refine q_i (L' := L) (R' := R) ?_
     exact ⟨by refine congrArg (Value.int .i64) ?_; rw [condErr, condBase]; (repeat' split) <;> omega, rfl, rfl⟩
    refine qbo ?_
    refine qab ?_
    refine qac ?_
    refine qbn ?_
    refine qaf ?_
    refine q_c (fun hc9 => ?_) (fun hc9 => ?_)
    ·
     refine qae ?_
     refine qab ?_
     refine ybhaa ?_
     refine q_l rfl (levelCheck_tri c.level _ _) ?_
     refine qad ?_
     refine qbh ?_
     refine q_i (L' := L) (R' := R) ?_
     exact ⟨by refine congrArg (Value.int .i64) ?_; rw [condErr, condBase]; (repeat' split) <;> omega, rfl, rfl⟩
    refine qbv ?_
    refine qad ?_
    refine qa0 ?_
    refine q_i (L' := L) (R' := R) ?_
    exact ⟨by refine congrArg (Value.int .i64) ?_; rw [condErr, condBase]; (repeat' split) <;> omega, rfl, rfl⟩
   refine qae ?_
   refine qbn ?_
   refine qaz ?_
   refine qaf ?_
   refine q_c (fun hc6 => ?_) (fun hc6 => ?_)
   ·
    refine qae ?_
    refine qab ?_
    refine qac ?_
    iterate 3 refine qab ?_
    refine qac ?_
    refine qag ?_
    refine q_l rfl (has_tri c.target (s.air.mine.roads.l.length : Int) _ _) ?_
    refine qb4 ?_
    refine qaf ?_
    refine q_c (fun hc7 => ?_) (fun hc7 => ?_)
    ·
     refine qae ?_
     refine qad ?_
     refine qdb ?_
     refine q_i (L' := L) (R' := R) ?_
     exact ⟨by refine congrArg (Value.int .i64) ?_; rw [condErr, condBase]; (repeat' split) <;> omega, rfl, rfl⟩
    refine CJ_skip (blockK_normal (seqK_normal (CJ_seq (CJ_seq (CJ_region ?_)))))
    refine qab ?_
    refine qac ?_
    refine qaj ?_
    refine qah ?_
    apply LJ_or (G := [_, _, _]) (j := 3) (cj := 51) rfl rfl (by rfl) rfl (show _ = Value.bool _ from rfl) rfl
    ·
     intro hg4
     replace hg4 := qb hg4
     refine qab ?_
     refine qac ?_
     refine qa5 ?_
     exact qai
    intro junk4
    refine qaf ?_
    refine q_c (fun hc8 => ?_) (fun hc8 => ?_)
    ·
     refine qae ?_
     refine qad ?_
     refine qbh ?_
     refine q_i (L' := L) (R' := R) ?_
     exact ⟨by refine congrArg (Value.int .i64) ?_; rw [condErr, condBase]; (repeat' split) <;> omega, rfl, rfl⟩
    refine qbo ?_
    refine qab ?_
    refine qac ?_
    refine qbn ?_
    refine qaf ?_
    refine q_c (fun hc9 => ?_) (fun hc9 => ?_)
    ·
     refine qae ?_
     refine qab ?_
     refine ybhaa ?_
     refine q_l rfl (levelCheck_tri c.level _ _) ?_
     refine qad ?_
     refine qbh ?_
     refine q_i (L' := L) (R' := R) ?_
     exact ⟨by refine congrArg (Value.int .i64) ?_; rw [condErr, condBase]; (repeat' split) <;> omega, rfl, rfl⟩
    refine qbv ?_
    refine qad ?_
    refine qa0 ?_
    refine q_i (L' := L) (R' := R) ?_
    exact ⟨by refine congrArg (Value.int .i64) ?_; rw [condErr, condBase]; (repeat' split) <;> omega, rfl, rfl⟩
   refine qae ?_
   refine qad ?_
   refine qdb ?_
   refine q_i (L' := L) (R' := R) ?_
   exact ⟨by refine congrArg (Value.int .i64) ?_; rw [condErr, condBase]; (repeat' split) <;> omega, rfl, rfl⟩
  refine qae ?_
  refine qbn ?_
  refine qaz ?_
  refine qaf ?_
  refine q_c (fun hc1 => ?_) (fun hc1 => ?_)
  ·
   refine CJ_skip (seqK_normal ?_)
   refine q_c (fun hc2 => ?_) (fun hc2 => ?_)
   ·
    refine qae ?_
    refine qab ?_
    refine qac ?_
    refine qab ?_
    refine qac ?_
    refine qag ?_
    refine q_l rfl (has_tri c.target (s.sensors.l.length : Int) _ _) ?_
    refine qb4 ?_
    refine qaf ?_
    refine q_c (fun hc3 => ?_) (fun hc3 => ?_)
    ·
     refine qae ?_
     refine qad ?_
     refine qdb ?_
     refine q_i (L' := L) (R' := R) ?_
     exact ⟨by refine congrArg (Value.int .i64) ?_; rw [condErr, condBase]; (repeat' split) <;> omega, rfl, rfl⟩
    refine CJ_skip (blockK_normal (seqK_normal (CJ_seq (CJ_seq (CJ_region ?_)))))
    refine qab ?_
    refine qac ?_
    refine qaj ?_
    refine qah ?_
    apply LJ_or (G := [_, _, _]) (j := 3) (cj := 51) rfl rfl (by rfl) rfl (show _ = Value.bool _ from rfl) rfl
    ·
     intro hg4
     replace hg4 := qb hg4
     refine qab ?_
     refine qac ?_
     refine qa5 ?_
     exact qai
    intro junk4
    refine qaf ?_
    refine q_c (fun hc8 => ?_) (fun hc8 => ?_)
    ·
     refine qae ?_
     refine qad ?_
     refine qbh ?_
     refine q_i (L' := L) (R' := R) ?_
     exact ⟨by refine congrArg (Value.int .i64) ?_; rw [condErr, condBase]; (repeat' split) <;> omega, rfl, rfl⟩
    refine qbo ?_
    refine qab ?_
    refine qac ?_
    refine qbn ?_
    refine qaf ?_
    refine q_c (fun hc9 => ?_) (fun hc9 => ?_)
    ·
     refine qae ?_
     refine qab ?_
     refine ybhaa ?_
     refine q_l rfl (levelCheck_tri c.level _ _) ?_
     refine qad ?_
     refine qbh ?_
     refine q_i (L' := L) (R' := R) ?_
     exact ⟨by refine congrArg (Value.int .i64) ?_; rw [condErr, condBase]; (repeat' split) <;> omega, rfl, rfl⟩
    refine qbv ?_
    refine qad ?_
    refine qa0 ?_
    refine q_i (L' := L) (R' := R) ?_
    exact ⟨by refine congrArg (Value.int .i64) ?_; rw [condErr, condBase]; (repeat' split) <;> omega, rfl, rfl⟩
   refine qae ?_
   refine qbn ?_
   refine qaz ?_
   refine qaf ?_
   refine q_c (fun hc4 => ?_) (fun hc4 => ?_)
   ·
    refine qae ?_
    refine qab ?_
    refine qac ?_
    refine qab ?_
    refine qac ?_
    refine qag ?_
    refine q_l rfl (has_tri c.target (s.sensors.l.length : Int) _ _) ?_
    refine qb4 ?_
    refine qah ?_
    apply LJ_or (G := [_, _, _, _, _, _, _, _]) (j := 7) (cj := 27) rfl rfl (by rfl) rfl (show _ = Value.bool _ from rfl) rfl
    ·
     intro hg8
     replace hg8 := qb hg8
     have hsg := get_D (l := s.sensors.l) (k := c.target.toNat) default (by (try simp at hg8); omega)
     refine qab ?_
     refine qac ?_
     refine qab ?_
     refine qac ?_
     have htt : 0 ≤ c.target ∧ c.target < s.sensors.l.length := by (try simp at hg8); omega
     refine ybhab ?_
     refine qb0 ?_
     refine qa7 ?_
     refine qbq ?_
     exact qai
    intro junk8
    refine qaf ?_
    refine q_c (fun hc5 => ?_) (fun hc5 => ?_)
    ·
     refine qae ?_
     refine qad ?_
     refine qdb ?_
     refine q_i (L' := L) (R' := R) ?_
     exact ⟨by refine congrArg (Value.int .i64) ?_; rw [condErr, condBase]; (repeat' split) <;> omega, rfl, rfl⟩
    refine CJ_skip (blockK_normal (seqK_normal (CJ_seq (CJ_seq (CJ_region ?_)))))
    refine qab ?_
    refine qac ?_
    refine qaj ?_
    refine qah ?_
    apply LJ_or (G := [_, _, _]) (j := 3) (cj := 51) rfl rfl (by rfl) rfl (show _ = Value.bool _ from rfl) rfl
    ·
     intro hg4
     replace hg4 := qb hg4
     refine qab ?_
     refine qac ?_
     refine qa5 ?_
     exact qai
    intro junk4
    refine qaf ?_
    refine q_c (fun hc8 => ?_) (fun hc8 => ?_)
    ·
     refine qae ?_
     refine qad ?_
     refine qbh ?_
     refine q_i (L' := L) (R' := R) ?_
     exact ⟨by refine congrArg (Value.int .i64) ?_; rw [condErr, condBase]; (repeat' split) <;> omega, rfl, rfl⟩
    refine qbo ?_
    refine qab ?_
    refine qac ?_
    refine qbn ?_
    refine qaf ?_
    refine q_c (fun hc9 => ?_) (fun hc9 => ?_)
    ·
     refine qae ?_
     refine qab ?_
     refine ybhaa ?_
     refine q_l rfl (levelCheck_tri c.level _ _) ?_
     refine qad ?_
     refine qbh ?_
     refine q_i (L' := L) (R' := R) ?_
     exact ⟨by refine congrArg (Value.int .i64) ?_; rw [condErr, condBase]; (repeat' split) <;> omega, rfl, rfl⟩
    refine qbv ?_
    refine qad ?_
    refine qa0 ?_
    refine q_i (L' := L) (R' := R) ?_
    exact ⟨by refine congrArg (Value.int .i64) ?_; rw [condErr, condBase]; (repeat' split) <;> omega, rfl, rfl⟩
   refine qae ?_
   refine qbn ?_
   refine qaz ?_
   refine qaf ?_
   refine q_c (fun hc6 => ?_) (fun hc6 => ?_)
   ·
    refine qae ?_
    refine qab ?_
    refine qac ?_
    iterate 3 refine qab ?_
    refine qac ?_
    refine qag ?_
    refine q_l rfl (has_tri c.target (s.air.mine.roads.l.length : Int) _ _) ?_
    refine qb4 ?_
    refine qaf ?_
    refine q_c (fun hc7 => ?_) (fun hc7 => ?_)
    ·
     refine qae ?_
     refine qad ?_
     refine qdb ?_
     refine q_i (L' := L) (R' := R) ?_
     exact ⟨by refine congrArg (Value.int .i64) ?_; rw [condErr, condBase]; (repeat' split) <;> omega, rfl, rfl⟩
    refine CJ_skip (blockK_normal (seqK_normal (CJ_seq (CJ_seq (CJ_region ?_)))))
    refine qab ?_
    refine qac ?_
    refine qaj ?_
    refine qah ?_
    apply LJ_or (G := [_, _, _]) (j := 3) (cj := 51) rfl rfl (by rfl) rfl (show _ = Value.bool _ from rfl) rfl
    ·
     intro hg4
     replace hg4 := qb hg4
     refine qab ?_
     refine qac ?_
     refine qa5 ?_
     exact qai
    intro junk4
    refine qaf ?_
    refine q_c (fun hc8 => ?_) (fun hc8 => ?_)
    ·
     refine qae ?_
     refine qad ?_
     refine qbh ?_
     refine q_i (L' := L) (R' := R) ?_
     exact ⟨by refine congrArg (Value.int .i64) ?_; rw [condErr, condBase]; (repeat' split) <;> omega, rfl, rfl⟩
    refine qbo ?_
    refine qab ?_
    refine qac ?_
    refine qbn ?_
    refine qaf ?_
    refine q_c (fun hc9 => ?_) (fun hc9 => ?_)
    ·
     refine qae ?_
     refine qab ?_
     refine ybhaa ?_
     refine q_l rfl (levelCheck_tri c.level _ _) ?_
     refine qad ?_
     refine qbh ?_
     refine q_i (L' := L) (R' := R) ?_
     exact ⟨by refine congrArg (Value.int .i64) ?_; rw [condErr, condBase]; (repeat' split) <;> omega, rfl, rfl⟩
    refine qbv ?_
    refine qad ?_
    refine qa0 ?_
    refine q_i (L' := L) (R' := R) ?_
    exact ⟨by refine congrArg (Value.int .i64) ?_; rw [condErr, condBase]; (repeat' split) <;> omega, rfl, rfl⟩
   refine qae ?_
   refine qad ?_
   refine qdb ?_
   refine q_i (L' := L) (R' := R) ?_
   exact ⟨by refine congrArg (Value.int .i64) ?_; rw [condErr, condBase]; (repeat' split) <;> omega, rfl, rfl⟩
  refine qay ?_
  refine qbn ?_
  refine qaz ?_
  refine qaf ?_
  refine q_c (fun hc2 => ?_) (fun hc2 => ?_)
  ·
   refine qae ?_
   refine qab ?_
   refine qac ?_
   refine qab ?_
   refine qac ?_
   refine qag ?_
   refine q_l rfl (has_tri c.target (s.sensors.l.length : Int) _ _) ?_
   refine qb4 ?_
   refine qaf ?_
   refine q_c (fun hc3 => ?_) (fun hc3 => ?_)
   ·
    refine qae ?_
    refine qad ?_
    refine qdb ?_
    refine q_i (L' := L) (R' := R) ?_
    exact ⟨by refine congrArg (Value.int .i64) ?_; rw [condErr, condBase]; (repeat' split) <;> omega, rfl, rfl⟩
   refine CJ_skip (blockK_normal (seqK_normal (CJ_seq (CJ_seq (CJ_region ?_)))))
   refine qab ?_
   refine qac ?_
   refine qaj ?_
   refine qah ?_
   apply LJ_or (G := [_, _, _]) (j := 3) (cj := 51) rfl rfl (by rfl) rfl (show _ = Value.bool _ from rfl) rfl
   ·
    intro hg4
    replace hg4 := qb hg4
    refine qab ?_
    refine qac ?_
    refine qa5 ?_
    exact qai
   intro junk4
   refine qaf ?_
   refine q_c (fun hc8 => ?_) (fun hc8 => ?_)
   ·
    refine qae ?_
    refine qad ?_
    refine qbh ?_
    refine q_i (L' := L) (R' := R) ?_
    exact ⟨by refine congrArg (Value.int .i64) ?_; rw [condErr, condBase]; (repeat' split) <;> omega, rfl, rfl⟩
   refine qbo ?_
   refine qab ?_
   refine qac ?_
   refine qbn ?_
   refine qaf ?_
   refine q_c (fun hc9 => ?_) (fun hc9 => ?_)
   ·
    refine qae ?_
    refine qab ?_
    refine ybhaa ?_
    refine q_l rfl (levelCheck_tri c.level _ _) ?_
    refine qad ?_
    refine qbh ?_
    refine q_i (L' := L) (R' := R) ?_
    exact ⟨by refine congrArg (Value.int .i64) ?_; rw [condErr, condBase]; (repeat' split) <;> omega, rfl, rfl⟩
   refine qbv ?_
   refine qad ?_
   refine qa0 ?_
   refine q_i (L' := L) (R' := R) ?_
   exact ⟨by refine congrArg (Value.int .i64) ?_; rw [condErr, condBase]; (repeat' split) <;> omega, rfl, rfl⟩
  refine qae ?_
  refine qbn ?_
  refine qaz ?_
  refine qaf ?_
  refine q_c (fun hc4 => ?_) (fun hc4 => ?_)
  ·
   refine qae ?_
   refine qab ?_
   refine qac ?_
   refine qab ?_
   refine qac ?_
   refine qag ?_
   refine q_l rfl (has_tri c.target (s.sensors.l.length : Int) _ _) ?_
   refine qb4 ?_
   refine qah ?_
   apply LJ_or (G := [_, _, _, _, _, _, _, _]) (j := 7) (cj := 27) rfl rfl (by rfl) rfl (show _ = Value.bool _ from rfl) rfl
   ·
    intro hg8
    replace hg8 := qb hg8
    have hsg := get_D (l := s.sensors.l) (k := c.target.toNat) default (by (try simp at hg8); omega)
    refine qab ?_
    refine qac ?_
    refine qab ?_
    refine qac ?_
    have htt : 0 ≤ c.target ∧ c.target < s.sensors.l.length := by (try simp at hg8); omega
    refine ybhab ?_
    refine qb0 ?_
    refine qa7 ?_
    refine qbq ?_
    exact qai
   intro junk8
   refine qaf ?_
   refine q_c (fun hc5 => ?_) (fun hc5 => ?_)
   ·
    refine qae ?_
    refine qad ?_
    refine qdb ?_
    refine q_i (L' := L) (R' := R) ?_
    exact ⟨by refine congrArg (Value.int .i64) ?_; rw [condErr, condBase]; (repeat' split) <;> omega, rfl, rfl⟩
   refine CJ_skip (blockK_normal (seqK_normal (CJ_seq (CJ_seq (CJ_region ?_)))))
   refine qab ?_
   refine qac ?_
   refine qaj ?_
   refine qah ?_
   apply LJ_or (G := [_, _, _]) (j := 3) (cj := 51) rfl rfl (by rfl) rfl (show _ = Value.bool _ from rfl) rfl
   ·
    intro hg4
    replace hg4 := qb hg4
    refine qab ?_
    refine qac ?_
    refine qa5 ?_
    exact qai
   intro junk4
   refine qaf ?_
   refine q_c (fun hc8 => ?_) (fun hc8 => ?_)
   ·
    refine qae ?_
    refine qad ?_
    refine qbh ?_
    refine q_i (L' := L) (R' := R) ?_
    exact ⟨by refine congrArg (Value.int .i64) ?_; rw [condErr, condBase]; (repeat' split) <;> omega, rfl, rfl⟩
   refine qbo ?_
   refine qab ?_
   refine qac ?_
   refine qbn ?_
   refine qaf ?_
   refine q_c (fun hc9 => ?_) (fun hc9 => ?_)
   ·
    refine qae ?_
    refine qab ?_
    refine ybhaa ?_
    refine q_l rfl (levelCheck_tri c.level _ _) ?_
    refine qad ?_
    refine qbh ?_
    refine q_i (L' := L) (R' := R) ?_
    exact ⟨by refine congrArg (Value.int .i64) ?_; rw [condErr, condBase]; (repeat' split) <;> omega, rfl, rfl⟩
   refine qbv ?_
   refine qad ?_
   refine qa0 ?_
   refine q_i (L' := L) (R' := R) ?_
   exact ⟨by refine congrArg (Value.int .i64) ?_; rw [condErr, condBase]; (repeat' split) <;> omega, rfl, rfl⟩
  refine qae ?_
  refine qbn ?_
  refine qaz ?_
  refine qaf ?_
  refine q_c (fun hc6 => ?_) (fun hc6 => ?_)
  ·
   refine qae ?_
   refine qab ?_
   refine qac ?_
   iterate 3 refine qab ?_
   refine qac ?_
   refine qag ?_
   refine q_l rfl (has_tri c.target (s.air.mine.roads.l.length : Int) _ _) ?_
   refine qb4 ?_
   refine qaf ?_
   refine q_c (fun hc7 => ?_) (fun hc7 => ?_)
   ·
    refine qae ?_
    refine qad ?_
    refine qdb ?_
    refine q_i (L' := L) (R' := R) ?_
    exact ⟨by refine congrArg (Value.int .i64) ?_; rw [condErr, condBase]; (repeat' split) <;> omega, rfl, rfl⟩
   refine CJ_skip (blockK_normal (seqK_normal (CJ_seq (CJ_seq (CJ_region ?_)))))
   refine qab ?_
   refine qac ?_
   refine qaj ?_
   refine qah ?_
   apply LJ_or (G := [_, _, _]) (j := 3) (cj := 51) rfl rfl (by rfl) rfl (show _ = Value.bool _ from rfl) rfl
   ·
    intro hg4
    replace hg4 := qb hg4
    refine qab ?_
    refine qac ?_
    refine qa5 ?_
    exact qai
   intro junk4
   refine qaf ?_
   refine q_c (fun hc8 => ?_) (fun hc8 => ?_)
   ·
    refine qae ?_
    refine qad ?_
    refine qbh ?_
    refine q_i (L' := L) (R' := R) ?_
    exact ⟨by refine congrArg (Value.int .i64) ?_; rw [condErr, condBase]; (repeat' split) <;> omega, rfl, rfl⟩
   refine qbo ?_
   refine qab ?_
   refine qac ?_
   refine qbn ?_
   refine qaf ?_
   refine q_c (fun hc9 => ?_) (fun hc9 => ?_)
   ·
    refine qae ?_
    refine qab ?_
    refine ybhaa ?_
    refine q_l rfl (levelCheck_tri c.level _ _) ?_
    refine qad ?_
    refine qbh ?_
    refine q_i (L' := L) (R' := R) ?_
    exact ⟨by refine congrArg (Value.int .i64) ?_; rw [condErr, condBase]; (repeat' split) <;> omega, rfl, rfl⟩
   refine qbv ?_
   refine qad ?_
   refine qa0 ?_
   refine q_i (L' := L) (R' := R) ?_
   exact ⟨by refine congrArg (Value.int .i64) ?_; rw [condErr, condBase]; (repeat' split) <;> omega, rfl, rfl⟩
  refine qae ?_
  refine qad ?_
  refine qdb ?_
  refine q_i (L' := L) (R' := R) ?_
  exact ⟨by refine congrArg (Value.int .i64) ?_; rw [condErr, condBase]; (repeat' split) <;> omega, rfl, rfl⟩
theorem zoneErr_of {conds n : Nat} {z : XZone} (h1 : ruleErr z.rule.l conds = 0) (h2 : ¬ (z.hold < 0 ∨ 100000 < z.hold ∨ z.fresh < 0 ∨ 100 < z.fresh)) (k : Nat) (hk : k < z.roads.l.length) (h : roadBad n z.roads.l k) : zoneErr conds n z = 4 := by
  rw [zoneErr, if_neg (by omega), if_neg h2, if_pos ⟨k, hk, h⟩]
theorem zoneErr_none {conds n : Nat} {z : XZone} (h1 : ruleErr z.rule.l conds = 0) (h2 : ¬ (z.hold < 0 ∨ 100000 < z.hold ∨ z.fresh < 0 ∨ 100 < z.fresh)) (h : ∀ k : Nat, k < z.roads.l.length → ¬ roadBad n z.roads.l k) : zoneErr conds n z = 0 := by
  rw [zoneErr, if_neg (by omega), if_neg h2, if_neg]
  rintro ⟨k, k1, k2⟩
  exact h k k1 k2
theorem checkZone_tri (s : XSite) (z : XZone) (L : List Blk) (R : List Sl) (hr : InR (ndsl z.rule) R) (hz : InR (isl z.roads) R) :
    Tri Try.prog 55 [s.val, z.val].toArray L R (fun v L' R' => v = .int .i64 (zoneErr s.conds.l.length s.air.mine.roads.l.length z) ∧ L = L' ∧ R = R') := by
  refine Tri_len Try.call55 hz fun hzn => ?_
  refine tri_enter 66 Try.call55 Try.func55 rfl rfl rfl ?_
  refine qae ?_
  refine qax ?_
  intro b2
  refine qax ?_
  intro b3
  refine qad ?_
  refine qaw ?_
  refine qab ?_
  refine qac ?_
  refine qab ?_
  refine qac ?_
  refine qag ?_
  refine q_l rfl (rlCheck_tri z.rule s.conds.l.length _ _ hr) ?_
  refine qad ?_
  refine qam ?_
  refine qaa ?_
  refine qbq ?_
  refine qaf ?_
  refine q_c (fun hc0 => ?_) (fun hc0 => ?_)
  ·
   refine qae ?_
   refine qaa ?_
   refine qad ?_
   refine qbh ?_
   refine q_i (L' := L) (R' := R) ?_
   exact ⟨by rw [zoneErr, if_pos hc0], rfl, rfl⟩
  refine qbo ?_
  refine qab ?_
  refine qac ?_
  refine qaj ?_
  refine qah ?_
  apply LJ_or (G := [_, _, _]) (j := 3) (cj := 20) rfl rfl (by rfl) rfl (show _ = Value.bool _ from rfl) rfl
  ·
   intro hg4
   replace hg4 := qb hg4
   refine qab ?_
   refine qac ?_
   refine qa5 ?_
   exact qai
  intro junk4
  refine qah ?_
  apply LJ_or (G := [_, _, _]) (j := 8) (cj := 25) rfl rfl (by rfl) rfl (show _ = Value.bool _ from rfl) rfl
  ·
   intro hg9
   replace hg9 := qb hg9
   refine qab ?_
   refine qac ?_
   refine qaj ?_
   exact qai
  intro junk9
  refine qah ?_
  apply LJ_or (G := [_, _, _]) (j := 13) (cj := 30) rfl rfl (by rfl) rfl (show _ = Value.bool _ from rfl) rfl
  ·
   intro hg14
   replace hg14 := qb hg14
   refine qab ?_
   refine qac ?_
   refine qa5 ?_
   exact qai
  intro junk14
  refine qaf ?_
  refine q_c (fun hc1 => ?_) (fun hc1 => ?_)
  ·
   refine qae ?_
   refine qad ?_
   refine qbh ?_
   refine q_i (L' := L) (R' := R) ?_
   exact ⟨by rw [zoneErr, if_neg (by omega), if_pos (by omega)], rfl, rfl⟩
  refine qbo ?_
  refine qab ?_
  refine qac ?_
  refine qag ?_
  refine qaa ?_
  refine qa2 ?_
  refine CJ_forget [(2, Value.pointer _), (3, Value.pointer _), (36, Value.slice _ _ _), (37, Value.int _ _), (38, Value.int _ _)] (by repeat' (first | exact trivial | refine And.intro rfl ?_)) fun tq0 => ?_
  refine q_s [4, 6, 7, 38, 39, 40, 41, 42, 43, 44, 45, 46, 47, 48, 49, 50, 51, 52, 53, 54, 55, 56, 57, 58, 59, 60, 61, 62, 63, 64, 65] (fun g : {k : Nat // k ≤ z.roads.l.length ∧ ∀ j : Nat, j < k → ¬ roadBad s.air.mine.roads.l.length z.roads.l j} => [(38, .int .i64 ((g.1 : Nat) : Int))]) (fun g => z.roads.l.length - g.1) (⟨0, by omega, fun j hj => by omega⟩) ?_
  rintro ⟨k, hk, hal⟩ junk
  try dsimp only
  refine qae ?_
  refine qaj ?_
  refine qa4 ?_
  refine q_c (fun hc2 => ?_) (fun hc2 => ?_)
  ·
   have hzg := get_D (l := z.roads.l) (k := k) 0 (by omega)
   refine qbb ?_
   refine qaa ?_
   refine LJ_q (by first | exact yv_index_ro tb rfl rfl rfl rfl (by first | assumption | exact zr (by simp)) (i := k) (by first | rfl | omega | (simp; omega)) (by omega) | exact yv_index tb rfl rfl rfl rfl (i := k) (by first | rfl | omega | (simp; omega)) (by omega)) rfl ?_
   refine qa7 ?_
   refine qad ?_
   refine qad ?_
   refine qam ?_
   refine qaa ?_
   iterate 3 refine qab ?_
   refine qac ?_
   refine qag ?_
   refine q_l rfl (has_tri (z.roads.l.getD k 0) (s.air.mine.roads.l.length : Int) _ _) ?_
   refine qb4 ?_
   refine qah ?_
   apply LJ_or (G := [_, _, _, _, _, _, _, _, _, _, _, _]) (j := 8) (cj := 51) rfl rfl (by rfl) rfl (show _ = Value.bool _ from rfl) rfl
   ·
    intro hg9
    replace hg9 := qb hg9
    refine qaa ?_
    refine qa5 ?_
    refine qah ?_
    apply LJ_and (G := [_, _, _, _, _, _, _, _]) (j := 11) (cj := 54) rfl rfl (by rfl) rfl (show _ = Value.bool _ from rfl) rfl
    ·
     intro hg12
     replace hg12 := qb hg12
     have hzg2 := get_D (l := z.roads.l) (k := k - 1) 0 (by simp at hg12; omega)
     refine qaa ?_
     refine qab ?_
     refine qac ?_
     refine qaa ?_
     refine qa9 ?_
     refine LJ_q (by first | exact yv_index_ro tb rfl rfl rfl rfl (by first | assumption | exact zr (by simp)) (i := k - 1) (by first | rfl | omega | (simp; omega)) (by omega) | exact yv_index tb rfl rfl rfl rfl (i := k - 1) (by first | rfl | omega | (simp; omega)) (by omega)) rfl ?_
     refine qa7 ?_
     refine qbx ?_
     exact qai
    intro junk12
    exact qai
   intro junk9
   refine qaf ?_
   refine q_c (fun hc3 => ?_) (fun hc3 => ?_)
   ·
    refine qae ?_
    refine qad ?_
    refine qbt ?_
    refine q_i (L' := L) (R' := R) ?_
    exact ⟨by rw [zoneErr_of (n := s.air.mine.roads.l.length) (by omega) (by omega) k (by omega) (by rw [roadBad]; omega)], rfl, rfl⟩
   refine qbj ?_
   refine qar ?_
   refine qaa ?_
   refine qav ?_
   exact loopK_mk (⟨k + 1, by omega, fun j hj => by
   rcases Nat.lt_or_ge j k with h | h
   · exact hal j h
   · obtain rfl : j = k := by omega
     rw [roadBad]; omega⟩) (by repeat (first | exact Off.refl | apply Off.upd rfl | apply Off.havoc rfl | apply Off.updL rfl | apply Off.left rfl)) (by repeat' (first | exact trivial | refine And.intro rfl ?_)) (by repeat (first | exact zs0 _ | exact zs1 _ | apply zs2 | apply zs3 | apply zs4 | apply zs5)) (allR_self _) (by dsimp only; omega)
  refine qbk ?_
  refine qad ?_
  refine qa0 ?_
  refine q_i (L' := L) (R' := R) ?_
  exact ⟨by rw [zoneErr_none (by omega) (by omega) (fun j hj => hal j (by omega))], rfl, rfl⟩
end Go.Proofs.Ytkpfjmibipblhaa
end
section
/-
  The draws of chapter 13: spans near flows, faces, sensors. By an AI agent; no person has read it.
-/
set_option linter.unusedSimpArgs false
set_option linter.unusedVariables false
namespace Go.Proofs.Ytkpfjmibipblhaa
open Go.Aw Go
set_option maxRecDepth 20000
attribute [local irreducible] CJ LJ DJ Tri YV Gives seqK blockK loopK retK RV mergeK OwL.L

end Go.Proofs.Ytkpfjmibipblhaa
end
section
/-
  What measurements say later, the reference's: ref05.Check, ref06.At, ref06.Meet. By an AI agent; no person has read it.
-/
set_option linter.unusedSimpArgs false
set_option linter.unusedVariables false
namespace Go.Proofs.Ytkpfjmibipblhaa
open Go.Aw Go
set_option maxRecDepth 20000
attribute [local irreducible] CJ LJ DJ Tri YV Gives seqK blockK loopK retK RV mergeK OwL.L

end Go.Proofs.Ytkpfjmibipblhaa
end
