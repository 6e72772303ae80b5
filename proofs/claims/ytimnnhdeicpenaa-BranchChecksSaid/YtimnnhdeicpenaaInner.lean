/-
  The reference's difference of pressure. By an AI agent; no person has read it.
-/
import Derived.Test.YtimnnhdeicpenaaAirS
set_option linter.unusedSimpArgs false
set_option linter.unusedVariables false
namespace Go.Proofs.Ytimnnhdeicpenaa
open Go.Aw Go
set_option maxRecDepth 20000
attribute [local irreducible] CJ LJ DJ Tri YV Gives seqK blockK loopK retK RV mergeK

/-- the resistance of a road with the first k doors -/
def restTo (a : XAir) (s : XSetting) (r : Int) : Nat → XSpan
  | 0 => (a.mine.roads.l.getD r.toNat default).rest
  | k + 1 => if (a.doors.l.getD k default).road = r then ⟨(restTo a s r k).low + (restS (a.doors.l.getD k default) (s.doors.l.getD k 0)).low, (restTo a s r k).high + (restS (a.doors.l.getD k default) (s.doors.l.getD k 0)).high⟩ else restTo a s r k
def baseS (rest lift : XSpan) (q : Int) : XSpan :=
  if q < 0 then ⟨-(rest.high * q * q) - lift.high, -(rest.low * q * q) - lift.low⟩ else ⟨rest.low * q * q - lift.high, rest.high * q * q - lift.low⟩
/-- the difference of pressure with the first k fans -/
def innerTo (a : XAir) (s : XSetting) (r q : Int) : Nat → XSpan
  | 0 => baseS (restTo a s r a.doors.l.length) (a.mine.roads.l.getD r.toNat default).lift q
  | k + 1 => if (a.fans.l.getD k default).road = r then ⟨(innerTo a s r q k).low - (stateS (a.fans.l.getD k default) (s.fans.l.getD k 0) q).high, (innerTo a s r q k).high - (stateS (a.fans.l.getD k default) (s.fans.l.getD k 0) q).low⟩ else innerTo a s r q k
def innerS (a : XAir) (s : XSetting) (r q : Int) : XSpan := innerTo a s r q a.fans.l.length

theorem restTo_bounds {a : XAir} {s : XSetting} (h : AirOk a) {r : Int} (hr : 0 ≤ r ∧ r < a.mine.roads.l.length) : ∀ (k : Nat), k ≤ a.doors.l.length →
    1 ≤ (restTo a s r k).low ∧ (restTo a s r k).low ≤ (restTo a s r k).high ∧ (restTo a s r k).high ≤ 262144 * (k + 1)
  | 0, _ => by
    have := (h.mine.road r.toNat _ (get_D default (by omega))).rest
    simp only [restTo]; omega
  | k + 1, hk => by
    have ih := restTo_bounds (s := s) h hr k (by omega)
    have hb := restS_bounds (h.door k _ (get_D default (by omega))).1 (s.doors.l.getD k 0)
    simp only [restTo]
    split
    · dsimp only; omega
    · omega

theorem mul_bounds {r q : Int} (hr : 0 ≤ r ∧ r ≤ 4456448) (hq : -1048577 ≤ q ∧ q ≤ 1048577) : -4672928874496 ≤ r * q ∧ r * q ≤ 4672928874496 := by
  rcases Int.lt_or_le q 0 with h | h
  · have h1 := Int.mul_le_mul hr.2 (show -q ≤ 1048577 by omega) (by omega) (by omega)
    have h2 := Int.mul_nonneg hr.1 (show 0 ≤ -q by omega)
    rw [Int.mul_neg] at h1 h2
    omega
  · have h1 := Int.mul_le_mul hr.2 hq.2 h (by omega)
    have h2 := Int.mul_nonneg hr.1 h
    omega

theorem innerTo_neg {a : XAir} {s : XSetting} {r q : Int} (h : q < 0) : innerTo a s r q 0 = ⟨-((restTo a s r a.doors.l.length).high * q * q) - (a.mine.roads.l.getD r.toNat default).lift.high, -((restTo a s r a.doors.l.length).low * q * q) - (a.mine.roads.l.getD r.toNat default).lift.low⟩ := if_pos h
theorem innerTo_pos {a : XAir} {s : XSetting} {r q : Int} (h : ¬ q < 0) : innerTo a s r q 0 = ⟨(restTo a s r a.doors.l.length).low * q * q - (a.mine.roads.l.getD r.toNat default).lift.high, (restTo a s r a.doors.l.length).high * q * q - (a.mine.roads.l.getD r.toNat default).lift.low⟩ := if_neg h

theorem innerTo_bounds {a : XAir} {s : XSetting} (h : AirOk a) {r q : Int} (hr : 0 ≤ r ∧ r < a.mine.roads.l.length) (hq : -1048577 ≤ q ∧ q ≤ 1048577) : ∀ (k : Nat), k ≤ a.fans.l.length →
    -4899925740432392192 - 2199023255552 * (k + 1) ≤ (innerTo a s r q k).low ∧ (innerTo a s r q k).low ≤ (innerTo a s r q k).high ∧ (innerTo a s r q k).high ≤ 4899925740432392192 + 2199023255552 * (k + 1)
  | 0, _ => by
    have hs := square_bounds hq
    have hn := h.ndoors
    have hrb := restTo_bounds (s := s) h hr a.doors.l.length (Nat.le_refl _)
    have hl := (h.mine.road r.toNat _ (get_D default (by omega))).lift
    have h1 := rest_bounds (r := (restTo a s r a.doors.l.length).low) (by omega) hs
    have h2 := rest_bounds (r := (restTo a s r a.doors.l.length).high) (by omega) hs
    have h3 : (restTo a s r a.doors.l.length).low * (q * q) ≤ (restTo a s r a.doors.l.length).high * (q * q) := Int.mul_le_mul_of_nonneg_right hrb.2.1 hs.1
    rcases Int.lt_or_le q 0 with h' | h'
    · rw [innerTo_neg h', Int.mul_assoc, Int.mul_assoc]; dsimp only; omega
    · rw [innerTo_pos (by omega), Int.mul_assoc, Int.mul_assoc]; dsimp only; omega
  | k + 1, hk => by
    have ih := innerTo_bounds (s := s) h hr hq k (by omega)
    have hb := stateS_bounds (h.fan k _ (get_D default (by omega))).1 (s.fans.l.getD k 0) q
    simp only [innerTo]
    split
    · dsimp only; omega
    · omega

theorem inner09_tri (a : XAir) (s : XSetting) (r q : Int) (L : List Blk) (R : List Sl) (hm : AirR a R) (hs : SetR s R) (ha : AirOk a) (hf : FitOk a s) (hr : 0 ≤ r ∧ r < a.mine.roads.l.length) (hq : -1048577 ≤ q ∧ q ≤ 1048577) :
    Tri Try.prog 45 [a.val, s.val, .int .i64 r, .int .i64 q].toArray L R (fun v L' R' => v = (innerS a s r q).val ∧ L = L' ∧ R = R') := by
  have hmr := hm.roads
  have hfa := hm.fans
  have hdo := hm.doors
  have hsf := hs.fans
  have hsd := hs.doors
  have hnd := ha.ndoors
  have hnf := ha.nfans
  have hlf := hf.lf
  have hld := hf.ld
  have hro := get_D (l := a.mine.roads.l) (k := r.toNat) default (by omega)
  have hrl := (ha.mine.road _ _ hro).lift
  have hsq := square_bounds hq
  refine tri_enter 138 Try.call45 Try.func45 rfl rfl rfl ?_
  refine CJ_seq (CJ_region ?_)
  refine LJ_boxN rfl rfl ?_
  intro b4
  refine LJ_boxN rfl rfl ?_
  intro b5
  refine LJ_alloc tb rfl rfl ?_
  intro b8
  refine LJ_nil (seqK_normal (CJ_seq (CJ_region ?_)))
  refine LJ_q (yv_field tb rfl rfl rfl) rfl ?_
  refine LJ_q (yv_field tb rfl rfl rfl) rfl ?_
  refine LJ_q (yv_load1 tb rfl rfl rfl (by repeat (first | exact zi0 | apply zi1 | apply zi2)) (by rfl)) rfl ?_
  refine LJ_q (yv_move (show _ = Value.int _ _ from rfl)) rfl ?_
  refine LJ_q (by first | exact yv_index_ro tb rfl rfl rfl rfl (by first | assumption | exact zr (by simp)) (i := r.toNat) (by first | rfl | omega | (simp; omega)) (by omega) | exact yv_index tb rfl rfl rfl rfl (i := r.toNat) (by first | rfl | omega | (simp; omega)) (by omega)) rfl ?_
  refine LJ_q (by first | exact yv_loadN_ro (row := [_, _, _, _, _, _, _, _, _, _]) tb rfl rfl rfl (by first | assumption | exact zr (by simp)) (by assumption) (by rfl) (by rfl) | exact yv_loadN (row := [_, _, _, _, _, _, _, _, _, _]) tb rfl rfl rfl (by repeat (first | exact zi0 | apply zi1 | apply zi2)) (by rfl) (by rfl)) rfl ?_
  refine LJ_alloc tb rfl rfl ?_
  intro b9
  refine LJ_storeW tb rfl rfl rfl rfl (by repeat (first | apply zu0 | apply zu1 | apply zu2)) (by rfl) (by rfl) ?_
  refine LJ_nil (seqK_normal (CJ_seq (CJ_region ?_)))
  refine LJ_q (yv_field tb rfl rfl rfl) rfl ?_
  refine LJ_q (yv_loadN (row := [_, _]) tb rfl rfl rfl (by repeat (first | exact zi0 | apply zi1 | apply zi2)) (by rfl) (by rfl)) rfl ?_
  refine LJ_alloc tb rfl rfl ?_
  intro b10
  refine LJ_storeW tb rfl rfl rfl rfl (by repeat (first | apply zu0 | apply zu1 | apply zu2)) (by rfl) (by rfl) ?_
  refine LJ_nil (seqK_normal (CJ_seq (CJ_seq (CJ_region ?_))))
  refine LJ_q (yv_assign (show _ = Value.int _ _ from rfl)) rfl ?_
  refine LJ_nil (seqK_normal (CJ_block ?_))
  refine CJ_forget [(2, Value.int _ _), (3, Value.int _ _), (4, Value.pointer _), (5, Value.pointer _), (8, Value.pointer _), (9, Value.pointer _), (10, Value.pointer _), (11, Value.int _ _)] (by repeat' (first | exact trivial | refine And.intro rfl ?_)) fun tq0 => ?_
  refine CJ_loop [11, 12, 24, 25, 26, 27, 28, 29, 30, 31, 32, 33, 34, 35, 36, 37, 38, 39, 40, 41, 42, 43, 44, 45, 46, 47, 48, 49, 50, 51, 52, 53, 54, 55, 56, 57, 58, 59, 60, 61] ((⟨fun g => [(11, .int .i64 ((g.1 : Nat) : Int))], fun g => ⟨b10, [.int .i64 (restTo a s r g.1).low, .int .i64 (restTo a s r g.1).high], 57⟩ :: ⟨b9, (a.mine.roads.l.getD r.toNat default).cells, 64⟩ :: ⟨b8, [.int .i64 0, .int .i64 0], 57⟩ :: ⟨b5, s.cells, 33⟩ :: ⟨b4, a.cells, 30⟩ :: L, fun _ => R, fun g => a.doors.l.length - g.1⟩ : Head {k : Nat // k ≤ a.doors.l.length})) (⟨0, by omega⟩) (by repeat' (first | exact trivial | refine And.intro rfl ?_)) (by repeat (first | exact zs0 _ | exact zs1 _ | apply zs2 | apply zs3 | apply zs4 | apply zs5)) (allR_self _) ?_
  rintro ⟨k, hk⟩ junk
  try dsimp only
  refine CJ_seq (CJ_seq (CJ_region ?_))
  refine LJ_q (yv_move (show _ = Value.int _ _ from rfl)) rfl ?_
  refine LJ_q (yv_field tb rfl rfl rfl) rfl ?_
  refine LJ_q (yv_load1 tb rfl rfl rfl (by repeat (first | exact zi0 | apply zi1 | apply zi2)) (by rfl)) rfl ?_
  refine LJ_q (yv_len tb rfl rfl rfl) rfl ?_
  refine LJ_q (yv_lss rfl rfl) rfl ?_
  refine LJ_nil (seqK_normal ?_)
  refine CJ_cond (show _ = Value.bool _ from rfl) (fun hc0 => ?_) (fun hc0 => ?_)
  ·
   try simp only [zb1, zb2, zb3, zb4, zb5, zb6, zb7, zb8] at hc0
   have hx := get_D (l := a.doors.l) (k := k) default (by omega)
   have hy := get_D (l := s.doors.l) (k := k) 0 (by omega)
   have hrb := restTo_bounds (s := s) ha hr k (by omega)
   have hdb := restS_bounds (ha.door _ _ hx).1 (s.doors.l.getD k 0)
   refine CJ_skip (seqK_normal (CJ_seq (CJ_block (CJ_seq (CJ_region ?_)))))
   refine LJ_q (yv_field tb rfl rfl rfl) rfl ?_
   refine LJ_q (yv_load1 tb rfl rfl rfl (by repeat (first | exact zi0 | apply zi1 | apply zi2)) (by rfl)) rfl ?_
   refine LJ_q (yv_move (show _ = Value.int _ _ from rfl)) rfl ?_
   refine LJ_q (by first | exact yv_index_ro tb rfl rfl rfl rfl (by first | assumption | exact zr (by simp)) rfl (by omega) | exact yv_index tb rfl rfl rfl rfl rfl (by omega)) rfl ?_
   refine LJ_q (yv_field_eo tb rfl rfl rfl) rfl ?_
   refine LJ_q (by first | exact yv_load1_ro tb rfl rfl rfl (by first | assumption | exact zr (by simp)) (by assumption) (by rfl) | exact yv_load1 tb rfl rfl rfl (by repeat (first | exact zi0 | apply zi1 | apply zi2)) (by rfl) | exact yv_load1 tb rfl rfl rfl (by repeat (first | exact zi0 | apply zi1 | apply zi2)) (icell_get (by assumption)) | exact yv_load1 tb rfl rfl rfl (by repeat (first | exact zi0 | apply zi1 | apply zi2)) (rcell_get (fun _ => rfl) (by assumption) rfl)) rfl ?_
   refine LJ_q (yv_move (show _ = Value.int _ _ from rfl)) rfl ?_
   refine LJ_q (yv_eql rfl rfl) rfl ?_
   refine LJ_nil (seqK_normal ?_)
   refine CJ_cond (show _ = Value.bool _ from rfl) (fun hc1 => ?_) (fun hc1 => ?_)
   ·
    try simp only [zb1, zb2, zb3, zb4, zb5, zb6, zb7, zb8] at hc1
    have e : restTo a s r (k + 1) = _ := if_pos hc1
    refine CJ_seq ?_
    refine CJ_drawn tb [0, 1, 2, 3, 4, 5, 6, 7, 8, 9, 10, 11, 12] _ mixed (by kernel_rfl) (List.Sublist.refl _) ?_
    refine DJ_q (yv_field tb rfl rfl rfl) rfl rfl rfl ?_
    refine DJ_q (yv_load1 tb rfl rfl rfl (by repeat (first | exact zi0 | apply zi1 | apply zi2)) (by rfl)) rfl rfl rfl ?_
    refine DJ_q (yv_move (show _ = Value.int _ _ from rfl)) rfl rfl rfl ?_
    refine DJ_q (by first | exact yv_index_ro tb rfl rfl rfl rfl (by first | assumption | exact zr (by simp)) rfl (by omega) | exact yv_index tb rfl rfl rfl rfl rfl (by omega)) rfl rfl rfl ?_
    refine DJ_q (by first | exact yv_loadN_ro (row := [_, _, _]) tb rfl rfl rfl (by first | assumption | exact zr (by simp)) (by assumption) (by rfl) (by rfl) | exact yv_loadN (row := [_, _, _]) tb rfl rfl rfl (by repeat (first | exact zi0 | apply zi1 | apply zi2)) (by rfl) (by rfl)) rfl rfl rfl ?_
    refine DJ_q (yv_field tb rfl rfl rfl) rfl rfl rfl ?_
    refine DJ_q (yv_load1 tb rfl rfl rfl (by repeat (first | exact zi0 | apply zi1 | apply zi2)) (by rfl)) rfl rfl rfl ?_
    refine DJ_q (yv_move (show _ = Value.int _ _ from rfl)) rfl rfl rfl ?_
    refine DJ_q (by first | exact yv_index_ro tb rfl rfl rfl rfl (by first | assumption | exact zr (by simp)) rfl (by omega) | exact yv_index tb rfl rfl rfl rfl rfl (by omega)) rfl rfl rfl ?_
    refine DJ_q (by first | exact yv_load1_ro tb rfl rfl rfl (by first | assumption | exact zr (by simp)) (by assumption) (by rfl) | exact yv_load1 tb rfl rfl rfl (by repeat (first | exact zi0 | apply zi1 | apply zi2)) (by rfl) | exact yv_load1 tb rfl rfl rfl (by repeat (first | exact zi0 | apply zi1 | apply zi2)) (icell_get (by assumption)) | exact yv_load1 tb rfl rfl rfl (by repeat (first | exact zi0 | apply zi1 | apply zi2)) (rcell_get (fun _ => rfl) (by assumption) rfl)) rfl rfl rfl ?_
    refine DJ_call rfl (ref08Rest_tri (a.doors.l.getD k default) (s.doors.l.getD k 0) _ _ (hdo.door hx)) rfl rfl ?_
    rintro v L' R' ⟨rfl, rfl, rfl⟩
    refine ⟨(by repeat (first | exact zs0 _ | exact zs1 _ | apply zs2 | apply zs3 | apply zs4 | apply zs5)), (by first | exact allR_self _ | exact (fun r h => inR_self (by simp [h]))), ?_⟩
    refine DJ_alloc rfl rfl ?_
    intro b12
    refine DJ_storeW rfl rfl rfl rfl (by repeat (first | apply zu0 | apply zu1 | apply zu2)) (by rfl) (by rfl) (by repeat (first | exact zs0 _ | exact zs1 _ | apply zs2 | apply zs3 | apply zs4 | apply zs5)) ?_
    refine DJ_nil (seqK_normal ?_)
    refine CJ_drawn2 tb [57, 58, 59] [0, 1, 2, 3, 4, 5, 6, 7, 8, 9, 10] [11, 12, 13] (_) _ mixed (by kernel_rfl) (by repeat (first | exact zs0 _ | exact zs1 _ | apply zs2 | apply zs3 | apply zs4 | apply zs5)) (by (repeat (first | apply List.Sublist.cons (a := Blk.mk b10 _ _) | apply List.Sublist.cons_cons)); exact List.Sublist.refl _) ?_
    refine DJ3_q (yv_field tb rfl rfl rfl) rfl rfl rfl rfl ?_
    refine DJ3_q (yv_load1 tb rfl rfl rfl (by repeat (first | exact zi0 | apply zi1 | apply zi2)) (by rfl)) rfl rfl rfl rfl ?_
    refine DJ3_q (yv_field tb rfl rfl rfl) rfl rfl rfl rfl ?_
    refine DJ3_q (yv_load1 tb rfl rfl rfl (by repeat (first | exact zi0 | apply zi1 | apply zi2)) (by rfl)) rfl rfl rfl rfl ?_
    refine DJ3_q (by first | exact yv_add64 rfl rfl (by omega) (by omega) | exact yv_addU rfl rfl (by omega) (by omega) | exact yv_add rfl rfl) rfl rfl rfl rfl ?_
    refine DJ3_q (yv_field tb rfl rfl rfl) rfl rfl rfl rfl ?_
    refine DJ3_q (yv_load1 tb rfl rfl rfl (by repeat (first | exact zi0 | apply zi1 | apply zi2)) (by rfl)) rfl rfl rfl rfl ?_
    refine DJ3_ql (yv_field tb rfl rfl rfl) rfl rfl rfl rfl ?_
    refine DJ3_ql (yv_load1 tb rfl rfl rfl (by repeat (first | exact zi0 | apply zi1 | apply zi2)) (by rfl)) rfl rfl rfl rfl ?_
    refine DJ3_ql (by first | exact yv_add64 rfl rfl (by omega) (by omega) | exact yv_addU rfl rfl (by omega) (by omega) | exact yv_add rfl rfl) rfl rfl rfl rfl ?_
    refine DJ3_q (yv_field tb rfl rfl rfl) rfl rfl rfl rfl ?_
    refine DJ3_phase ?_
    refine DJ_store1 (v := Value.int _ _) rfl rfl rfl rfl (by repeat (first | apply zu0 | apply zu1 | apply zu2)) (by first | exact icell_fit (by omega) | rfl) (by first | exact icell_set | rfl) (by rfl) (by repeat (first | exact zs0 _ | exact zs1 _ | apply zs2 | apply zs3 | apply zs4 | apply zs5)) ?_
    refine DJ_q (yv_field tb rfl rfl rfl) rfl rfl rfl ?_
    refine DJ_store1 (v := Value.int _ _) rfl rfl rfl rfl (by repeat (first | apply zu0 | apply zu1 | apply zu2)) (by first | exact icell_fit (by omega) | rfl) (by first | exact icell_set | rfl) (by rfl) (by repeat (first | exact zs0 _ | exact zs1 _ | apply zs2 | apply zs3 | apply zs4 | apply zs5)) ?_
    refine DJ_nil (blockK_normal (seqK_normal (CJ_region ?_)))
    refine LJ_q (yv_move (show _ = Value.int _ _ from rfl)) rfl ?_
    refine LJ_q (by first | exact yv_add64 rfl rfl (by omega) (by omega) | exact yv_addU rfl rfl (by omega) (by omega) | exact yv_add rfl rfl) rfl ?_
    refine LJ_q (yv_assign (show _ = Value.int _ _ from rfl)) rfl ?_
    refine LJ_nil ?_
    exact loopK_mk ⟨k + 1, by omega⟩ (by repeat (first | exact Off.refl | apply Off.upd rfl | apply Off.havoc rfl | apply Off.updL rfl | apply Off.left rfl)) (by repeat' (first | exact trivial | refine And.intro rfl ?_)) (by dsimp only; rw [e]; exact (by repeat (first | exact zs0 _ | exact zs1 _ | apply zs2 | apply zs3 | apply zs4 | apply zs5))) (allR_self _) (by dsimp only; omega)
   ·
    try simp only [zb1, zb2, zb3, zb4, zb5, zb6, zb7, zb8] at hc1
    have e : restTo a s r (k + 1) = _ := if_neg hc1
    refine CJ_skip (blockK_normal (seqK_normal (CJ_region ?_)))
    refine LJ_q (yv_move (show _ = Value.int _ _ from rfl)) rfl ?_
    refine LJ_q (by first | exact yv_add64 rfl rfl (by omega) (by omega) | exact yv_addU rfl rfl (by omega) (by omega) | exact yv_add rfl rfl) rfl ?_
    refine LJ_q (yv_assign (show _ = Value.int _ _ from rfl)) rfl ?_
    refine LJ_nil ?_
    exact loopK_mk ⟨k + 1, by omega⟩ (by repeat (first | exact Off.refl | apply Off.upd rfl | apply Off.havoc rfl | apply Off.updL rfl | apply Off.left rfl)) (by repeat' (first | exact trivial | refine And.intro rfl ?_)) (by dsimp only; rw [e]; exact (by repeat (first | exact zs0 _ | exact zs1 _ | apply zs2 | apply zs3 | apply zs4 | apply zs5))) (allR_self _) (by dsimp only; omega)
  ·
   try simp only [zb1, zb2, zb3, zb4, zb5, zb6, zb7, zb8] at hc0
   obtain rfl : k = a.doors.l.length := by omega
   have hrb := restTo_bounds (s := s) ha hr a.doors.l.length (Nat.le_refl _)
   have g1 := rest_bounds (r := (restTo a s r a.doors.l.length).low) (by omega) hsq
   have g2 := rest_bounds (r := (restTo a s r a.doors.l.length).high) (by omega) hsq
   have g3 := mul_bounds (r := (restTo a s r a.doors.l.length).low) (by omega) hq
   have g4 := mul_bounds (r := (restTo a s r a.doors.l.length).high) (by omega) hq
   rw [← Int.mul_assoc] at g1 g2
   refine CJ_exit (seqK_exit (loopK_exit (blockK_exit (seqK_normal (CJ_seq (CJ_region ?_))))))
   refine LJ_q (yv_field tb rfl rfl rfl) rfl ?_
   refine LJ_q (yv_load1 tb rfl rfl rfl (by repeat (first | exact zi0 | apply zi1 | apply zi2)) (by rfl)) rfl ?_
   refine LJ_q (yv_move (show _ = Value.int _ _ from rfl)) rfl ?_
   refine LJ_q (by first | exact yv_mul64 rfl rfl (by omega) (by omega) | exact yv_mulU rfl rfl (by omega) (by omega) | exact yv_mul rfl rfl) rfl ?_
   refine LJ_q (yv_move (show _ = Value.int _ _ from rfl)) rfl ?_
   refine LJ_q (by first | exact yv_mul64 rfl rfl (by omega) (by omega) | exact yv_mulU rfl rfl (by omega) (by omega) | exact yv_mul rfl rfl) rfl ?_
   refine LJ_q (yv_field tb rfl rfl rfl) rfl ?_
   refine LJ_q (yv_load1 tb rfl rfl rfl (by repeat (first | exact zi0 | apply zi1 | apply zi2)) (by rfl)) rfl ?_
   refine LJ_q (yv_move (show _ = Value.int _ _ from rfl)) rfl ?_
   refine LJ_q (by first | exact yv_mul64 rfl rfl (by omega) (by omega) | exact yv_mulU rfl rfl (by omega) (by omega) | exact yv_mul rfl rfl) rfl ?_
   refine LJ_q (yv_move (show _ = Value.int _ _ from rfl)) rfl ?_
   refine LJ_q (by first | exact yv_mul64 rfl rfl (by omega) (by omega) | exact yv_mulU rfl rfl (by omega) (by omega) | exact yv_mul rfl rfl) rfl ?_
   refine LJ_q (yv_build (qs := [(0, (Value.int _ _).cells.toList), (1, (Value.int _ _).cells.toList)]) (out := [_, _]) tb rfl rfl rfl rfl) rfl ?_
   refine LJ_alloc tb rfl rfl ?_
   intro b13
   refine LJ_storeW tb rfl rfl rfl rfl (by repeat (first | apply zu0 | apply zu1 | apply zu2)) (by rfl) (by rfl) ?_
   refine LJ_nil (seqK_normal (CJ_seq (CJ_seq (CJ_region ?_))))
   refine LJ_q (yv_move (show _ = Value.int _ _ from rfl)) rfl ?_
   refine LJ_q (yv_lss rfl rfl) rfl ?_
   refine LJ_nil (seqK_normal ?_)
   refine CJ_cond (show _ = Value.bool _ from rfl) (fun hc2 => ?_) (fun hc2 => ?_)
   ·
    try simp only [zb1, zb2, zb3, zb4, zb5, zb6, zb7, zb8] at hc2
    refine CJ_region ?_
    refine LJ_q (yv_field tb rfl rfl rfl) rfl ?_
    refine LJ_q (yv_load1 tb rfl rfl rfl (by repeat (first | exact zi0 | apply zi1 | apply zi2)) (by rfl)) rfl ?_
    refine LJ_q (yv_neg64 rfl (by omega) (by omega)) rfl ?_
    refine LJ_q (yv_field tb rfl rfl rfl) rfl ?_
    refine LJ_q (yv_load1 tb rfl rfl rfl (by repeat (first | exact zi0 | apply zi1 | apply zi2)) (by rfl)) rfl ?_
    refine LJ_q (yv_neg64 rfl (by omega) (by omega)) rfl ?_
    refine LJ_q (yv_build (qs := [(0, (Value.int _ _).cells.toList), (1, (Value.int _ _).cells.toList)]) (out := [_, _]) tb rfl rfl rfl rfl) rfl ?_
    refine LJ_storeW tb rfl rfl rfl rfl (by repeat (first | apply zu0 | apply zu1 | apply zu2)) (by rfl) (by rfl) ?_
    refine LJ_nil (seqK_normal (CJ_seq ?_))
    refine CJ_drawn2 tb [92, 93, 94, 95] [0, 1, 2, 3, 4, 5, 6, 7, 8, 9, 10, 11, 12] [13, 14, 15] (_) _ mixed (by kernel_rfl) (by repeat (first | exact zs0 _ | exact zs1 _ | apply zs2 | apply zs3 | apply zs4 | apply zs5)) (by (repeat (first | apply List.Sublist.cons (a := Blk.mk b13 _ _) | apply List.Sublist.cons_cons)); exact List.Sublist.refl _) ?_
    refine DJ3_q (yv_field tb rfl rfl rfl) rfl rfl rfl rfl ?_
    refine DJ3_q (yv_load1 tb rfl rfl rfl (by repeat (first | exact zi0 | apply zi1 | apply zi2)) (by rfl)) rfl rfl rfl rfl ?_
    refine DJ3_q (yv_field tb rfl rfl rfl) rfl rfl rfl rfl ?_
    refine DJ3_q (yv_field tb rfl rfl rfl) rfl rfl rfl rfl ?_
    refine DJ3_q (yv_load1 tb rfl rfl rfl (by repeat (first | exact zi0 | apply zi1 | apply zi2)) (by rfl)) rfl rfl rfl rfl ?_
    refine DJ3_q (by first | exact yv_sub64 rfl rfl (by omega) (by omega) | exact yv_sub rfl rfl) rfl rfl rfl rfl ?_
    refine DJ3_q (yv_field tb rfl rfl rfl) rfl rfl rfl rfl ?_
    refine DJ3_q (yv_load1 tb rfl rfl rfl (by repeat (first | exact zi0 | apply zi1 | apply zi2)) (by rfl)) rfl rfl rfl rfl ?_
    refine DJ3_ql (yv_field tb rfl rfl rfl) rfl rfl rfl rfl ?_
    refine DJ3_ql (yv_field tb rfl rfl rfl) rfl rfl rfl rfl ?_
    refine DJ3_ql (yv_load1 tb rfl rfl rfl (by repeat (first | exact zi0 | apply zi1 | apply zi2)) (by rfl)) rfl rfl rfl rfl ?_
    refine DJ3_ql (by first | exact yv_sub64 rfl rfl (by omega) (by omega) | exact yv_sub rfl rfl) rfl rfl rfl rfl ?_
    refine DJ3_q (yv_field tb rfl rfl rfl) rfl rfl rfl rfl ?_
    refine DJ3_phase ?_
    refine DJ_store1 (v := Value.int _ _) rfl rfl rfl rfl (by repeat (first | apply zu0 | apply zu1 | apply zu2)) (by first | exact icell_fit (by omega) | rfl) (by first | exact icell_set | rfl) (by rfl) (by repeat (first | exact zs0 _ | exact zs1 _ | apply zs2 | apply zs3 | apply zs4 | apply zs5)) ?_
    refine DJ_q (yv_field tb rfl rfl rfl) rfl rfl rfl ?_
    refine DJ_store1 (v := Value.int _ _) rfl rfl rfl rfl (by repeat (first | apply zu0 | apply zu1 | apply zu2)) (by first | exact icell_fit (by omega) | rfl) (by first | exact icell_set | rfl) (by rfl) (by repeat (first | exact zs0 _ | exact zs1 _ | apply zs2 | apply zs3 | apply zs4 | apply zs5)) ?_
    refine DJ_nil (seqK_normal (CJ_seq (CJ_seq (CJ_region ?_))))
    refine LJ_q (yv_assign (show _ = Value.int _ _ from rfl)) rfl ?_
    refine LJ_nil (seqK_normal (CJ_block ?_))
    refine CJ_forget [(2, Value.int _ _), (3, Value.int _ _), (4, Value.pointer _), (5, Value.pointer _), (8, Value.pointer _), (13, Value.pointer _), (14, Value.int _ _)] (by repeat' (first | exact trivial | refine And.intro rfl ?_)) fun tq1 => ?_
    refine CJ_loop [14, 15, 98, 99, 100, 101, 102, 103, 104, 105, 106, 107, 108, 109, 110, 111, 112, 113, 114, 115, 116, 117, 118, 119, 120, 121, 122, 123, 124, 125, 126, 127, 128, 129, 130, 131, 132, 133, 134, 135, 136] ((⟨fun g => [(14, .int .i64 ((g.1 : Nat) : Int))], fun g => ⟨b13, [.int .i64 (innerTo a s r q g.1).low, .int .i64 (innerTo a s r q g.1).high], 57⟩ :: ⟨b8, [.int .i64 0, .int .i64 0], 57⟩ :: ⟨b5, s.cells, 33⟩ :: ⟨b4, a.cells, 30⟩ :: L, fun _ => R, fun g => a.fans.l.length - g.1⟩ : Head {k : Nat // k ≤ a.fans.l.length})) (⟨0, by omega⟩) (by repeat' (first | exact trivial | refine And.intro rfl ?_)) (by dsimp only; first | (rw [innerTo_neg hc2]; exact (by repeat (first | exact zs0 _ | exact zs1 _ | apply zs2 | apply zs3 | apply zs4 | apply zs5))) | (rw [innerTo_pos hc2]; exact (by repeat (first | exact zs0 _ | exact zs1 _ | apply zs2 | apply zs3 | apply zs4 | apply zs5)))) (allR_self _) ?_
    rintro ⟨k, hk⟩ junk
    try dsimp only
    refine CJ_seq (CJ_seq (CJ_region ?_))
    refine LJ_q (yv_move (show _ = Value.int _ _ from rfl)) rfl ?_
    refine LJ_q (yv_field tb rfl rfl rfl) rfl ?_
    refine LJ_q (yv_load1 tb rfl rfl rfl (by repeat (first | exact zi0 | apply zi1 | apply zi2)) (by rfl)) rfl ?_
    refine LJ_q (yv_len tb rfl rfl rfl) rfl ?_
    refine LJ_q (yv_lss rfl rfl) rfl ?_
    refine LJ_nil (seqK_normal ?_)
    refine CJ_cond (show _ = Value.bool _ from rfl) (fun hc3 => ?_) (fun hc3 => ?_)
    ·
     try simp only [zb1, zb2, zb3, zb4, zb5, zb6, zb7, zb8] at hc3
     have hx := get_D (l := a.fans.l) (k := k) default (by omega)
     have hy := get_D (l := s.fans.l) (k := k) 0 (by omega)
     have hib := innerTo_bounds (s := s) ha hr hq k (by omega)
     have hfo := (ha.fan _ _ hx).1
     have hsb := stateS_bounds hfo (s.fans.l.getD k 0) q
     refine CJ_skip (seqK_normal (CJ_seq (CJ_block (CJ_seq (CJ_region ?_)))))
     refine LJ_q (yv_field tb rfl rfl rfl) rfl ?_
     refine LJ_q (yv_load1 tb rfl rfl rfl (by repeat (first | exact zi0 | apply zi1 | apply zi2)) (by rfl)) rfl ?_
     refine LJ_q (yv_move (show _ = Value.int _ _ from rfl)) rfl ?_
     refine LJ_q (by first | exact yv_index_ro tb rfl rfl rfl rfl (by first | assumption | exact zr (by simp)) rfl (by omega) | exact yv_index tb rfl rfl rfl rfl rfl (by omega)) rfl ?_
     refine LJ_q (yv_field_eo tb rfl rfl rfl) rfl ?_
     refine LJ_q (by first | exact yv_load1_ro tb rfl rfl rfl (by first | assumption | exact zr (by simp)) (by assumption) (by rfl) | exact yv_load1 tb rfl rfl rfl (by repeat (first | exact zi0 | apply zi1 | apply zi2)) (by rfl) | exact yv_load1 tb rfl rfl rfl (by repeat (first | exact zi0 | apply zi1 | apply zi2)) (icell_get (by assumption)) | exact yv_load1 tb rfl rfl rfl (by repeat (first | exact zi0 | apply zi1 | apply zi2)) (rcell_get (fun _ => rfl) (by assumption) rfl)) rfl ?_
     refine LJ_q (yv_move (show _ = Value.int _ _ from rfl)) rfl ?_
     refine LJ_q (yv_eql rfl rfl) rfl ?_
     refine LJ_nil (seqK_normal ?_)
     refine CJ_cond (show _ = Value.bool _ from rfl) (fun hc4 => ?_) (fun hc4 => ?_)
     ·
      try simp only [zb1, zb2, zb3, zb4, zb5, zb6, zb7, zb8] at hc4
      have e : innerTo a s r q (k + 1) = _ := if_pos hc4
      refine CJ_seq ?_
      refine CJ_drawn tb [0, 1, 2, 3, 4, 5, 6, 7, 8, 9, 10, 11, 12, 13] _ mixed (by kernel_rfl) (List.Sublist.refl _) ?_
      refine DJ_q (yv_field tb rfl rfl rfl) rfl rfl rfl ?_
      refine DJ_q (yv_load1 tb rfl rfl rfl (by repeat (first | exact zi0 | apply zi1 | apply zi2)) (by rfl)) rfl rfl rfl ?_
      refine DJ_q (yv_move (show _ = Value.int _ _ from rfl)) rfl rfl rfl ?_
      refine DJ_q (by first | exact yv_index_ro tb rfl rfl rfl rfl (by first | assumption | exact zr (by simp)) rfl (by omega) | exact yv_index tb rfl rfl rfl rfl rfl (by omega)) rfl rfl rfl ?_
      refine DJ_q (by first | exact yv_loadN_ro (row := [_, _, _, _]) tb rfl rfl rfl (by first | assumption | exact zr (by simp)) (by assumption) (by rfl) (by rfl) | exact yv_loadN (row := [_, _, _, _]) tb rfl rfl rfl (by repeat (first | exact zi0 | apply zi1 | apply zi2)) (by rfl) (by rfl)) rfl rfl rfl ?_
      refine DJ_q (yv_field tb rfl rfl rfl) rfl rfl rfl ?_
      refine DJ_q (yv_load1 tb rfl rfl rfl (by repeat (first | exact zi0 | apply zi1 | apply zi2)) (by rfl)) rfl rfl rfl ?_
      refine DJ_q (yv_move (show _ = Value.int _ _ from rfl)) rfl rfl rfl ?_
      refine DJ_q (by first | exact yv_index_ro tb rfl rfl rfl rfl (by first | assumption | exact zr (by simp)) rfl (by omega) | exact yv_index tb rfl rfl rfl rfl rfl (by omega)) rfl rfl rfl ?_
      refine DJ_q (by first | exact yv_load1_ro tb rfl rfl rfl (by first | assumption | exact zr (by simp)) (by assumption) (by rfl) | exact yv_load1 tb rfl rfl rfl (by repeat (first | exact zi0 | apply zi1 | apply zi2)) (by rfl) | exact yv_load1 tb rfl rfl rfl (by repeat (first | exact zi0 | apply zi1 | apply zi2)) (icell_get (by assumption)) | exact yv_load1 tb rfl rfl rfl (by repeat (first | exact zi0 | apply zi1 | apply zi2)) (rcell_get (fun _ => rfl) (by assumption) rfl)) rfl rfl rfl ?_
      refine DJ_q (yv_move (show _ = Value.int _ _ from rfl)) rfl rfl rfl ?_
      refine DJ_call rfl (state07_tri (a.fans.l.getD k default) (s.fans.l.getD k 0) q _ _ (hfa.fan hx) hfo hq (hf.fan _ _ hy)) rfl rfl ?_
      rintro v L' R' ⟨rfl, rfl, rfl⟩
      refine ⟨(by repeat (first | exact zs0 _ | exact zs1 _ | apply zs2 | apply zs3 | apply zs4 | apply zs5)), (by first | exact allR_self _ | exact (fun r h => inR_self (by simp [h]))), ?_⟩
      refine DJ_alloc rfl rfl ?_
      intro b15
      refine DJ_storeW rfl rfl rfl rfl (by repeat (first | apply zu0 | apply zu1 | apply zu2)) (by rfl) (by rfl) (by repeat (first | exact zs0 _ | exact zs1 _ | apply zs2 | apply zs3 | apply zs4 | apply zs5)) ?_
      refine DJ_nil (seqK_normal ?_)
      refine CJ_drawn2 tb [132, 133, 134] [0, 1, 2, 3, 4, 5, 6, 7, 8, 9, 10] [11, 12, 13] (_) _ mixed (by kernel_rfl) (by repeat (first | exact zs0 _ | exact zs1 _ | apply zs2 | apply zs3 | apply zs4 | apply zs5)) (by (repeat (first | apply List.Sublist.cons (a := Blk.mk b13 _ _) | apply List.Sublist.cons_cons)); exact List.Sublist.refl _) ?_
      refine DJ3_q (yv_field tb rfl rfl rfl) rfl rfl rfl rfl ?_
      refine DJ3_q (yv_load1 tb rfl rfl rfl (by repeat (first | exact zi0 | apply zi1 | apply zi2)) (by rfl)) rfl rfl rfl rfl ?_
      refine DJ3_q (yv_field tb rfl rfl rfl) rfl rfl rfl rfl ?_
      refine DJ3_q (yv_load1 tb rfl rfl rfl (by repeat (first | exact zi0 | apply zi1 | apply zi2)) (by rfl)) rfl rfl rfl rfl ?_
      refine DJ3_q (by first | exact yv_sub64 rfl rfl (by omega) (by omega) | exact yv_sub rfl rfl) rfl rfl rfl rfl ?_
      refine DJ3_q (yv_field tb rfl rfl rfl) rfl rfl rfl rfl ?_
      refine DJ3_q (yv_load1 tb rfl rfl rfl (by repeat (first | exact zi0 | apply zi1 | apply zi2)) (by rfl)) rfl rfl rfl rfl ?_
      refine DJ3_ql (yv_field tb rfl rfl rfl) rfl rfl rfl rfl ?_
      refine DJ3_ql (yv_load1 tb rfl rfl rfl (by repeat (first | exact zi0 | apply zi1 | apply zi2)) (by rfl)) rfl rfl rfl rfl ?_
      refine DJ3_ql (by first | exact yv_sub64 rfl rfl (by omega) (by omega) | exact yv_sub rfl rfl) rfl rfl rfl rfl ?_
      refine DJ3_q (yv_field tb rfl rfl rfl) rfl rfl rfl rfl ?_
      refine DJ3_phase ?_
      refine DJ_store1 (v := Value.int _ _) rfl rfl rfl rfl (by repeat (first | apply zu0 | apply zu1 | apply zu2)) (by first | exact icell_fit (by omega) | rfl) (by first | exact icell_set | rfl) (by rfl) (by repeat (first | exact zs0 _ | exact zs1 _ | apply zs2 | apply zs3 | apply zs4 | apply zs5)) ?_
      refine DJ_q (yv_field tb rfl rfl rfl) rfl rfl rfl ?_
      refine DJ_store1 (v := Value.int _ _) rfl rfl rfl rfl (by repeat (first | apply zu0 | apply zu1 | apply zu2)) (by first | exact icell_fit (by omega) | rfl) (by first | exact icell_set | rfl) (by rfl) (by repeat (first | exact zs0 _ | exact zs1 _ | apply zs2 | apply zs3 | apply zs4 | apply zs5)) ?_
      refine DJ_nil (blockK_normal (seqK_normal (CJ_region ?_)))
      refine LJ_q (yv_move (show _ = Value.int _ _ from rfl)) rfl ?_
      refine LJ_q (by first | exact yv_add64 rfl rfl (by omega) (by omega) | exact yv_addU rfl rfl (by omega) (by omega) | exact yv_add rfl rfl) rfl ?_
      refine LJ_q (yv_assign (show _ = Value.int _ _ from rfl)) rfl ?_
      refine LJ_nil ?_
      exact loopK_mk ⟨k + 1, by omega⟩ (by repeat (first | exact Off.refl | apply Off.upd rfl | apply Off.havoc rfl | apply Off.updL rfl | apply Off.left rfl)) (by repeat' (first | exact trivial | refine And.intro rfl ?_)) (by dsimp only; rw [e]; exact (by repeat (first | exact zs0 _ | exact zs1 _ | apply zs2 | apply zs3 | apply zs4 | apply zs5))) (allR_self _) (by dsimp only; omega)
     ·
      try simp only [zb1, zb2, zb3, zb4, zb5, zb6, zb7, zb8] at hc4
      have e : innerTo a s r q (k + 1) = _ := if_neg hc4
      refine CJ_skip (blockK_normal (seqK_normal (CJ_region ?_)))
      refine LJ_q (yv_move (show _ = Value.int _ _ from rfl)) rfl ?_
      refine LJ_q (by first | exact yv_add64 rfl rfl (by omega) (by omega) | exact yv_addU rfl rfl (by omega) (by omega) | exact yv_add rfl rfl) rfl ?_
      refine LJ_q (yv_assign (show _ = Value.int _ _ from rfl)) rfl ?_
      refine LJ_nil ?_
      exact loopK_mk ⟨k + 1, by omega⟩ (by repeat (first | exact Off.refl | apply Off.upd rfl | apply Off.havoc rfl | apply Off.updL rfl | apply Off.left rfl)) (by repeat' (first | exact trivial | refine And.intro rfl ?_)) (by dsimp only; rw [e]; exact (by repeat (first | exact zs0 _ | exact zs1 _ | apply zs2 | apply zs3 | apply zs4 | apply zs5))) (allR_self _) (by dsimp only; omega)
    ·
     try simp only [zb1, zb2, zb3, zb4, zb5, zb6, zb7, zb8] at hc3
     obtain rfl : k = a.fans.l.length := by omega
     refine CJ_exit (seqK_exit (loopK_exit (blockK_exit (seqK_normal (CJ_seq (CJ_region ?_))))))
     refine LJ_q (yv_loadN (row := [_, _]) tb rfl rfl rfl (by repeat (first | exact zi0 | apply zi1 | apply zi2)) (by rfl) (by rfl)) rfl ?_
     refine LJ_storeW tb rfl rfl rfl rfl (by repeat (first | apply zu0 | apply zu1 | apply zu2)) (by rfl) (by rfl) ?_
     refine LJ_nil (seqK_normal (CJ_ret ?_))
     refine retK_ret (L' := L) (R' := R) (res1 rfl (rv_cell (row := [_, _]) tb rfl rfl rfl (by repeat (first | exact zi0 | apply zi1 | apply zi2)) (by rfl) (by rfl))) ?hp ?hL ?hR
     case hp => exact ⟨rfl, rfl, rfl⟩
     case hL => exact (by repeat (first | exact zs0 _ | exact zs1 _ | apply zs2 | apply zs3 | apply zs4 | apply zs5))
     case hR => exact allR_self _
   ·
    try simp only [zb1, zb2, zb3, zb4, zb5, zb6, zb7, zb8] at hc2
    refine CJ_skip (seqK_normal (CJ_seq ?_))
    refine CJ_drawn2 tb [92, 93, 94, 95] [0, 1, 2, 3, 4, 5, 6, 7, 8, 9, 10, 11, 12] [13, 14, 15] (_) _ mixed (by kernel_rfl) (by repeat (first | exact zs0 _ | exact zs1 _ | apply zs2 | apply zs3 | apply zs4 | apply zs5)) (by (repeat (first | apply List.Sublist.cons (a := Blk.mk b13 _ _) | apply List.Sublist.cons_cons)); exact List.Sublist.refl _) ?_
    refine DJ3_q (yv_field tb rfl rfl rfl) rfl rfl rfl rfl ?_
    refine DJ3_q (yv_load1 tb rfl rfl rfl (by repeat (first | exact zi0 | apply zi1 | apply zi2)) (by rfl)) rfl rfl rfl rfl ?_
    refine DJ3_q (yv_field tb rfl rfl rfl) rfl rfl rfl rfl ?_
    refine DJ3_q (yv_field tb rfl rfl rfl) rfl rfl rfl rfl ?_
    refine DJ3_q (yv_load1 tb rfl rfl rfl (by repeat (first | exact zi0 | apply zi1 | apply zi2)) (by rfl)) rfl rfl rfl rfl ?_
    refine DJ3_q (by first | exact yv_sub64 rfl rfl (by omega) (by omega) | exact yv_sub rfl rfl) rfl rfl rfl rfl ?_
    refine DJ3_q (yv_field tb rfl rfl rfl) rfl rfl rfl rfl ?_
    refine DJ3_q (yv_load1 tb rfl rfl rfl (by repeat (first | exact zi0 | apply zi1 | apply zi2)) (by rfl)) rfl rfl rfl rfl ?_
    refine DJ3_ql (yv_field tb rfl rfl rfl) rfl rfl rfl rfl ?_
    refine DJ3_ql (yv_field tb rfl rfl rfl) rfl rfl rfl rfl ?_
    refine DJ3_ql (yv_load1 tb rfl rfl rfl (by repeat (first | exact zi0 | apply zi1 | apply zi2)) (by rfl)) rfl rfl rfl rfl ?_
    refine DJ3_ql (by first | exact yv_sub64 rfl rfl (by omega) (by omega) | exact yv_sub rfl rfl) rfl rfl rfl rfl ?_
    refine DJ3_q (yv_field tb rfl rfl rfl) rfl rfl rfl rfl ?_
    refine DJ3_phase ?_
    refine DJ_store1 (v := Value.int _ _) rfl rfl rfl rfl (by repeat (first | apply zu0 | apply zu1 | apply zu2)) (by first | exact icell_fit (by omega) | rfl) (by first | exact icell_set | rfl) (by rfl) (by repeat (first | exact zs0 _ | exact zs1 _ | apply zs2 | apply zs3 | apply zs4 | apply zs5)) ?_
    refine DJ_q (yv_field tb rfl rfl rfl) rfl rfl rfl ?_
    refine DJ_store1 (v := Value.int _ _) rfl rfl rfl rfl (by repeat (first | apply zu0 | apply zu1 | apply zu2)) (by first | exact icell_fit (by omega) | rfl) (by first | exact icell_set | rfl) (by rfl) (by repeat (first | exact zs0 _ | exact zs1 _ | apply zs2 | apply zs3 | apply zs4 | apply zs5)) ?_
    refine DJ_nil (seqK_normal (CJ_seq (CJ_seq (CJ_region ?_))))
    refine LJ_q (yv_assign (show _ = Value.int _ _ from rfl)) rfl ?_
    refine LJ_nil (seqK_normal (CJ_block ?_))
    refine CJ_forget [(2, Value.int _ _), (3, Value.int _ _), (4, Value.pointer _), (5, Value.pointer _), (8, Value.pointer _), (13, Value.pointer _), (14, Value.int _ _)] (by repeat' (first | exact trivial | refine And.intro rfl ?_)) fun tq1 => ?_
    refine CJ_loop [14, 15, 98, 99, 100, 101, 102, 103, 104, 105, 106, 107, 108, 109, 110, 111, 112, 113, 114, 115, 116, 117, 118, 119, 120, 121, 122, 123, 124, 125, 126, 127, 128, 129, 130, 131, 132, 133, 134, 135, 136] ((⟨fun g => [(14, .int .i64 ((g.1 : Nat) : Int))], fun g => ⟨b13, [.int .i64 (innerTo a s r q g.1).low, .int .i64 (innerTo a s r q g.1).high], 57⟩ :: ⟨b8, [.int .i64 0, .int .i64 0], 57⟩ :: ⟨b5, s.cells, 33⟩ :: ⟨b4, a.cells, 30⟩ :: L, fun _ => R, fun g => a.fans.l.length - g.1⟩ : Head {k : Nat // k ≤ a.fans.l.length})) (⟨0, by omega⟩) (by repeat' (first | exact trivial | refine And.intro rfl ?_)) (by dsimp only; first | (rw [innerTo_neg hc2]; exact (by repeat (first | exact zs0 _ | exact zs1 _ | apply zs2 | apply zs3 | apply zs4 | apply zs5))) | (rw [innerTo_pos hc2]; exact (by repeat (first | exact zs0 _ | exact zs1 _ | apply zs2 | apply zs3 | apply zs4 | apply zs5)))) (allR_self _) ?_
    rintro ⟨k, hk⟩ junk
    try dsimp only
    refine CJ_seq (CJ_seq (CJ_region ?_))
    refine LJ_q (yv_move (show _ = Value.int _ _ from rfl)) rfl ?_
    refine LJ_q (yv_field tb rfl rfl rfl) rfl ?_
    refine LJ_q (yv_load1 tb rfl rfl rfl (by repeat (first | exact zi0 | apply zi1 | apply zi2)) (by rfl)) rfl ?_
    refine LJ_q (yv_len tb rfl rfl rfl) rfl ?_
    refine LJ_q (yv_lss rfl rfl) rfl ?_
    refine LJ_nil (seqK_normal ?_)
    refine CJ_cond (show _ = Value.bool _ from rfl) (fun hc3 => ?_) (fun hc3 => ?_)
    ·
     try simp only [zb1, zb2, zb3, zb4, zb5, zb6, zb7, zb8] at hc3
     have hx := get_D (l := a.fans.l) (k := k) default (by omega)
     have hy := get_D (l := s.fans.l) (k := k) 0 (by omega)
     have hib := innerTo_bounds (s := s) ha hr hq k (by omega)
     have hfo := (ha.fan _ _ hx).1
     have hsb := stateS_bounds hfo (s.fans.l.getD k 0) q
     refine CJ_skip (seqK_normal (CJ_seq (CJ_block (CJ_seq (CJ_region ?_)))))
     refine LJ_q (yv_field tb rfl rfl rfl) rfl ?_
     refine LJ_q (yv_load1 tb rfl rfl rfl (by repeat (first | exact zi0 | apply zi1 | apply zi2)) (by rfl)) rfl ?_
     refine LJ_q (yv_move (show _ = Value.int _ _ from rfl)) rfl ?_
     refine LJ_q (by first | exact yv_index_ro tb rfl rfl rfl rfl (by first | assumption | exact zr (by simp)) rfl (by omega) | exact yv_index tb rfl rfl rfl rfl rfl (by omega)) rfl ?_
     refine LJ_q (yv_field_eo tb rfl rfl rfl) rfl ?_
     refine LJ_q (by first | exact yv_load1_ro tb rfl rfl rfl (by first | assumption | exact zr (by simp)) (by assumption) (by rfl) | exact yv_load1 tb rfl rfl rfl (by repeat (first | exact zi0 | apply zi1 | apply zi2)) (by rfl) | exact yv_load1 tb rfl rfl rfl (by repeat (first | exact zi0 | apply zi1 | apply zi2)) (icell_get (by assumption)) | exact yv_load1 tb rfl rfl rfl (by repeat (first | exact zi0 | apply zi1 | apply zi2)) (rcell_get (fun _ => rfl) (by assumption) rfl)) rfl ?_
     refine LJ_q (yv_move (show _ = Value.int _ _ from rfl)) rfl ?_
     refine LJ_q (yv_eql rfl rfl) rfl ?_
     refine LJ_nil (seqK_normal ?_)
     refine CJ_cond (show _ = Value.bool _ from rfl) (fun hc4 => ?_) (fun hc4 => ?_)
     ·
      try simp only [zb1, zb2, zb3, zb4, zb5, zb6, zb7, zb8] at hc4
      have e : innerTo a s r q (k + 1) = _ := if_pos hc4
      refine CJ_seq ?_
      refine CJ_drawn tb [0, 1, 2, 3, 4, 5, 6, 7, 8, 9, 10, 11, 12, 13] _ mixed (by kernel_rfl) (List.Sublist.refl _) ?_
      refine DJ_q (yv_field tb rfl rfl rfl) rfl rfl rfl ?_
      refine DJ_q (yv_load1 tb rfl rfl rfl (by repeat (first | exact zi0 | apply zi1 | apply zi2)) (by rfl)) rfl rfl rfl ?_
      refine DJ_q (yv_move (show _ = Value.int _ _ from rfl)) rfl rfl rfl ?_
      refine DJ_q (by first | exact yv_index_ro tb rfl rfl rfl rfl (by first | assumption | exact zr (by simp)) rfl (by omega) | exact yv_index tb rfl rfl rfl rfl rfl (by omega)) rfl rfl rfl ?_
      refine DJ_q (by first | exact yv_loadN_ro (row := [_, _, _, _]) tb rfl rfl rfl (by first | assumption | exact zr (by simp)) (by assumption) (by rfl) (by rfl) | exact yv_loadN (row := [_, _, _, _]) tb rfl rfl rfl (by repeat (first | exact zi0 | apply zi1 | apply zi2)) (by rfl) (by rfl)) rfl rfl rfl ?_
      refine DJ_q (yv_field tb rfl rfl rfl) rfl rfl rfl ?_
      refine DJ_q (yv_load1 tb rfl rfl rfl (by repeat (first | exact zi0 | apply zi1 | apply zi2)) (by rfl)) rfl rfl rfl ?_
      refine DJ_q (yv_move (show _ = Value.int _ _ from rfl)) rfl rfl rfl ?_
      refine DJ_q (by first | exact yv_index_ro tb rfl rfl rfl rfl (by first | assumption | exact zr (by simp)) rfl (by omega) | exact yv_index tb rfl rfl rfl rfl rfl (by omega)) rfl rfl rfl ?_
      refine DJ_q (by first | exact yv_load1_ro tb rfl rfl rfl (by first | assumption | exact zr (by simp)) (by assumption) (by rfl) | exact yv_load1 tb rfl rfl rfl (by repeat (first | exact zi0 | apply zi1 | apply zi2)) (by rfl) | exact yv_load1 tb rfl rfl rfl (by repeat (first | exact zi0 | apply zi1 | apply zi2)) (icell_get (by assumption)) | exact yv_load1 tb rfl rfl rfl (by repeat (first | exact zi0 | apply zi1 | apply zi2)) (rcell_get (fun _ => rfl) (by assumption) rfl)) rfl rfl rfl ?_
      refine DJ_q (yv_move (show _ = Value.int _ _ from rfl)) rfl rfl rfl ?_
      refine DJ_call rfl (state07_tri (a.fans.l.getD k default) (s.fans.l.getD k 0) q _ _ (hfa.fan hx) hfo hq (hf.fan _ _ hy)) rfl rfl ?_
      rintro v L' R' ⟨rfl, rfl, rfl⟩
      refine ⟨(by repeat (first | exact zs0 _ | exact zs1 _ | apply zs2 | apply zs3 | apply zs4 | apply zs5)), (by first | exact allR_self _ | exact (fun r h => inR_self (by simp [h]))), ?_⟩
      refine DJ_alloc rfl rfl ?_
      intro b15
      refine DJ_storeW rfl rfl rfl rfl (by repeat (first | apply zu0 | apply zu1 | apply zu2)) (by rfl) (by rfl) (by repeat (first | exact zs0 _ | exact zs1 _ | apply zs2 | apply zs3 | apply zs4 | apply zs5)) ?_
      refine DJ_nil (seqK_normal ?_)
      refine CJ_drawn2 tb [132, 133, 134] [0, 1, 2, 3, 4, 5, 6, 7, 8, 9, 10] [11, 12, 13] (_) _ mixed (by kernel_rfl) (by repeat (first | exact zs0 _ | exact zs1 _ | apply zs2 | apply zs3 | apply zs4 | apply zs5)) (by (repeat (first | apply List.Sublist.cons (a := Blk.mk b13 _ _) | apply List.Sublist.cons_cons)); exact List.Sublist.refl _) ?_
      refine DJ3_q (yv_field tb rfl rfl rfl) rfl rfl rfl rfl ?_
      refine DJ3_q (yv_load1 tb rfl rfl rfl (by repeat (first | exact zi0 | apply zi1 | apply zi2)) (by rfl)) rfl rfl rfl rfl ?_
      refine DJ3_q (yv_field tb rfl rfl rfl) rfl rfl rfl rfl ?_
      refine DJ3_q (yv_load1 tb rfl rfl rfl (by repeat (first | exact zi0 | apply zi1 | apply zi2)) (by rfl)) rfl rfl rfl rfl ?_
      refine DJ3_q (by first | exact yv_sub64 rfl rfl (by omega) (by omega) | exact yv_sub rfl rfl) rfl rfl rfl rfl ?_
      refine DJ3_q (yv_field tb rfl rfl rfl) rfl rfl rfl rfl ?_
      refine DJ3_q (yv_load1 tb rfl rfl rfl (by repeat (first | exact zi0 | apply zi1 | apply zi2)) (by rfl)) rfl rfl rfl rfl ?_
      refine DJ3_ql (yv_field tb rfl rfl rfl) rfl rfl rfl rfl ?_
      refine DJ3_ql (yv_load1 tb rfl rfl rfl (by repeat (first | exact zi0 | apply zi1 | apply zi2)) (by rfl)) rfl rfl rfl rfl ?_
      refine DJ3_ql (by first | exact yv_sub64 rfl rfl (by omega) (by omega) | exact yv_sub rfl rfl) rfl rfl rfl rfl ?_
      refine DJ3_q (yv_field tb rfl rfl rfl) rfl rfl rfl rfl ?_
      refine DJ3_phase ?_
      refine DJ_store1 (v := Value.int _ _) rfl rfl rfl rfl (by repeat (first | apply zu0 | apply zu1 | apply zu2)) (by first | exact icell_fit (by omega) | rfl) (by first | exact icell_set | rfl) (by rfl) (by repeat (first | exact zs0 _ | exact zs1 _ | apply zs2 | apply zs3 | apply zs4 | apply zs5)) ?_
      refine DJ_q (yv_field tb rfl rfl rfl) rfl rfl rfl ?_
      refine DJ_store1 (v := Value.int _ _) rfl rfl rfl rfl (by repeat (first | apply zu0 | apply zu1 | apply zu2)) (by first | exact icell_fit (by omega) | rfl) (by first | exact icell_set | rfl) (by rfl) (by repeat (first | exact zs0 _ | exact zs1 _ | apply zs2 | apply zs3 | apply zs4 | apply zs5)) ?_
      refine DJ_nil (blockK_normal (seqK_normal (CJ_region ?_)))
      refine LJ_q (yv_move (show _ = Value.int _ _ from rfl)) rfl ?_
      refine LJ_q (by first | exact yv_add64 rfl rfl (by omega) (by omega) | exact yv_addU rfl rfl (by omega) (by omega) | exact yv_add rfl rfl) rfl ?_
      refine LJ_q (yv_assign (show _ = Value.int _ _ from rfl)) rfl ?_
      refine LJ_nil ?_
      exact loopK_mk ⟨k + 1, by omega⟩ (by repeat (first | exact Off.refl | apply Off.upd rfl | apply Off.havoc rfl | apply Off.updL rfl | apply Off.left rfl)) (by repeat' (first | exact trivial | refine And.intro rfl ?_)) (by dsimp only; rw [e]; exact (by repeat (first | exact zs0 _ | exact zs1 _ | apply zs2 | apply zs3 | apply zs4 | apply zs5))) (allR_self _) (by dsimp only; omega)
     ·
      try simp only [zb1, zb2, zb3, zb4, zb5, zb6, zb7, zb8] at hc4
      have e : innerTo a s r q (k + 1) = _ := if_neg hc4
      refine CJ_skip (blockK_normal (seqK_normal (CJ_region ?_)))
      refine LJ_q (yv_move (show _ = Value.int _ _ from rfl)) rfl ?_
      refine LJ_q (by first | exact yv_add64 rfl rfl (by omega) (by omega) | exact yv_addU rfl rfl (by omega) (by omega) | exact yv_add rfl rfl) rfl ?_
      refine LJ_q (yv_assign (show _ = Value.int _ _ from rfl)) rfl ?_
      refine LJ_nil ?_
      exact loopK_mk ⟨k + 1, by omega⟩ (by repeat (first | exact Off.refl | apply Off.upd rfl | apply Off.havoc rfl | apply Off.updL rfl | apply Off.left rfl)) (by repeat' (first | exact trivial | refine And.intro rfl ?_)) (by dsimp only; rw [e]; exact (by repeat (first | exact zs0 _ | exact zs1 _ | apply zs2 | apply zs3 | apply zs4 | apply zs5))) (allR_self _) (by dsimp only; omega)
    ·
     try simp only [zb1, zb2, zb3, zb4, zb5, zb6, zb7, zb8] at hc3
     obtain rfl : k = a.fans.l.length := by omega
     refine CJ_exit (seqK_exit (loopK_exit (blockK_exit (seqK_normal (CJ_seq (CJ_region ?_))))))
     refine LJ_q (yv_loadN (row := [_, _]) tb rfl rfl rfl (by repeat (first | exact zi0 | apply zi1 | apply zi2)) (by rfl) (by rfl)) rfl ?_
     refine LJ_storeW tb rfl rfl rfl rfl (by repeat (first | apply zu0 | apply zu1 | apply zu2)) (by rfl) (by rfl) ?_
     refine LJ_nil (seqK_normal (CJ_ret ?_))
     refine retK_ret (L' := L) (R' := R) (res1 rfl (rv_cell (row := [_, _]) tb rfl rfl rfl (by repeat (first | exact zi0 | apply zi1 | apply zi2)) (by rfl) (by rfl))) ?hp ?hL ?hR
     case hp => exact ⟨rfl, rfl, rfl⟩
     case hL => exact (by repeat (first | exact zs0 _ | exact zs1 _ | apply zs2 | apply zs3 | apply zs4 | apply zs5))
     case hR => exact allR_self _
end Go.Proofs.Ytimnnhdeicpenaa
