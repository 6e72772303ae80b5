/-
  draught.Pipe: the difference of pressure at a flow. By an AI agent; no person has read it.
-/
import Derived.Test.YtimnnhdeicpenaaFanW
set_option linter.unusedSimpArgs false
set_option linter.unusedVariables false
namespace Go.Proofs.Ytimnnhdeicpenaa
open Go.Aw Go
set_option maxRecDepth 20000
attribute [local irreducible] CJ LJ DJ Tri YV Gives seqK blockK loopK retK RV mergeK

structure PipeOk (p : XPipe) : Prop where
  rest : 0 ≤ p.road.rest.low ∧ p.road.rest.low ≤ p.road.rest.high ∧ p.road.rest.high ≤ 4456448
  lift : -2199023255552 ≤ p.road.lift.low ∧ p.road.lift.low ≤ p.road.lift.high ∧ p.road.lift.high ≤ 2199023255552
  len : p.fans.l.length ≤ 8
  fan : ∀ (i : Nat) (b : XBlow), p.fans.l[i]? = some b → FanOk b.fan

/-- the difference of pressure with the first k fans -/
def dropTo (p : XPipe) (q : Int) : Nat → XSpan
  | 0 => if q < 0 then ⟨-p.road.rest.high * (q * q) - p.road.lift.high, -p.road.rest.low * (q * q) - p.road.lift.low⟩ else ⟨p.road.rest.low * (q * q) - p.road.lift.high, p.road.rest.high * (q * q) - p.road.lift.low⟩
  | k + 1 => ⟨(dropTo p q k).low - (stateS (p.fans.l.getD k default).fan (p.fans.l.getD k default).state q).high, (dropTo p q k).high - (stateS (p.fans.l.getD k default).fan (p.fans.l.getD k default).state q).low⟩
/-- P9.2, of an open road -/
def dropP (p : XPipe) (q : Int) : XSpan := dropTo p q p.fans.l.length

theorem square_bounds {q : Int} (hq : -1048577 ≤ q ∧ q ≤ 1048577) : 0 ≤ q * q ∧ q * q ≤ 1099513724929 := by
  rcases Int.lt_or_le q 0 with h | h
  · have h1 := Int.mul_nonneg (show 0 ≤ -q by omega) (show 0 ≤ -q by omega)
    have h2 := Int.mul_le_mul (show -q ≤ 1048577 by omega) (show -q ≤ 1048577 by omega) (by omega) (by omega)
    rw [Int.neg_mul_neg] at h1 h2
    omega
  · have h1 := Int.mul_nonneg h h
    have h2 := Int.mul_le_mul hq.2 hq.2 h (by omega)
    omega

theorem rest_bounds {r s : Int} (hr : 0 ≤ r ∧ r ≤ 4456448) (hs : 0 ≤ s ∧ s ≤ 1099513724929) : 0 ≤ r * s ∧ r * s ≤ 4899925740432392192 ∧ -r * s = -(r * s) := by
  have h1 := Int.mul_nonneg hr.1 hs.1
  have h2 := Int.mul_le_mul hr.2 hs.2 hs.1 (by omega)
  exact ⟨h1, by omega, Int.neg_mul r s⟩

theorem dropTo_neg {p : XPipe} {q : Int} (h : q < 0) : dropTo p q 0 = ⟨-p.road.rest.high * (q * q) - p.road.lift.high, -p.road.rest.low * (q * q) - p.road.lift.low⟩ := if_pos h
theorem dropTo_pos {p : XPipe} {q : Int} (h : ¬ q < 0) : dropTo p q 0 = ⟨p.road.rest.low * (q * q) - p.road.lift.high, p.road.rest.high * (q * q) - p.road.lift.low⟩ := if_neg h
theorem dropTo_bounds {p : XPipe} (h : PipeOk p) {q : Int} (hq : -1048577 ≤ q ∧ q ≤ 1048577) : ∀ (k : Nat), k ≤ p.fans.l.length →
    -4899925740432392192 - 2199023255552 * (k + 1) ≤ (dropTo p q k).low ∧ (dropTo p q k).low ≤ (dropTo p q k).high ∧ (dropTo p q k).high ≤ 4899925740432392192 + 2199023255552 * (k + 1)
  | 0, _ => by
    have hs := square_bounds hq
    have hr := h.rest
    have hl := h.lift
    have h1 := rest_bounds (r := p.road.rest.low) (by omega) hs
    have h2 := rest_bounds (r := p.road.rest.high) (by omega) hs
    have h3 : p.road.rest.low * (q * q) ≤ p.road.rest.high * (q * q) := Int.mul_le_mul_of_nonneg_right hr.2.1 hs.1
    unfold dropTo
    split <;> dsimp only <;> omega
  | k + 1, hk => by
    have ih := dropTo_bounds h hq k (by omega)
    have hb := stateS_bounds (h.fan k _ (get_D default (by omega))) (p.fans.l.getD k default).state q
    simp only [dropTo]
    omega

theorem drop_tri (p : XPipe) (q : Int) (L : List Blk) (R : List Sl) (hm : InR p.sl R) (hp : PipeOk p) (hq : -1048577 ≤ q ∧ q ≤ 1048577) :
    Tri Try.prog 43 [p.val, .int .i64 q].toArray L R (fun v L' R' => v = (dropP p q).val ∧ L = L' ∧ R = R') := by
  have hs := square_bounds hq
  have hr := hp.rest
  have hl := hp.lift
  have hln := hp.len
  have h1 := rest_bounds (r := p.road.rest.low) (by omega) hs
  have h2 := rest_bounds (r := p.road.rest.high) (by omega) hs
  refine tri_enter 86 Try.call43 Try.func43 rfl rfl rfl ?_
  refine CJ_seq (CJ_region ?_)
  refine LJ_boxN rfl rfl ?_
  intro b2
  refine LJ_alloc tb rfl rfl ?_
  intro b4
  refine LJ_nil (seqK_normal (CJ_seq (CJ_region ?_)))
  refine LJ_q (yv_move (show _ = Value.int _ _ from rfl)) rfl ?_
  refine LJ_q (yv_move (show _ = Value.int _ _ from rfl)) rfl ?_
  refine LJ_q (by first | exact yv_mul64 rfl rfl (by omega) (by omega) | exact yv_mulU rfl rfl (by omega) (by omega) | exact yv_mul rfl rfl) rfl ?_
  refine LJ_q (yv_assign (show _ = Value.int _ _ from rfl)) rfl ?_
  refine LJ_nil (seqK_normal (CJ_seq (CJ_region ?_)))
  refine LJ_q (yv_field tb rfl rfl rfl) rfl ?_
  refine LJ_q (yv_field tb rfl rfl rfl) rfl ?_
  refine LJ_q (yv_field tb rfl rfl rfl) rfl ?_
  refine LJ_q (yv_load1 tb rfl rfl rfl (by repeat (first | exact zi0 | apply zi1 | apply zi2)) (by rfl)) rfl ?_
  refine LJ_q (yv_move (show _ = Value.int _ _ from rfl)) rfl ?_
  refine LJ_q (by first | exact yv_mul64 rfl rfl (by omega) (by omega) | exact yv_mulU rfl rfl (by omega) (by omega) | exact yv_mul rfl rfl) rfl ?_
  refine LJ_q (yv_field tb rfl rfl rfl) rfl ?_
  refine LJ_q (yv_field tb rfl rfl rfl) rfl ?_
  refine LJ_q (yv_field tb rfl rfl rfl) rfl ?_
  refine LJ_q (yv_load1 tb rfl rfl rfl (by repeat (first | exact zi0 | apply zi1 | apply zi2)) (by rfl)) rfl ?_
  refine LJ_q (yv_move (show _ = Value.int _ _ from rfl)) rfl ?_
  refine LJ_q (by first | exact yv_mul64 rfl rfl (by omega) (by omega) | exact yv_mulU rfl rfl (by omega) (by omega) | exact yv_mul rfl rfl) rfl ?_
  refine LJ_q (yv_build (qs := [(0, (Value.int _ _).cells.toList), (1, (Value.int _ _).cells.toList)]) (out := [_, _]) tb rfl rfl rfl rfl) rfl ?_
  refine LJ_alloc tb rfl rfl ?_
  intro b6
  refine LJ_storeW tb rfl rfl rfl rfl (by repeat (first | apply zu0 | apply zu1 | apply zu2)) (by rfl) (by rfl) ?_
  refine LJ_nil (seqK_normal (CJ_seq (CJ_seq (CJ_region ?_))))
  refine LJ_q (yv_move (show _ = Value.int _ _ from rfl)) rfl ?_
  refine LJ_q (yv_lss rfl rfl) rfl ?_
  refine LJ_nil (seqK_normal ?_)
  refine CJ_cond (show _ = Value.bool _ from rfl) (fun hc0 => ?_) (fun hc0 => ?_)
  ·
   try simp only [zb1, zb2, zb3, zb4, zb5, zb6, zb7, zb8] at hc0
   refine CJ_region ?_
   refine LJ_q (yv_field tb rfl rfl rfl) rfl ?_
   refine LJ_q (yv_field tb rfl rfl rfl) rfl ?_
   refine LJ_q (yv_field tb rfl rfl rfl) rfl ?_
   refine LJ_q (yv_load1 tb rfl rfl rfl (by repeat (first | exact zi0 | apply zi1 | apply zi2)) (by rfl)) rfl ?_
   refine LJ_q (yv_neg64 rfl (by omega) (by omega)) rfl ?_
   refine LJ_q (yv_move (show _ = Value.int _ _ from rfl)) rfl ?_
   refine LJ_q (by first | exact yv_mul64 rfl rfl (by omega) (by omega) | exact yv_mulU rfl rfl (by omega) (by omega) | exact yv_mul rfl rfl) rfl ?_
   refine LJ_q (yv_field tb rfl rfl rfl) rfl ?_
   refine LJ_q (yv_field tb rfl rfl rfl) rfl ?_
   refine LJ_q (yv_field tb rfl rfl rfl) rfl ?_
   refine LJ_q (yv_load1 tb rfl rfl rfl (by repeat (first | exact zi0 | apply zi1 | apply zi2)) (by rfl)) rfl ?_
   refine LJ_q (yv_neg64 rfl (by omega) (by omega)) rfl ?_
   refine LJ_q (yv_move (show _ = Value.int _ _ from rfl)) rfl ?_
   refine LJ_q (by first | exact yv_mul64 rfl rfl (by omega) (by omega) | exact yv_mulU rfl rfl (by omega) (by omega) | exact yv_mul rfl rfl) rfl ?_
   refine LJ_q (yv_build (qs := [(0, (Value.int _ _).cells.toList), (1, (Value.int _ _).cells.toList)]) (out := [_, _]) tb rfl rfl rfl rfl) rfl ?_
   refine LJ_storeW tb rfl rfl rfl rfl (by repeat (first | apply zu0 | apply zu1 | apply zu2)) (by rfl) (by rfl) ?_
   refine LJ_nil (seqK_normal (CJ_seq (CJ_region ?_)))
   refine LJ_q (yv_field tb rfl rfl rfl) rfl ?_
   refine LJ_q (yv_load1 tb rfl rfl rfl (by repeat (first | exact zi0 | apply zi1 | apply zi2)) (by rfl)) rfl ?_
   refine LJ_q (yv_field tb rfl rfl rfl) rfl ?_
   refine LJ_q (yv_field tb rfl rfl rfl) rfl ?_
   refine LJ_q (yv_field tb rfl rfl rfl) rfl ?_
   refine LJ_q (yv_load1 tb rfl rfl rfl (by repeat (first | exact zi0 | apply zi1 | apply zi2)) (by rfl)) rfl ?_
   refine LJ_q (by first | exact yv_sub64 rfl rfl (by omega) (by omega) | exact yv_sub rfl rfl) rfl ?_
   refine LJ_q (yv_field tb rfl rfl rfl) rfl ?_
   refine LJ_store1 (v := Value.int _ _) tb rfl rfl rfl rfl (by repeat (first | apply zu0 | apply zu1 | apply zu2)) (by first | exact icell_fit (by omega) | rfl) (by first | exact icell_set | rfl) (by rfl) ?_
   refine LJ_nil (seqK_normal (CJ_seq (CJ_region ?_)))
   refine LJ_q (yv_field tb rfl rfl rfl) rfl ?_
   refine LJ_q (yv_load1 tb rfl rfl rfl (by repeat (first | exact zi0 | apply zi1 | apply zi2)) (by rfl)) rfl ?_
   refine LJ_q (yv_field tb rfl rfl rfl) rfl ?_
   refine LJ_q (yv_field tb rfl rfl rfl) rfl ?_
   refine LJ_q (yv_field tb rfl rfl rfl) rfl ?_
   refine LJ_q (yv_load1 tb rfl rfl rfl (by repeat (first | exact zi0 | apply zi1 | apply zi2)) (by rfl)) rfl ?_
   refine LJ_q (by first | exact yv_sub64 rfl rfl (by omega) (by omega) | exact yv_sub rfl rfl) rfl ?_
   refine LJ_q (yv_field tb rfl rfl rfl) rfl ?_
   refine LJ_store1 (v := Value.int _ _) tb rfl rfl rfl rfl (by repeat (first | apply zu0 | apply zu1 | apply zu2)) (by first | exact icell_fit (by omega) | rfl) (by first | exact icell_set | rfl) (by rfl) ?_
   refine LJ_nil (seqK_normal (CJ_seq (CJ_seq (CJ_region ?_))))
   refine LJ_q (yv_field tb rfl rfl rfl) rfl ?_
   refine LJ_q (yv_load1 tb rfl rfl rfl (by repeat (first | exact zi0 | apply zi1 | apply zi2)) (by rfl)) rfl ?_
   refine LJ_q (yv_len tb rfl rfl rfl) rfl ?_
   refine LJ_q (yv_move (show _ = Value.int _ _ from rfl)) rfl ?_
   refine LJ_nil (seqK_normal (CJ_block ?_))
   refine CJ_forget [(1, Value.int _ _), (4, Value.pointer _), (6, Value.pointer _), (60, Value.slice _ _ _), (61, Value.int _ _), (62, Value.int _ _)] (by repeat' (first | exact trivial | refine And.intro rfl ?_)) fun tq0 => ?_
   refine CJ_loop [8, 9, 62, 63, 64, 65, 66, 67, 68, 69, 70, 71, 72, 73, 74, 75, 76, 77, 78, 79, 80, 81, 82, 83, 84] ((⟨fun g => [(62, .int .i64 ((g.1 : Nat) : Int))], fun g => ⟨b6, [.int .i64 (dropTo p q g.1).low, .int .i64 (dropTo p q g.1).high], 57⟩ :: ⟨b4, [.int .i64 0, .int .i64 0], 57⟩ :: ⟨b2, p.cells, 84⟩ :: L, fun _ => R, fun g => p.fans.l.length - g.1⟩ : Head {k : Nat // k ≤ p.fans.l.length})) (⟨0, by omega⟩) (by repeat' (first | exact trivial | refine And.intro rfl ?_)) (by dsimp only; first | (rw [dropTo_neg hc0]; exact List.Sublist.refl _) | (rw [dropTo_pos hc0]; exact List.Sublist.refl _)) (allR_self _) ?_
   rintro ⟨k, hk⟩ junk
   try dsimp only
   refine CJ_seq (CJ_region ?_)
   refine LJ_q (yv_lss rfl rfl) rfl ?_
   refine LJ_nil (seqK_normal (CJ_seq ?_))
   refine CJ_cond (show _ = Value.bool _ from rfl) (fun hc1 => ?_) (fun hc1 => ?_)
   ·
    try simp only [zb1, zb2, zb3, zb4, zb5, zb6, zb7, zb8] at hc1
    have hx := get_D (l := p.fans.l) (k := k) default (by omega)
    have hdb := dropTo_bounds hp hq k (by omega)
    have hfo := hp.fan _ _ hx
    have hsb := stateS_bounds hfo (p.fans.l.getD k default).state q
    refine CJ_skip (seqK_normal (CJ_seq (CJ_block (CJ_seq (CJ_region ?_)))))
    refine LJ_q (by first | exact yv_index_ro tb rfl rfl rfl rfl (by first | assumption | exact zr (by simp)) rfl (by omega) | exact yv_index tb rfl rfl rfl rfl rfl (by omega)) rfl ?_
    refine LJ_q (by first | exact yv_loadN_ro (row := [_, _, _, _, _]) tb rfl rfl rfl (by first | assumption | exact zr (by simp)) (by assumption) (by rfl) (by rfl) | exact yv_loadN (row := [_, _, _, _, _]) tb rfl rfl rfl (by repeat (first | exact zi0 | apply zi1 | apply zi2)) (by rfl) (by rfl)) rfl ?_
    refine LJ_alloc tb rfl rfl ?_
    intro b8
    refine LJ_storeW tb rfl rfl rfl rfl (by repeat (first | apply zu0 | apply zu1 | apply zu2)) (by rfl) (by rfl) ?_
    refine LJ_nil (seqK_normal (CJ_seq (CJ_region ?_)))
    refine LJ_q (yv_field tb rfl rfl rfl) rfl ?_
    refine LJ_q (yv_loadN (row := [_, _, _, _]) tb rfl rfl rfl (by repeat (first | exact zi0 | apply zi1 | apply zi2)) (by rfl) (by rfl)) rfl ?_
    refine LJ_q (yv_field tb rfl rfl rfl) rfl ?_
    refine LJ_q (yv_load1 tb rfl rfl rfl (by repeat (first | exact zi0 | apply zi1 | apply zi2)) (by rfl)) rfl ?_
    refine LJ_q (yv_move (show _ = Value.int _ _ from rfl)) rfl ?_
    refine LJ_call rfl (sure_tri (p.fans.l.getD k default).fan (p.fans.l.getD k default).state q _ _ (hm.blow hx) hfo hq) rfl ?_
    rintro v L' R' ⟨rfl, rfl, rfl⟩
    refine LJ_alloc tb rfl rfl ?_
    intro b9
    refine LJ_storeW tb rfl rfl rfl rfl (by repeat (first | apply zu0 | apply zu1 | apply zu2)) (by rfl) (by rfl) ?_
    refine LJ_nil (seqK_normal (CJ_seq (CJ_region ?_)))
    refine LJ_q (yv_field tb rfl rfl rfl) rfl ?_
    refine LJ_q (yv_load1 tb rfl rfl rfl (by repeat (first | exact zi0 | apply zi1 | apply zi2)) (by rfl)) rfl ?_
    refine LJ_q (yv_field tb rfl rfl rfl) rfl ?_
    refine LJ_q (yv_load1 tb rfl rfl rfl (by repeat (first | exact zi0 | apply zi1 | apply zi2)) (by rfl)) rfl ?_
    refine LJ_q (by first | exact yv_sub64 rfl rfl (by omega) (by omega) | exact yv_sub rfl rfl) rfl ?_
    refine LJ_q (yv_field tb rfl rfl rfl) rfl ?_
    refine LJ_store1 (v := Value.int _ _) tb rfl rfl rfl rfl (by repeat (first | apply zu0 | apply zu1 | apply zu2)) (by first | exact icell_fit (by omega) | rfl) (by first | exact icell_set | rfl) (by rfl) ?_
    refine LJ_nil (seqK_normal (CJ_region ?_))
    refine LJ_q (yv_field tb rfl rfl rfl) rfl ?_
    refine LJ_q (yv_load1 tb rfl rfl rfl (by repeat (first | exact zi0 | apply zi1 | apply zi2)) (by rfl)) rfl ?_
    refine LJ_q (yv_field tb rfl rfl rfl) rfl ?_
    refine LJ_q (yv_load1 tb rfl rfl rfl (by repeat (first | exact zi0 | apply zi1 | apply zi2)) (by rfl)) rfl ?_
    refine LJ_q (by first | exact yv_sub64 rfl rfl (by omega) (by omega) | exact yv_sub rfl rfl) rfl ?_
    refine LJ_q (yv_field tb rfl rfl rfl) rfl ?_
    refine LJ_store1 (v := Value.int _ _) tb rfl rfl rfl rfl (by repeat (first | apply zu0 | apply zu1 | apply zu2)) (by first | exact icell_fit (by omega) | rfl) (by first | exact icell_set | rfl) (by rfl) ?_
    refine LJ_nil (blockK_normal (seqK_normal (CJ_region ?_)))
    refine LJ_q (by first | exact yv_add64 rfl rfl (by omega) (by omega) | exact yv_addU rfl rfl (by omega) (by omega) | exact yv_add rfl rfl) rfl ?_
    refine LJ_q (yv_move (show _ = Value.int _ _ from rfl)) rfl ?_
    refine LJ_nil ?_
    exact loopK_mk ⟨k + 1, by omega⟩ (by repeat (first | exact Off.refl | apply Off.upd rfl | apply Off.havoc rfl | apply Off.updL rfl | apply Off.left rfl)) (by repeat' (first | exact trivial | refine And.intro rfl ?_)) (by repeat (first | exact zs0 _ | exact zs1 _ | apply zs2 | apply zs3 | apply zs4 | apply zs5)) (allR_self _) (by dsimp only; omega)
   ·
    try simp only [zb1, zb2, zb3, zb4, zb5, zb6, zb7, zb8] at hc1
    obtain rfl : k = p.fans.l.length := by omega
    refine CJ_exit (seqK_exit (loopK_exit (blockK_exit (seqK_normal (CJ_seq (CJ_region ?_))))))
    refine LJ_q (yv_loadN (row := [_, _]) tb rfl rfl rfl (by repeat (first | exact zi0 | apply zi1 | apply zi2)) (by rfl) (by rfl)) rfl ?_
    refine LJ_storeW tb rfl rfl rfl rfl (by repeat (first | apply zu0 | apply zu1 | apply zu2)) (by rfl) (by rfl) ?_
    refine LJ_nil (seqK_normal (CJ_ret ?_))
    refine retK_ret (L' := L) (R' := R) (res1 rfl (rv_cell (row := [_, _]) tb rfl rfl rfl (by repeat (first | exact zi0 | apply zi1 | apply zi2)) (by rfl) (by rfl))) ?hp ?hL ?hR
    case hp => exact ⟨rfl, rfl, rfl⟩
    case hL => exact (by repeat (first | exact zs0 _ | exact zs1 _ | apply zs2 | apply zs3 | apply zs4 | apply zs5))
    case hR => exact allR_self _
  ·
   try simp only [zb1, zb2, zb3, zb4, zb5, zb6, zb7, zb8] at hc0
   refine CJ_skip (seqK_normal (CJ_seq (CJ_region ?_)))
   refine LJ_q (yv_field tb rfl rfl rfl) rfl ?_
   refine LJ_q (yv_load1 tb rfl rfl rfl (by repeat (first | exact zi0 | apply zi1 | apply zi2)) (by rfl)) rfl ?_
   refine LJ_q (yv_field tb rfl rfl rfl) rfl ?_
   refine LJ_q (yv_field tb rfl rfl rfl) rfl ?_
   refine LJ_q (yv_field tb rfl rfl rfl) rfl ?_
   refine LJ_q (yv_load1 tb rfl rfl rfl (by repeat (first | exact zi0 | apply zi1 | apply zi2)) (by rfl)) rfl ?_
   refine LJ_q (by first | exact yv_sub64 rfl rfl (by omega) (by omega) | exact yv_sub rfl rfl) rfl ?_
   refine LJ_q (yv_field tb rfl rfl rfl) rfl ?_
   refine LJ_store1 (v := Value.int _ _) tb rfl rfl rfl rfl (by repeat (first | apply zu0 | apply zu1 | apply zu2)) (by first | exact icell_fit (by omega) | rfl) (by first | exact icell_set | rfl) (by rfl) ?_
   refine LJ_nil (seqK_normal (CJ_seq (CJ_region ?_)))
   refine LJ_q (yv_field tb rfl rfl rfl) rfl ?_
   refine LJ_q (yv_load1 tb rfl rfl rfl (by repeat (first | exact zi0 | apply zi1 | apply zi2)) (by rfl)) rfl ?_
   refine LJ_q (yv_field tb rfl rfl rfl) rfl ?_
   refine LJ_q (yv_field tb rfl rfl rfl) rfl ?_
   refine LJ_q (yv_field tb rfl rfl rfl) rfl ?_
   refine LJ_q (yv_load1 tb rfl rfl rfl (by repeat (first | exact zi0 | apply zi1 | apply zi2)) (by rfl)) rfl ?_
   refine LJ_q (by first | exact yv_sub64 rfl rfl (by omega) (by omega) | exact yv_sub rfl rfl) rfl ?_
   refine LJ_q (yv_field tb rfl rfl rfl) rfl ?_
   refine LJ_store1 (v := Value.int _ _) tb rfl rfl rfl rfl (by repeat (first | apply zu0 | apply zu1 | apply zu2)) (by first | exact icell_fit (by omega) | rfl) (by first | exact icell_set | rfl) (by rfl) ?_
   refine LJ_nil (seqK_normal (CJ_seq (CJ_seq (CJ_region ?_))))
   refine LJ_q (yv_field tb rfl rfl rfl) rfl ?_
   refine LJ_q (yv_load1 tb rfl rfl rfl (by repeat (first | exact zi0 | apply zi1 | apply zi2)) (by rfl)) rfl ?_
   refine LJ_q (yv_len tb rfl rfl rfl) rfl ?_
   refine LJ_q (yv_move (show _ = Value.int _ _ from rfl)) rfl ?_
   refine LJ_nil (seqK_normal (CJ_block ?_))
   refine CJ_forget [(1, Value.int _ _), (4, Value.pointer _), (6, Value.pointer _), (60, Value.slice _ _ _), (61, Value.int _ _), (62, Value.int _ _)] (by repeat' (first | exact trivial | refine And.intro rfl ?_)) fun tq0 => ?_
   refine CJ_loop [8, 9, 62, 63, 64, 65, 66, 67, 68, 69, 70, 71, 72, 73, 74, 75, 76, 77, 78, 79, 80, 81, 82, 83, 84] ((⟨fun g => [(62, .int .i64 ((g.1 : Nat) : Int))], fun g => ⟨b6, [.int .i64 (dropTo p q g.1).low, .int .i64 (dropTo p q g.1).high], 57⟩ :: ⟨b4, [.int .i64 0, .int .i64 0], 57⟩ :: ⟨b2, p.cells, 84⟩ :: L, fun _ => R, fun g => p.fans.l.length - g.1⟩ : Head {k : Nat // k ≤ p.fans.l.length})) (⟨0, by omega⟩) (by repeat' (first | exact trivial | refine And.intro rfl ?_)) (by dsimp only; first | (rw [dropTo_neg hc0]; exact List.Sublist.refl _) | (rw [dropTo_pos hc0]; exact List.Sublist.refl _)) (allR_self _) ?_
   rintro ⟨k, hk⟩ junk
   try dsimp only
   refine CJ_seq (CJ_region ?_)
   refine LJ_q (yv_lss rfl rfl) rfl ?_
   refine LJ_nil (seqK_normal (CJ_seq ?_))
   refine CJ_cond (show _ = Value.bool _ from rfl) (fun hc1 => ?_) (fun hc1 => ?_)
   ·
    try simp only [zb1, zb2, zb3, zb4, zb5, zb6, zb7, zb8] at hc1
    have hx := get_D (l := p.fans.l) (k := k) default (by omega)
    have hdb := dropTo_bounds hp hq k (by omega)
    have hfo := hp.fan _ _ hx
    have hsb := stateS_bounds hfo (p.fans.l.getD k default).state q
    refine CJ_skip (seqK_normal (CJ_seq (CJ_block (CJ_seq (CJ_region ?_)))))
    refine LJ_q (by first | exact yv_index_ro tb rfl rfl rfl rfl (by first | assumption | exact zr (by simp)) rfl (by omega) | exact yv_index tb rfl rfl rfl rfl rfl (by omega)) rfl ?_
    refine LJ_q (by first | exact yv_loadN_ro (row := [_, _, _, _, _]) tb rfl rfl rfl (by first | assumption | exact zr (by simp)) (by assumption) (by rfl) (by rfl) | exact yv_loadN (row := [_, _, _, _, _]) tb rfl rfl rfl (by repeat (first | exact zi0 | apply zi1 | apply zi2)) (by rfl) (by rfl)) rfl ?_
    refine LJ_alloc tb rfl rfl ?_
    intro b8
    refine LJ_storeW tb rfl rfl rfl rfl (by repeat (first | apply zu0 | apply zu1 | apply zu2)) (by rfl) (by rfl) ?_
    refine LJ_nil (seqK_normal (CJ_seq (CJ_region ?_)))
    refine LJ_q (yv_field tb rfl rfl rfl) rfl ?_
    refine LJ_q (yv_loadN (row := [_, _, _, _]) tb rfl rfl rfl (by repeat (first | exact zi0 | apply zi1 | apply zi2)) (by rfl) (by rfl)) rfl ?_
    refine LJ_q (yv_field tb rfl rfl rfl) rfl ?_
    refine LJ_q (yv_load1 tb rfl rfl rfl (by repeat (first | exact zi0 | apply zi1 | apply zi2)) (by rfl)) rfl ?_
    refine LJ_q (yv_move (show _ = Value.int _ _ from rfl)) rfl ?_
    refine LJ_call rfl (sure_tri (p.fans.l.getD k default).fan (p.fans.l.getD k default).state q _ _ (hm.blow hx) hfo hq) rfl ?_
    rintro v L' R' ⟨rfl, rfl, rfl⟩
    refine LJ_alloc tb rfl rfl ?_
    intro b9
    refine LJ_storeW tb rfl rfl rfl rfl (by repeat (first | apply zu0 | apply zu1 | apply zu2)) (by rfl) (by rfl) ?_
    refine LJ_nil (seqK_normal (CJ_seq (CJ_region ?_)))
    refine LJ_q (yv_field tb rfl rfl rfl) rfl ?_
    refine LJ_q (yv_load1 tb rfl rfl rfl (by repeat (first | exact zi0 | apply zi1 | apply zi2)) (by rfl)) rfl ?_
    refine LJ_q (yv_field tb rfl rfl rfl) rfl ?_
    refine LJ_q (yv_load1 tb rfl rfl rfl (by repeat (first | exact zi0 | apply zi1 | apply zi2)) (by rfl)) rfl ?_
    refine LJ_q (by first | exact yv_sub64 rfl rfl (by omega) (by omega) | exact yv_sub rfl rfl) rfl ?_
    refine LJ_q (yv_field tb rfl rfl rfl) rfl ?_
    refine LJ_store1 (v := Value.int _ _) tb rfl rfl rfl rfl (by repeat (first | apply zu0 | apply zu1 | apply zu2)) (by first | exact icell_fit (by omega) | rfl) (by first | exact icell_set | rfl) (by rfl) ?_
    refine LJ_nil (seqK_normal (CJ_region ?_))
    refine LJ_q (yv_field tb rfl rfl rfl) rfl ?_
    refine LJ_q (yv_load1 tb rfl rfl rfl (by repeat (first | exact zi0 | apply zi1 | apply zi2)) (by rfl)) rfl ?_
    refine LJ_q (yv_field tb rfl rfl rfl) rfl ?_
    refine LJ_q (yv_load1 tb rfl rfl rfl (by repeat (first | exact zi0 | apply zi1 | apply zi2)) (by rfl)) rfl ?_
    refine LJ_q (by first | exact yv_sub64 rfl rfl (by omega) (by omega) | exact yv_sub rfl rfl) rfl ?_
    refine LJ_q (yv_field tb rfl rfl rfl) rfl ?_
    refine LJ_store1 (v := Value.int _ _) tb rfl rfl rfl rfl (by repeat (first | apply zu0 | apply zu1 | apply zu2)) (by first | exact icell_fit (by omega) | rfl) (by first | exact icell_set | rfl) (by rfl) ?_
    refine LJ_nil (blockK_normal (seqK_normal (CJ_region ?_)))
    refine LJ_q (by first | exact yv_add64 rfl rfl (by omega) (by omega) | exact yv_addU rfl rfl (by omega) (by omega) | exact yv_add rfl rfl) rfl ?_
    refine LJ_q (yv_move (show _ = Value.int _ _ from rfl)) rfl ?_
    refine LJ_nil ?_
    exact loopK_mk ⟨k + 1, by omega⟩ (by repeat (first | exact Off.refl | apply Off.upd rfl | apply Off.havoc rfl | apply Off.updL rfl | apply Off.left rfl)) (by repeat' (first | exact trivial | refine And.intro rfl ?_)) (by repeat (first | exact zs0 _ | exact zs1 _ | apply zs2 | apply zs3 | apply zs4 | apply zs5)) (allR_self _) (by dsimp only; omega)
   ·
    try simp only [zb1, zb2, zb3, zb4, zb5, zb6, zb7, zb8] at hc1
    obtain rfl : k = p.fans.l.length := by omega
    refine CJ_exit (seqK_exit (loopK_exit (blockK_exit (seqK_normal (CJ_seq (CJ_region ?_))))))
    refine LJ_q (yv_loadN (row := [_, _]) tb rfl rfl rfl (by repeat (first | exact zi0 | apply zi1 | apply zi2)) (by rfl) (by rfl)) rfl ?_
    refine LJ_storeW tb rfl rfl rfl rfl (by repeat (first | apply zu0 | apply zu1 | apply zu2)) (by rfl) (by rfl) ?_
    refine LJ_nil (seqK_normal (CJ_ret ?_))
    refine retK_ret (L' := L) (R' := R) (res1 rfl (rv_cell (row := [_, _]) tb rfl rfl rfl (by repeat (first | exact zi0 | apply zi1 | apply zi2)) (by rfl) (by rfl))) ?hp ?hL ?hR
    case hp => exact ⟨rfl, rfl, rfl⟩
    case hL => exact (by repeat (first | exact zs0 _ | exact zs1 _ | apply zs2 | apply zs3 | apply zs4 | apply zs5))
    case hR => exact allR_self _
end Go.Proofs.Ytimnnhdeicpenaa
