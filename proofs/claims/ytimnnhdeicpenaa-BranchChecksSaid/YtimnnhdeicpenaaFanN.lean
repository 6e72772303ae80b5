/-
  What a fan gives, and the reference's. By an AI agent; no person has read it.
-/
import Derived.Test.YtimnnhdeicpenaaFanC
set_option linter.unusedSimpArgs false
set_option linter.unusedVariables false
namespace Go.Proofs.Ytimnnhdeicpenaa
open Go.Aw Go
set_option maxRecDepth 20000
attribute [local irreducible] CJ LJ DJ Tri YV Gives seqK blockK loopK retK RV mergeK

theorem mul64_tri (x y : Int) (L : List Blk) (R : List Sl) (hx : 0 ≤ x) (hx2 : x ≤ 2199023255552) (hy : 0 ≤ y) (hy2 : y ≤ 4194304) :
    Tri Try.prog 66 [.int .u64 x, .int .u64 y].toArray L R (fun v L' R' => v = .tuple #[.int .u64 0, .int .u64 (x * y)] ∧ L = L' ∧ R = R') := by
  have e1 : y % 4294967296 = y := by omega
  have e2 : y / 4294967296 = 0 := by omega
  have b0 : 0 ≤ x % 4294967296 * y := Int.mul_nonneg (by omega) hy
  have b1 : x % 4294967296 * y ≤ 4294967296 * 4194304 := Int.mul_le_mul (by omega) hy2 hy (by omega)
  have c0 : 0 ≤ x / 4294967296 * y := Int.mul_nonneg (by omega) hy
  have c1 : x / 4294967296 * y ≤ 512 * 4194304 := Int.mul_le_mul (by omega) hy2 hy (by omega)
  have d0 : 0 ≤ x * y := Int.mul_nonneg hx hy
  have d1 : x * y ≤ 2199023255552 * 4194304 := Int.mul_le_mul hx2 hy2 hy (by omega)
  refine tri_enter 51 Try.call66 Try.func66 rfl rfl rfl ?_
  refine CJ_seq (CJ_region ?_)
  refine LJ_q (yv_assign (show _ = Value.int _ _ from rfl)) rfl ?_
  refine LJ_q (yv_assign (show _ = Value.int _ _ from rfl)) rfl ?_
  refine LJ_nil (seqK_normal (CJ_seq (CJ_region ?_)))
  refine LJ_q (yv_move (show _ = Value.int _ _ from rfl)) rfl ?_
  refine LJ_q (yv_mask32 rfl rfl (by omega) (by omega)) rfl ?_
  refine LJ_q (yv_assign (show _ = Value.int _ _ from rfl)) rfl ?_
  refine LJ_nil (seqK_normal (CJ_seq (CJ_region ?_)))
  refine LJ_q (yv_move (show _ = Value.int _ _ from rfl)) rfl ?_
  refine LJ_q (yv_shr32 rfl rfl) rfl ?_
  refine LJ_q (yv_assign (show _ = Value.int _ _ from rfl)) rfl ?_
  refine LJ_nil (seqK_normal (CJ_seq (CJ_region ?_)))
  refine LJ_q (yv_move (show _ = Value.int _ _ from rfl)) rfl ?_
  refine LJ_q (yv_mask32 rfl rfl (by omega) (by omega)) rfl ?_
  refine LJ_q (yv_assign (show _ = Value.int _ _ from rfl)) rfl ?_
  refine LJ_nil (seqK_normal (CJ_seq (CJ_region ?_)))
  refine LJ_q (yv_move (show _ = Value.int _ _ from rfl)) rfl ?_
  refine LJ_q (yv_shr32 rfl rfl) rfl ?_
  refine LJ_q (yv_assign (show _ = Value.int _ _ from rfl)) rfl ?_
  refine LJ_nil (seqK_normal (CJ_seq ?_))
  simp only [e1, e2]
  refine CJ_region ?_
  refine LJ_q (yv_move (show _ = Value.int _ _ from rfl)) rfl ?_
  refine LJ_q (yv_move (show _ = Value.int _ _ from rfl)) rfl ?_
  refine LJ_q (by first | exact yv_mul64 rfl rfl (by omega) (by omega) | exact yv_mulU rfl rfl (by omega) (by omega) | exact yv_mul rfl rfl) rfl ?_
  refine LJ_q (yv_assign (show _ = Value.int _ _ from rfl)) rfl ?_
  refine LJ_nil (seqK_normal (CJ_seq (CJ_region ?_)))
  refine LJ_q (yv_move (show _ = Value.int _ _ from rfl)) rfl ?_
  refine LJ_q (yv_move (show _ = Value.int _ _ from rfl)) rfl ?_
  refine LJ_q (by first | exact yv_mul64 rfl rfl (by omega) (by omega) | exact yv_mulU rfl rfl (by omega) (by omega) | exact yv_mul rfl rfl) rfl ?_
  refine LJ_q (yv_move (show _ = Value.int _ _ from rfl)) rfl ?_
  refine LJ_q (yv_shr32 rfl rfl) rfl ?_
  refine LJ_q (by first | exact yv_add64 rfl rfl (by omega) (by omega) | exact yv_addU rfl rfl (by omega) (by omega) | exact yv_add rfl rfl) rfl ?_
  refine LJ_q (yv_assign (show _ = Value.int _ _ from rfl)) rfl ?_
  refine LJ_nil (seqK_normal (CJ_seq (CJ_region ?_)))
  refine LJ_q (yv_move (show _ = Value.int _ _ from rfl)) rfl ?_
  refine LJ_q (yv_mask32 rfl rfl (by omega) (by omega)) rfl ?_
  refine LJ_q (yv_assign (show _ = Value.int _ _ from rfl)) rfl ?_
  refine LJ_nil (seqK_normal (CJ_seq (CJ_region ?_)))
  refine LJ_q (yv_move (show _ = Value.int _ _ from rfl)) rfl ?_
  refine LJ_q (yv_shr32 rfl rfl) rfl ?_
  refine LJ_q (yv_assign (show _ = Value.int _ _ from rfl)) rfl ?_
  refine LJ_nil (seqK_normal (CJ_seq (CJ_region ?_)))
  refine LJ_q (yv_move (show _ = Value.int _ _ from rfl)) rfl ?_
  refine LJ_q (yv_move (show _ = Value.int _ _ from rfl)) rfl ?_
  refine LJ_q (yv_move (show _ = Value.int _ _ from rfl)) rfl ?_
  refine LJ_q (by first | exact yv_mul64 rfl rfl (by omega) (by omega) | exact yv_mulU rfl rfl (by omega) (by omega) | exact yv_mul rfl rfl) rfl ?_
  refine LJ_q (by first | exact yv_add64 rfl rfl (by omega) (by omega) | exact yv_addU rfl rfl (by omega) (by omega) | exact yv_add rfl rfl) rfl ?_
  refine LJ_q (yv_assign (show _ = Value.int _ _ from rfl)) rfl ?_
  refine LJ_nil (seqK_normal (CJ_seq (CJ_region ?_)))
  refine LJ_q (yv_move (show _ = Value.int _ _ from rfl)) rfl ?_
  refine LJ_q (yv_move (show _ = Value.int _ _ from rfl)) rfl ?_
  refine LJ_q (by first | exact yv_mul64 rfl rfl (by omega) (by omega) | exact yv_mulU rfl rfl (by omega) (by omega) | exact yv_mul rfl rfl) rfl ?_
  refine LJ_q (yv_move (show _ = Value.int _ _ from rfl)) rfl ?_
  refine LJ_q (by first | exact yv_add64 rfl rfl (by omega) (by omega) | exact yv_addU rfl rfl (by omega) (by omega) | exact yv_add rfl rfl) rfl ?_
  refine LJ_q (yv_move (show _ = Value.int _ _ from rfl)) rfl ?_
  refine LJ_q (yv_shr32 rfl rfl) rfl ?_
  refine LJ_q (by first | exact yv_add64 rfl rfl (by omega) (by omega) | exact yv_addU rfl rfl (by omega) (by omega) | exact yv_add rfl rfl) rfl ?_
  refine LJ_q (yv_assign (show _ = Value.int _ _ from rfl)) rfl ?_
  refine LJ_nil (seqK_normal (CJ_seq (CJ_region ?_)))
  refine LJ_q (yv_move (show _ = Value.int _ _ from rfl)) rfl ?_
  refine LJ_q (yv_move (show _ = Value.int _ _ from rfl)) rfl ?_
  refine LJ_q (by first | exact yv_mul64 rfl rfl (by omega) (by omega) | exact yv_mulU rfl rfl (by omega) (by omega) | exact yv_mul rfl rfl) rfl ?_
  refine LJ_q (yv_assign (show _ = Value.int _ _ from rfl)) rfl ?_
  refine LJ_nil (seqK_normal (CJ_ret ?_))
  have key : (x / 4294967296 * y + x % 4294967296 * y / 4294967296) / 4294967296 + (x / 4294967296 * y + x % 4294967296 * y / 4294967296) % 4294967296 / 4294967296 = 0 := by omega
  refine retK_ret (L' := L) (R' := R) (res2 rfl (rv_tmp (show _ = Value.int _ _ from rfl)) (rv_tmp (show _ = Value.int _ _ from rfl))) ?hp ?hL ?hR
  case hp => exact ⟨by simp [key], rfl, rfl⟩
  case hL => exact (by repeat (first | exact zs0 _ | exact zs1 _ | apply zs2 | apply zs3 | apply zs4 | apply zs5))
  case hR => exact allR_self _

theorem div64_tri (lo y : Int) (L : List Blk) (R : List Sl) (hx : 0 ≤ lo) (hx2 : lo ≤ 18446744073709551615) (hy : 0 < y) (hy2 : y ≤ 18446744073709551615) :
    Tri Try.prog 67 [.int .u64 0, .int .u64 lo, .int .u64 y].toArray L R (fun v L' R' => v = .tuple #[.int .u64 (lo / y), .int .u64 (lo % y)] ∧ L = L' ∧ R = R') := by
  refine tri_enter 135 Try.call67 Try.func67 rfl rfl rfl ?_
  refine CJ_seq (CJ_region ?_)
  refine LJ_q (yv_assign (show _ = Value.int _ _ from rfl)) rfl ?_
  refine LJ_q (yv_assign (show _ = Value.int _ _ from rfl)) rfl ?_
  refine LJ_nil (seqK_normal (CJ_seq (CJ_seq (CJ_region ?_))))
  refine LJ_q (yv_move (show _ = Value.int _ _ from rfl)) rfl ?_
  refine LJ_q (yv_eql rfl rfl) rfl ?_
  refine LJ_nil (seqK_normal ?_)
  refine CJ_cond_F (show _ = Value.bool _ from rfl) (by simp; omega) ?_
  refine CJ_skip (seqK_normal (CJ_seq (CJ_seq (CJ_region ?_))))
  refine LJ_q (yv_move (show _ = Value.int _ _ from rfl)) rfl ?_
  refine LJ_q (yv_move (show _ = Value.int _ _ from rfl)) rfl ?_
  refine LJ_q (yv_leq rfl rfl) rfl ?_
  refine LJ_nil (seqK_normal ?_)
  refine CJ_cond_F (show _ = Value.bool _ from rfl) (by simp; omega) ?_
  refine CJ_skip (seqK_normal (CJ_seq (CJ_seq (CJ_region ?_))))
  refine LJ_q (yv_move (show _ = Value.int _ _ from rfl)) rfl ?_
  refine LJ_q (yv_eql rfl rfl) rfl ?_
  refine LJ_nil (seqK_normal ?_)
  refine CJ_cond_T (show _ = Value.bool _ from rfl) (by simp) ?_
  refine CJ_seq ?_
  refine CJ_drawn tb [0, 1, 2, 3, 4, 5, 6, 7] _ mixed (by kernel_rfl) (List.Sublist.refl _) ?_
  refine DJ_q (yv_move (show _ = Value.int _ _ from rfl)) rfl rfl rfl ?_
  refine DJ_q (yv_move (show _ = Value.int _ _ from rfl)) rfl rfl rfl ?_
  refine DJ_q (by first | exact yv_quo64 rfl rfl (by omega) (by omega) (by omega) | exact yv_quoU rfl rfl (by omega) (by omega) (by omega) | exact yv_quo rfl rfl (by omega)) rfl rfl rfl ?_
  refine DJ_q (yv_move (show _ = Value.int _ _ from rfl)) rfl rfl rfl ?_
  refine DJ_q (yv_move (show _ = Value.int _ _ from rfl)) rfl rfl rfl ?_
  refine DJ_q (by first | exact yv_remU rfl rfl (by omega) (by omega) | exact yv_rem rfl rfl (by omega)) rfl rfl rfl ?_
  refine DJ_q (yv_assign (show _ = Value.int _ _ from rfl)) rfl rfl rfl ?_
  refine DJ_q (yv_assign (show _ = Value.int _ _ from rfl)) rfl rfl rfl ?_
  refine DJ_nil (seqK_normal (CJ_ret (seqK_ret ?_)))
  refine retK_ret (L' := L) (R' := R) (res2 rfl (rv_tmp (show _ = Value.int _ _ from rfl)) (rv_tmp (show _ = Value.int _ _ from rfl))) ?hp ?hL ?hR
  case hp => exact ⟨rfl, rfl, rfl⟩
  case hL => exact (by repeat (first | exact zs0 _ | exact zs1 _ | apply zs2 | apply zs3 | apply zs4 | apply zs5))
  case hR => exact allR_self _

/-- the line from one point to the next one -/
def betweenS (a b : XPoint) (q : Int) : XSpan :=
  ⟨a.pres - (a.pres - b.pres) * (q - a.flow) / (b.flow - a.flow) - (if 0 < (a.pres - b.pres) * (q - a.flow) % (b.flow - a.flow) then 1 else 0), a.pres - (a.pres - b.pres) * (q - a.flow) / (b.flow - a.flow)⟩

theorem between_tri (a b : XPoint) (q : Int) (L : List Blk) (R : List Sl) (hp : 0 ≤ b.pres ∧ b.pres ≤ a.pres ∧ a.pres ≤ 2199023255552) (hf : -1048576 ≤ a.flow ∧ a.flow ≤ q ∧ q ≤ b.flow ∧ a.flow < b.flow ∧ b.flow ≤ 1048576) :
    Tri Try.prog 65 [a.val, b.val, .int .i64 q].toArray L R (fun v L' R' => v = (betweenS a b q).val ∧ L = L' ∧ R = R') := by
  have d0 : 0 ≤ (a.pres - b.pres) * (q - a.flow) := Int.mul_nonneg (by omega) (by omega)
  have d1 : (a.pres - b.pres) * (q - a.flow) ≤ 2199023255552 * 4194304 := Int.mul_le_mul (by omega) (by omega) (by omega) (by omega)
  have d2 : 0 ≤ (a.pres - b.pres) * (q - a.flow) / (b.flow - a.flow) := Int.ediv_nonneg d0 (by omega)
  have d3 : (a.pres - b.pres) * (q - a.flow) / (b.flow - a.flow) ≤ a.pres - b.pres := by
    refine Int.ediv_le_of_le_mul (by omega) ?_
    exact Int.mul_le_mul_of_nonneg_left (by omega) (by omega)
  refine tri_enter 57 Try.call65 Try.func65 rfl rfl rfl ?_
  refine CJ_seq (CJ_region ?_)
  refine LJ_boxN rfl rfl ?_
  intro b3
  refine LJ_boxN rfl rfl ?_
  intro b4
  refine LJ_alloc tb rfl rfl ?_
  intro b6
  refine LJ_nil (seqK_normal (CJ_seq (CJ_region ?_)))
  refine LJ_q (yv_field tb rfl rfl rfl) rfl ?_
  refine LJ_q (yv_load1 tb rfl rfl rfl (by repeat (first | exact zi0 | apply zi1 | apply zi2)) (by rfl)) rfl ?_
  refine LJ_q (yv_field tb rfl rfl rfl) rfl ?_
  refine LJ_q (yv_load1 tb rfl rfl rfl (by repeat (first | exact zi0 | apply zi1 | apply zi2)) (by rfl)) rfl ?_
  refine LJ_q (by first | exact yv_sub64 rfl rfl (by omega) (by omega) | exact yv_sub rfl rfl) rfl ?_
  refine LJ_q (by first | exact yv_convert64 tb rfl rfl rfl (by omega) (by omega) | exact yv_convertU tb rfl rfl rfl (by omega) (by omega) | exact yv_convert tb rfl rfl rfl) rfl ?_
  refine LJ_q (yv_move (show _ = Value.int _ _ from rfl)) rfl ?_
  refine LJ_q (yv_field tb rfl rfl rfl) rfl ?_
  refine LJ_q (yv_load1 tb rfl rfl rfl (by repeat (first | exact zi0 | apply zi1 | apply zi2)) (by rfl)) rfl ?_
  refine LJ_q (by first | exact yv_sub64 rfl rfl (by omega) (by omega) | exact yv_sub rfl rfl) rfl ?_
  refine LJ_q (by first | exact yv_convert64 tb rfl rfl rfl (by omega) (by omega) | exact yv_convertU tb rfl rfl rfl (by omega) (by omega) | exact yv_convert tb rfl rfl rfl) rfl ?_
  refine LJ_call rfl (mul64_tri _ _ _ _ (by omega) (by omega) (by omega) (by omega)) rfl ?_
  rintro v L' R' ⟨rfl, rfl, rfl⟩
  refine LJ_q (yv_move rfl) rfl ?_
  refine LJ_q (yv_extract rfl rfl) rfl ?_
  refine LJ_q (yv_extract rfl rfl) rfl ?_
  refine LJ_q (yv_assign (show _ = Value.int _ _ from rfl)) rfl ?_
  refine LJ_q (yv_assign (show _ = Value.int _ _ from rfl)) rfl ?_
  refine LJ_nil (seqK_normal (CJ_seq (CJ_region ?_)))
  refine LJ_q (yv_move (show _ = Value.int _ _ from rfl)) rfl ?_
  refine LJ_q (yv_move (show _ = Value.int _ _ from rfl)) rfl ?_
  refine LJ_q (yv_field tb rfl rfl rfl) rfl ?_
  refine LJ_q (yv_load1 tb rfl rfl rfl (by repeat (first | exact zi0 | apply zi1 | apply zi2)) (by rfl)) rfl ?_
  refine LJ_q (yv_field tb rfl rfl rfl) rfl ?_
  refine LJ_q (yv_load1 tb rfl rfl rfl (by repeat (first | exact zi0 | apply zi1 | apply zi2)) (by rfl)) rfl ?_
  refine LJ_q (by first | exact yv_sub64 rfl rfl (by omega) (by omega) | exact yv_sub rfl rfl) rfl ?_
  refine LJ_q (by first | exact yv_convert64 tb rfl rfl rfl (by omega) (by omega) | exact yv_convertU tb rfl rfl rfl (by omega) (by omega) | exact yv_convert tb rfl rfl rfl) rfl ?_
  refine LJ_call rfl (div64_tri _ _ _ _ (by omega) (by omega) (by omega) (by omega)) rfl ?_
  rintro v L' R' ⟨rfl, rfl, rfl⟩
  refine LJ_q (yv_move rfl) rfl ?_
  refine LJ_q (yv_extract rfl rfl) rfl ?_
  refine LJ_q (yv_extract rfl rfl) rfl ?_
  refine LJ_q (yv_assign (show _ = Value.int _ _ from rfl)) rfl ?_
  refine LJ_q (yv_assign (show _ = Value.int _ _ from rfl)) rfl ?_
  refine LJ_nil (seqK_normal (CJ_seq (CJ_region ?_)))
  refine LJ_q (yv_field tb rfl rfl rfl) rfl ?_
  refine LJ_q (yv_load1 tb rfl rfl rfl (by repeat (first | exact zi0 | apply zi1 | apply zi2)) (by rfl)) rfl ?_
  refine LJ_q (yv_move (show _ = Value.int _ _ from rfl)) rfl ?_
  refine LJ_q (by first | exact yv_convert64 tb rfl rfl rfl (by omega) (by omega) | exact yv_convertU tb rfl rfl rfl (by omega) (by omega) | exact yv_convert tb rfl rfl rfl) rfl ?_
  refine LJ_q (by first | exact yv_sub64 rfl rfl (by omega) (by omega) | exact yv_sub rfl rfl) rfl ?_
  refine LJ_q (yv_field tb rfl rfl rfl) rfl ?_
  refine LJ_q (yv_load1 tb rfl rfl rfl (by repeat (first | exact zi0 | apply zi1 | apply zi2)) (by rfl)) rfl ?_
  refine LJ_q (yv_move (show _ = Value.int _ _ from rfl)) rfl ?_
  refine LJ_q (by first | exact yv_convert64 tb rfl rfl rfl (by omega) (by omega) | exact yv_convertU tb rfl rfl rfl (by omega) (by omega) | exact yv_convert tb rfl rfl rfl) rfl ?_
  refine LJ_q (by first | exact yv_sub64 rfl rfl (by omega) (by omega) | exact yv_sub rfl rfl) rfl ?_
  refine LJ_q (yv_build (qs := [(0, (Value.int _ _).cells.toList), (1, (Value.int _ _).cells.toList)]) (out := [_, _]) tb rfl rfl rfl rfl) rfl ?_
  refine LJ_alloc tb rfl rfl ?_
  intro b11
  refine LJ_storeW tb rfl rfl rfl rfl (by repeat (first | apply zu0 | apply zu1 | apply zu2)) (by rfl) (by rfl) ?_
  refine LJ_nil (seqK_normal (CJ_seq (CJ_seq (CJ_region ?_))))
  refine LJ_q (yv_move (show _ = Value.int _ _ from rfl)) rfl ?_
  refine LJ_q (yv_gtr rfl rfl) rfl ?_
  refine LJ_nil (seqK_normal ?_)
  refine CJ_cond (show _ = Value.bool _ from rfl) (fun hc0 => ?_) (fun hc0 => ?_)
  ·
   try simp only [zb1, zb2, zb3, zb4, zb5, zb6, zb7, zb8] at hc0
   refine CJ_region ?_
   refine LJ_q (yv_field tb rfl rfl rfl) rfl ?_
   refine LJ_q (yv_load1 tb rfl rfl rfl (by repeat (first | exact zi0 | apply zi1 | apply zi2)) (by rfl)) rfl ?_
   refine LJ_q (by first | exact yv_sub64 rfl rfl (by omega) (by omega) | exact yv_sub rfl rfl) rfl ?_
   refine LJ_q (yv_field tb rfl rfl rfl) rfl ?_
   refine LJ_store1 (v := Value.int _ _) tb rfl rfl rfl rfl (by repeat (first | apply zu0 | apply zu1 | apply zu2)) (by first | exact icell_fit (by omega) | rfl) (by first | exact icell_set | rfl) (by rfl) ?_
   refine LJ_nil (seqK_normal (CJ_seq (CJ_region ?_)))
   refine LJ_q (yv_loadN (row := [_, _]) tb rfl rfl rfl (by repeat (first | exact zi0 | apply zi1 | apply zi2)) (by rfl) (by rfl)) rfl ?_
   refine LJ_storeW tb rfl rfl rfl rfl (by repeat (first | apply zu0 | apply zu1 | apply zu2)) (by rfl) (by rfl) ?_
   refine LJ_nil (seqK_normal (CJ_ret ?_))
   refine retK_ret (L' := L) (R' := R) (res1 rfl (rv_cell (row := [_, _]) tb rfl rfl rfl (by repeat (first | exact zi0 | apply zi1 | apply zi2)) (by rfl) (by rfl))) ?hp ?hL ?hR
   case hp => exact ⟨by simp [betweenS, XSpan.val, hc0], rfl, rfl⟩
   case hL => exact (by repeat (first | exact zs0 _ | exact zs1 _ | apply zs2 | apply zs3 | apply zs4 | apply zs5))
   case hR => exact allR_self _
  ·
   try simp only [zb1, zb2, zb3, zb4, zb5, zb6, zb7, zb8] at hc0
   refine CJ_skip (seqK_normal (CJ_seq (CJ_region ?_)))
   refine LJ_q (yv_loadN (row := [_, _]) tb rfl rfl rfl (by repeat (first | exact zi0 | apply zi1 | apply zi2)) (by rfl) (by rfl)) rfl ?_
   refine LJ_storeW tb rfl rfl rfl rfl (by repeat (first | apply zu0 | apply zu1 | apply zu2)) (by rfl) (by rfl) ?_
   refine LJ_nil (seqK_normal (CJ_ret ?_))
   refine retK_ret (L' := L) (R' := R) (res1 rfl (rv_cell (row := [_, _]) tb rfl rfl rfl (by repeat (first | exact zi0 | apply zi1 | apply zi2)) (by rfl) (by rfl))) ?hp ?hL ?hR
   case hp => exact ⟨by simp [betweenS, XSpan.val, hc0], rfl, rfl⟩
   case hL => exact (by repeat (first | exact zs0 _ | exact zs1 _ | apply zs2 | apply zs3 | apply zs4 | apply zs5))
   case hR => exact allR_self _
end Go.Proofs.Ytimnnhdeicpenaa
