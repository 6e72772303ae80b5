/-
  The draws: numbers. By an AI agent; no person has read it.
-/
import Derived.Test.YtimnnhdeicpenaaSpec
set_option linter.unusedSimpArgs false
set_option linter.unusedVariables false
namespace Go.Proofs.Ytimnnhdeicpenaa
open Go.Aw Go
set_option maxRecDepth 20000
attribute [local irreducible] CJ LJ DJ Tri YV Gives seqK blockK loopK retK RV mergeK

def bcell (n : Int) : List Value := [.int .u8 n]
abbrev bsl (x : Arr Int) : Sl := x.sl 1 bcell []
/-- the codes' own block -/
abbrev cblk (c : Nat) (x : Arr Int) (k : Nat) : Blk := ⟨c, [x.val, .int .i64 (k : Int)], 68⟩
structure CodesR (x : Arr Int) (R : List Sl) : Prop where
  sl : InR (bsl x) R
  byte : ∀ (i : Nat) (b : Int), x.l[i]? = some b → 0 ≤ b ∧ b ≤ 255

theorem next_tri (c : Nat) (x : Arr Int) (k : Nat) (n : Int) (R : List Sl) (hx : CodesR x R) (hk : k ≤ x.l.length) (hn : n ≤ 1000000) :
    Tri Try.prog 12 [.pointer (some ⟨c, 0, none⟩), .int .i64 n].toArray [cblk c x k] R
      (fun v L' R' => ∃ (r : Int) (k' : Nat), v = .int .i64 r ∧ 0 ≤ r ∧ (1 ≤ n → r < n) ∧ (n < 1 → r = 0) ∧ k' ≤ x.l.length ∧ [cblk c x k'] = L' ∧ R = R') := by
  have hsl := hx.sl
  refine Tri_len Try.call12 hsl fun hxn => ?_
  refine tri_enter 77 Try.call12 Try.func12 rfl rfl rfl ?_
  refine CJ_seq (CJ_region ?_)
  refine LJ_q (yv_assign (show _ = Value.int _ _ from rfl)) rfl ?_
  refine LJ_nil (seqK_normal (CJ_seq (CJ_seq ?_)))
  refine CJ_drawn tb [0, 1, 2, 3, 4, 5, 6, 7, 8, 9, 10, 11, 12, 13] _ mixed (by kernel_rfl) (List.Sublist.refl _) ?_
  refine DJ_q (yv_move (show _ = Value.int _ _ from rfl)) rfl rfl rfl ?_
  refine DJ_q (yv_lss rfl rfl) rfl rfl rfl ?_
  refine DJ_q (yv_move (show _ = Value.bool _ from rfl)) rfl rfl rfl ?_
  refine DJ_case (k := 8) (show _ = Value.bool _ from rfl) (fun hg2 => ?_) (fun hg2 => ?_)
  ·
   try simp only [zb1, zb2, zb3, zb4, zb5, zb6, zb7, zb8] at hg2
   refine DJ_skip rfl rfl rfl ?_
   refine DJ_skip rfl rfl rfl ?_
   refine DJ_skip rfl rfl rfl ?_
   refine DJ_skip rfl rfl rfl ?_
   refine DJ_skip rfl rfl rfl ?_
   refine DJ_skip rfl rfl rfl ?_
   refine DJ_skip rfl rfl rfl ?_
   refine DJ_skip rfl rfl rfl ?_
   refine DJ_skip rfl rfl rfl ?_
   refine DJ_skip rfl rfl rfl ?_
   refine DJ_q (by first | exact yv_pick_true rfl rfl | exact yv_pick_false rfl rfl | exact yv_pick rfl) rfl rfl rfl ?_
   refine DJ_nil (seqK_normal ?_)
   refine CJ_cond_true rfl ?_
   refine CJ_seq (CJ_region ?_)
   refine LJ_q (yv_assign (show _ = Value.int _ _ from rfl)) rfl ?_
   refine LJ_nil (seqK_normal (CJ_ret (seqK_ret ?_)))
   refine retK_ret (L' := [cblk c x k]) (R' := R) (res1 rfl (rv_tmp (show _ = Value.int _ _ from rfl))) ?hp ?hL ?hR
   case hp => exact ⟨0, k, rfl, by omega, fun _ => by omega, fun _ => rfl, hk, rfl, rfl⟩
   case hL => exact (by repeat (first | exact zs0 _ | exact zs1 _ | apply zs2 | apply zs3 | apply zs4 | apply zs5))
   case hR => exact allR_self _
  ·
   try simp only [zb1, zb2, zb3, zb4, zb5, zb6, zb7, zb8] at hg2
   refine DJ_q (yv_move (show _ = Value.pointer _ from rfl)) rfl rfl rfl ?_
   refine DJ_q (yv_nilCheck rfl) rfl rfl rfl ?_
   refine DJ_q (yv_field tb rfl rfl rfl) rfl rfl rfl ?_
   refine DJ_q (yv_load1 tb rfl rfl rfl (by repeat (first | exact zi0 | apply zi1 | apply zi2)) (by rfl)) rfl rfl rfl ?_
   refine DJ_q (yv_move (show _ = Value.pointer _ from rfl)) rfl rfl rfl ?_
   refine DJ_q (yv_nilCheck rfl) rfl rfl rfl ?_
   refine DJ_q (yv_field tb rfl rfl rfl) rfl rfl rfl ?_
   refine DJ_q (yv_load1 tb rfl rfl rfl (by repeat (first | exact zi0 | apply zi1 | apply zi2)) (by rfl)) rfl rfl rfl ?_
   refine DJ_q (yv_len tb rfl rfl rfl) rfl rfl rfl ?_
   refine DJ_q (yv_geq rfl rfl) rfl rfl rfl ?_
   refine DJ_q (by first | exact yv_pick_true rfl rfl | exact yv_pick_false rfl rfl | exact yv_pick rfl) rfl rfl rfl ?_
   refine DJ_nil (seqK_normal ?_)
   refine CJ_cond (show _ = Value.bool _ from rfl) (fun hc0 => ?_) (fun hc0 => ?_)
   ·
    try simp only [zb1, zb2, zb3, zb4, zb5, zb6, zb7, zb8] at hc0
    refine CJ_seq (CJ_region ?_)
    refine LJ_q (yv_assign (show _ = Value.int _ _ from rfl)) rfl ?_
    refine LJ_nil (seqK_normal (CJ_ret (seqK_ret ?_)))
    refine retK_ret (L' := [cblk c x k]) (R' := R) (res1 rfl (rv_tmp (show _ = Value.int _ _ from rfl))) ?hp ?hL ?hR
    case hp => exact ⟨0, k, rfl, by omega, fun _ => by omega, fun _ => rfl, hk, rfl, rfl⟩
    case hL => exact (by repeat (first | exact zs0 _ | exact zs1 _ | apply zs2 | apply zs3 | apply zs4 | apply zs5))
    case hR => exact allR_self _
   ·
    try simp only [zb1, zb2, zb3, zb4, zb5, zb6, zb7, zb8] at hc0
    have hb := get_D (l := x.l) (k := k) 0 (by omega)
    have hbb := hx.byte _ _ hb
    refine CJ_skip (seqK_normal (CJ_seq (CJ_region ?_)))
    refine LJ_q (yv_move (show _ = Value.pointer _ from rfl)) rfl ?_
    refine LJ_q (yv_nilCheck rfl) rfl ?_
    refine LJ_q (yv_field tb rfl rfl rfl) rfl ?_
    refine LJ_q (yv_load1 tb rfl rfl rfl (by repeat (first | exact zi0 | apply zi1 | apply zi2)) (by rfl)) rfl ?_
    refine LJ_q (by first | exact yv_add64 rfl rfl (by omega) (by omega) | exact yv_addU rfl rfl (by omega) (by omega) | exact yv_add rfl rfl) rfl ?_
    refine LJ_q (yv_nilCheck rfl) rfl ?_
    refine LJ_q (yv_field tb rfl rfl rfl) rfl ?_
    refine LJ_store1 (v := Value.int _ _) tb rfl rfl rfl rfl (by repeat (first | apply zu0 | apply zu1 | apply zu2)) (by first | exact icell_fit (by omega) | rfl) (by first | exact icell_set | rfl) (by rfl) ?_
    refine LJ_nil (seqK_normal (CJ_seq ?_))
    refine CJ_drawn tb [0, 1, 2, 3, 4, 5, 6, 7, 8, 9, 10, 11, 12] _ mixed (by kernel_rfl) (List.Sublist.refl _) ?_
    refine DJ_q (yv_move (show _ = Value.pointer _ from rfl)) rfl rfl rfl ?_
    refine DJ_q (yv_nilCheck rfl) rfl rfl rfl ?_
    refine DJ_q (yv_field tb rfl rfl rfl) rfl rfl rfl ?_
    refine DJ_q (yv_load1 tb rfl rfl rfl (by repeat (first | exact zi0 | apply zi1 | apply zi2)) (by rfl)) rfl rfl rfl ?_
    refine DJ_q (yv_move (show _ = Value.pointer _ from rfl)) rfl rfl rfl ?_
    refine DJ_q (yv_nilCheck rfl) rfl rfl rfl ?_
    refine DJ_q (yv_field tb rfl rfl rfl) rfl rfl rfl ?_
    refine DJ_q (yv_load1 tb rfl rfl rfl (by repeat (first | exact zi0 | apply zi1 | apply zi2)) (by rfl)) rfl rfl rfl ?_
    refine DJ_q (by first | exact yv_sub64 rfl rfl (by omega) (by omega) | exact yv_sub rfl rfl) rfl rfl rfl ?_
    refine DJ_q (by first | exact yv_index_ro tb rfl rfl rfl rfl (by first | assumption | exact zr (by simp)) (i := k) (by first | rfl | omega | (simp; omega)) (by omega) | exact yv_index tb rfl rfl rfl rfl (i := k) (by first | rfl | omega | (simp; omega)) (by omega)) rfl rfl rfl ?_
    refine DJ_q (by first | exact yv_load1_ro tb rfl rfl rfl (by first | assumption | exact zr (by simp)) (by assumption) (by rfl) | exact yv_load1 tb rfl rfl rfl (by repeat (first | exact zi0 | apply zi1 | apply zi2)) (by rfl) | exact yv_load1 tb rfl rfl rfl (by repeat (first | exact zi0 | apply zi1 | apply zi2)) (icell_get (by assumption)) | exact yv_load1 tb rfl rfl rfl (by repeat (first | exact zi0 | apply zi1 | apply zi2)) (rcell_get (fun _ => rfl) (by assumption) rfl)) rfl rfl rfl ?_
    refine DJ_q (by first | exact yv_convert64 tb rfl rfl rfl (by omega) (by omega) | exact yv_convertU tb rfl rfl rfl (by omega) (by omega) | exact yv_convert tb rfl rfl rfl) rfl rfl rfl ?_
    refine DJ_q (yv_assign (show _ = Value.int _ _ from rfl)) rfl rfl rfl ?_
    refine DJ_nil (seqK_normal (CJ_seq (CJ_seq ?_)))
    refine CJ_drawn tb [0, 1, 2, 3, 4, 5, 6, 7, 8, 9, 10, 11, 12, 13] _ mixed (by kernel_rfl) (List.Sublist.refl _) ?_
    refine DJ_q (yv_move (show _ = Value.int _ _ from rfl)) rfl rfl rfl ?_
    refine DJ_q (yv_gtr rfl rfl) rfl rfl rfl ?_
    refine DJ_q (yv_move (show _ = Value.bool _ from rfl)) rfl rfl rfl ?_
    refine DJ_case (k := 41) (show _ = Value.bool _ from rfl) (fun hg2 => ?_) (fun hg2 => ?_)
    ·
     try simp only [zb1, zb2, zb3, zb4, zb5, zb6, zb7, zb8] at hg2
     refine DJ_q (yv_move (show _ = Value.pointer _ from rfl)) rfl rfl rfl ?_
     refine DJ_q (yv_nilCheck rfl) rfl rfl rfl ?_
     refine DJ_q (yv_field tb rfl rfl rfl) rfl rfl rfl ?_
     refine DJ_q (yv_load1 tb rfl rfl rfl (by repeat (first | exact zi0 | apply zi1 | apply zi2)) (by rfl)) rfl rfl rfl ?_
     refine DJ_q (yv_move (show _ = Value.pointer _ from rfl)) rfl rfl rfl ?_
     refine DJ_q (yv_nilCheck rfl) rfl rfl rfl ?_
     refine DJ_q (yv_field tb rfl rfl rfl) rfl rfl rfl ?_
     refine DJ_q (yv_load1 tb rfl rfl rfl (by repeat (first | exact zi0 | apply zi1 | apply zi2)) (by rfl)) rfl rfl rfl ?_
     refine DJ_q (yv_len tb rfl rfl rfl) rfl rfl rfl ?_
     refine DJ_q (yv_lss rfl rfl) rfl rfl rfl ?_
     refine DJ_q (by first | exact yv_pick_true rfl rfl | exact yv_pick_false rfl rfl | exact yv_pick rfl) rfl rfl rfl ?_
     refine DJ_nil (seqK_normal ?_)
     refine CJ_cond (show _ = Value.bool _ from rfl) (fun hc1 => ?_) (fun hc1 => ?_)
     ·
      try simp only [zb1, zb2, zb3, zb4, zb5, zb6, zb7, zb8] at hc1
      obtain ⟨kk, hkk⟩ : ∃ kk, kk = k + 2 := ⟨_, rfl⟩
      have hb2 := get_D (l := x.l) (k := k + 1) 0 (by omega)
      have hbb2 := hx.byte _ _ hb2
      refine CJ_seq ?_
      refine CJ_drawn tb [0, 1, 2, 3, 4, 5, 6, 7, 8, 9, 10, 11, 12, 13, 14] _ mixed (by kernel_rfl) (List.Sublist.refl _) ?_
      refine DJ_q (yv_move (show _ = Value.int _ _ from rfl)) rfl rfl rfl ?_
      refine DJ_q (by first | exact yv_mul64 rfl rfl (by omega) (by omega) | exact yv_mulU rfl rfl (by omega) (by omega) | exact yv_mul rfl rfl) rfl rfl rfl ?_
      refine DJ_q (yv_move (show _ = Value.pointer _ from rfl)) rfl rfl rfl ?_
      refine DJ_q (yv_nilCheck rfl) rfl rfl rfl ?_
      refine DJ_q (yv_field tb rfl rfl rfl) rfl rfl rfl ?_
      refine DJ_q (yv_load1 tb rfl rfl rfl (by repeat (first | exact zi0 | apply zi1 | apply zi2)) (by rfl)) rfl rfl rfl ?_
      refine DJ_q (yv_move (show _ = Value.pointer _ from rfl)) rfl rfl rfl ?_
      refine DJ_q (yv_nilCheck rfl) rfl rfl rfl ?_
      refine DJ_q (yv_field tb rfl rfl rfl) rfl rfl rfl ?_
      refine DJ_q (yv_load1 tb rfl rfl rfl (by repeat (first | exact zi0 | apply zi1 | apply zi2)) (by rfl)) rfl rfl rfl ?_
      refine DJ_q (by first | exact yv_index_ro tb rfl rfl rfl rfl (by first | assumption | exact zr (by simp)) (i := k + 1) (by first | rfl | omega | (simp; omega)) (by omega) | exact yv_index tb rfl rfl rfl rfl (i := k + 1) (by first | rfl | omega | (simp; omega)) (by omega)) rfl rfl rfl ?_
      refine DJ_q (by first | exact yv_load1_ro tb rfl rfl rfl (by first | assumption | exact zr (by simp)) (by assumption) (by rfl) | exact yv_load1 tb rfl rfl rfl (by repeat (first | exact zi0 | apply zi1 | apply zi2)) (by rfl) | exact yv_load1 tb rfl rfl rfl (by repeat (first | exact zi0 | apply zi1 | apply zi2)) (icell_get (by assumption)) | exact yv_load1 tb rfl rfl rfl (by repeat (first | exact zi0 | apply zi1 | apply zi2)) (rcell_get (fun _ => rfl) (by assumption) rfl)) rfl rfl rfl ?_
      refine DJ_q (by first | exact yv_convert64 tb rfl rfl rfl (by omega) (by omega) | exact yv_convertU tb rfl rfl rfl (by omega) (by omega) | exact yv_convert tb rfl rfl rfl) rfl rfl rfl ?_
      refine DJ_q (by first | exact yv_add64 rfl rfl (by omega) (by omega) | exact yv_addU rfl rfl (by omega) (by omega) | exact yv_add rfl rfl) rfl rfl rfl ?_
      refine DJ_q (yv_assign (show _ = Value.int _ _ from rfl)) rfl rfl rfl ?_
      refine DJ_nil (seqK_normal (CJ_region ?_))
      refine LJ_q (yv_move (show _ = Value.pointer _ from rfl)) rfl ?_
      refine LJ_q (yv_nilCheck rfl) rfl ?_
      refine LJ_q (yv_field tb rfl rfl rfl) rfl ?_
      refine LJ_q (yv_load1 tb rfl rfl rfl (by repeat (first | exact zi0 | apply zi1 | apply zi2)) (by rfl)) rfl ?_
      refine LJ_q (by first | exact yv_add64 rfl rfl (by omega) (by omega) | exact yv_addU rfl rfl (by omega) (by omega) | exact yv_add rfl rfl) rfl ?_
      refine LJ_q (yv_nilCheck rfl) rfl ?_
      refine LJ_q (yv_field tb rfl rfl rfl) rfl ?_
      refine LJ_store1 (v := Value.int _ _) tb rfl rfl rfl rfl (by repeat (first | apply zu0 | apply zu1 | apply zu2)) (by first | exact icell_fit (by omega) | rfl) (by first | exact icell_set | rfl) (by rfl) ?_
      refine LJ_nil (seqK_normal (CJ_seq (CJ_region ?_)))
      refine LJ_q (yv_move (show _ = Value.int _ _ from rfl)) rfl ?_
      refine LJ_q (yv_move (show _ = Value.int _ _ from rfl)) rfl ?_
      refine LJ_q (by first | exact yv_remU rfl rfl (by omega) (by omega) | exact yv_rem rfl rfl (by omega)) rfl ?_
      refine LJ_q (yv_assign (show _ = Value.int _ _ from rfl)) rfl ?_
      refine LJ_nil (seqK_normal (CJ_ret ?_))
      have htm := fun y (h : 0 ≤ y) => And.intro (Int.tmod_nonneg n h) (Int.tmod_lt_of_pos y (show 0 < n by omega))
      refine retK_ret (L' := [cblk c x kk]) (R' := R) (res1 rfl (rv_tmp (show _ = Value.int _ _ from rfl))) ?hp ?hL ?hR
      case hp => exact ⟨_, kk, rfl, (htm _ (by omega)).1, fun _ => (htm _ (by omega)).2, fun _ => by omega, by omega, rfl, rfl⟩
      case hL => subst hkk; exact (by repeat (first | exact zs0 _ | exact zs1 _ | apply zs2 | apply zs3 | apply zs4 | apply zs5))
      case hR => exact allR_self _
     ·
      try simp only [zb1, zb2, zb3, zb4, zb5, zb6, zb7, zb8] at hc1
      obtain ⟨kk, hkk⟩ : ∃ kk, kk = k + 1 := ⟨_, rfl⟩
      refine CJ_skip (seqK_normal (CJ_seq (CJ_region ?_)))
      refine LJ_q (yv_move (show _ = Value.int _ _ from rfl)) rfl ?_
      refine LJ_q (yv_move (show _ = Value.int _ _ from rfl)) rfl ?_
      refine LJ_q (by first | exact yv_remU rfl rfl (by omega) (by omega) | exact yv_rem rfl rfl (by omega)) rfl ?_
      refine LJ_q (yv_assign (show _ = Value.int _ _ from rfl)) rfl ?_
      refine LJ_nil (seqK_normal (CJ_ret ?_))
      have htm := fun y (h : 0 ≤ y) => And.intro (Int.tmod_nonneg n h) (Int.tmod_lt_of_pos y (show 0 < n by omega))
      refine retK_ret (L' := [cblk c x kk]) (R' := R) (res1 rfl (rv_tmp (show _ = Value.int _ _ from rfl))) ?hp ?hL ?hR
      case hp => exact ⟨_, kk, rfl, (htm _ (by omega)).1, fun _ => (htm _ (by omega)).2, fun _ => by omega, by omega, rfl, rfl⟩
      case hL => subst hkk; exact (by repeat (first | exact zs0 _ | exact zs1 _ | apply zs2 | apply zs3 | apply zs4 | apply zs5))
      case hR => exact allR_self _
    ·
     try simp only [zb1, zb2, zb3, zb4, zb5, zb6, zb7, zb8] at hg2
     obtain ⟨kk, hkk⟩ : ∃ kk, kk = k + 1 := ⟨_, rfl⟩
     refine DJ_skip rfl rfl rfl ?_
     refine DJ_skip rfl rfl rfl ?_
     refine DJ_skip rfl rfl rfl ?_
     refine DJ_skip rfl rfl rfl ?_
     refine DJ_skip rfl rfl rfl ?_
     refine DJ_skip rfl rfl rfl ?_
     refine DJ_skip rfl rfl rfl ?_
     refine DJ_skip rfl rfl rfl ?_
     refine DJ_skip rfl rfl rfl ?_
     refine DJ_skip rfl rfl rfl ?_
     refine DJ_q (by first | exact yv_pick_true rfl rfl | exact yv_pick_false rfl rfl | exact yv_pick rfl) rfl rfl rfl ?_
     refine DJ_nil (seqK_normal ?_)
     refine CJ_cond_false rfl ?_
     refine CJ_skip (seqK_normal (CJ_seq (CJ_region ?_)))
     refine LJ_q (yv_move (show _ = Value.int _ _ from rfl)) rfl ?_
     refine LJ_q (yv_move (show _ = Value.int _ _ from rfl)) rfl ?_
     refine LJ_q (by first | exact yv_remU rfl rfl (by omega) (by omega) | exact yv_rem rfl rfl (by omega)) rfl ?_
     refine LJ_q (yv_assign (show _ = Value.int _ _ from rfl)) rfl ?_
     refine LJ_nil (seqK_normal (CJ_ret ?_))
     have htm := fun y (h : 0 ≤ y) => And.intro (Int.tmod_nonneg n h) (Int.tmod_lt_of_pos y (show 0 < n by omega))
     refine retK_ret (L' := [cblk c x kk]) (R' := R) (res1 rfl (rv_tmp (show _ = Value.int _ _ from rfl))) ?hp ?hL ?hR
     case hp => exact ⟨_, kk, rfl, (htm _ (by omega)).1, fun _ => (htm _ (by omega)).2, fun _ => by omega, by omega, rfl, rfl⟩
     case hL => subst hkk; exact (by repeat (first | exact zs0 _ | exact zs1 _ | apply zs2 | apply zs3 | apply zs4 | apply zs5))
     case hR => exact allR_self _

theorem one_tri (c : Nat) (x : Arr Int) (k : Nat) (n : Int) (R : List Sl) (hx : CodesR x R) (hk : k ≤ x.l.length) (hn : -1000000 ≤ n ∧ n ≤ 1000000) :
    Tri Try.prog 29 [.pointer (some ⟨c, 0, none⟩), .int .i64 n].toArray [cblk c x k] R
      (fun v L' R' => ∃ (b : Bool) (k' : Nat), v = .bool b ∧ k' ≤ x.l.length ∧ [cblk c x k'] = L' ∧ R = R') := by
  refine tri_enter 11 Try.call29 Try.func29 rfl rfl rfl ?_
  refine CJ_seq (CJ_region ?_)
  refine LJ_q (yv_assign (show _ = Value.bool _ from rfl)) rfl ?_
  refine LJ_nil (seqK_normal (CJ_seq (CJ_region ?_)))
  refine LJ_q (yv_move (show _ = Value.pointer _ from rfl)) rfl ?_
  refine LJ_q (yv_move (show _ = Value.int _ _ from rfl)) rfl ?_
  refine LJ_call rfl (next_tri c x k n _ hx hk (by omega)) rfl ?_
  rintro v L' R' ⟨r, k', rfl, h1, h2, h3, hk', rfl, rfl⟩
  refine LJ_q (yv_move (show _ = Value.int _ _ from rfl)) rfl ?_
  refine LJ_q (by first | exact yv_sub64 rfl rfl (by omega) (by omega) | exact yv_sub rfl rfl) rfl ?_
  refine LJ_q (yv_eql rfl rfl) rfl ?_
  refine LJ_q (yv_assign (show _ = Value.bool _ from rfl)) rfl ?_
  refine LJ_nil (seqK_normal (CJ_ret ?_))
  refine retK_ret (L' := [cblk c x k']) (R' := R) (res1 rfl (rv_tmp (show _ = Value.bool _ from rfl))) ?hp ?hL ?hR
  case hp => exact ⟨_, k', rfl, hk', rfl, rfl⟩
  case hL => exact (by repeat (first | exact zs0 _ | exact zs1 _ | apply zs2 | apply zs3 | apply zs4 | apply zs5))
  case hR => exact allR_self _

theorem range_tri (c : Nat) (x : Arr Int) (k : Nat) (lo hi : Int) (R : List Sl) (hx : CodesR x R) (hk : k ≤ x.l.length) (hl : -400000 ≤ lo ∧ lo ≤ hi ∧ hi ≤ 400000) :
    Tri Try.prog 30 [.pointer (some ⟨c, 0, none⟩), .int .i64 lo, .int .i64 hi].toArray [cblk c x k] R
      (fun v L' R' => ∃ (r : Int) (k' : Nat), v = .int .i64 r ∧ lo ≤ r ∧ r ≤ hi ∧ k' ≤ x.l.length ∧ [cblk c x k'] = L' ∧ R = R') := by
  refine tri_enter 15 Try.call30 Try.func30 rfl rfl rfl ?_
  refine CJ_seq (CJ_region ?_)
  refine LJ_q (yv_assign (show _ = Value.int _ _ from rfl)) rfl ?_
  refine LJ_nil (seqK_normal (CJ_seq (CJ_region ?_)))
  refine LJ_q (yv_move (show _ = Value.int _ _ from rfl)) rfl ?_
  refine LJ_q (yv_move (show _ = Value.pointer _ from rfl)) rfl ?_
  refine LJ_q (yv_move (show _ = Value.int _ _ from rfl)) rfl ?_
  refine LJ_q (yv_move (show _ = Value.int _ _ from rfl)) rfl ?_
  refine LJ_q (by first | exact yv_sub64 rfl rfl (by omega) (by omega) | exact yv_sub rfl rfl) rfl ?_
  refine LJ_q (by first | exact yv_add64 rfl rfl (by omega) (by omega) | exact yv_addU rfl rfl (by omega) (by omega) | exact yv_add rfl rfl) rfl ?_
  refine LJ_call rfl (next_tri c x k (hi - lo + 1) _ hx hk (by omega)) rfl ?_
  rintro v L' R' ⟨r, k', rfl, h1, h2, h3, hk', rfl, rfl⟩
  have h4 := h2 (by omega)
  refine LJ_q (by first | exact yv_add64 rfl rfl (by omega) (by omega) | exact yv_addU rfl rfl (by omega) (by omega) | exact yv_add rfl rfl) rfl ?_
  refine LJ_q (yv_assign (show _ = Value.int _ _ from rfl)) rfl ?_
  refine LJ_nil (seqK_normal (CJ_ret ?_))
  refine retK_ret (L' := [cblk c x k']) (R' := R) (res1 rfl (rv_tmp (show _ = Value.int _ _ from rfl))) ?hp ?hL ?hR
  case hp => exact ⟨_, k', rfl, by omega, by omega, hk', rfl, rfl⟩
  case hL => exact (by repeat (first | exact zs0 _ | exact zs1 _ | apply zs2 | apply zs3 | apply zs4 | apply zs5))
  case hR => exact allR_self _

abbrev ccells (x : Arr Int) (k : Nat) : List Value := [x.val, .int .i64 (k : Int)]

theorem next1 {c : Nat} {x : Arr Int} {k : Nat} {n : Int} {L : List Blk} {F : List Value → List Blk} {R : List Sl} (hu : USeg c (ccells x k) 68 L F) (hx : CodesR x R) (hk : k ≤ x.l.length) (hn : n ≤ 1000000) :
    Tri Try.prog 12 [.pointer (some ⟨c, 0, none⟩), .int .i64 n].toArray L R
      (fun v L' R' => ∃ (r : Int) (k' : Nat), v = .int .i64 r ∧ 0 ≤ r ∧ (1 ≤ n → r < n) ∧ (n < 1 → r = 0) ∧ k' ≤ x.l.length ∧ F (ccells x k') = L' ∧ R = R') :=
  (Tri.at1 (Post' := fun v cs' R' => ∃ (r : Int) (k' : Nat), v = .int .i64 r ∧ 0 ≤ r ∧ (1 ≤ n → r < n) ∧ (n < 1 → r = 0) ∧ k' ≤ x.l.length ∧ cs' = ccells x k' ∧ R = R') hu (next_tri c x k n R hx hk hn)
    (fun v L' R' ⟨r, k', h1, h2, h3, h4, h5, h6, h7⟩ => ⟨_, h6, r, k', h1, h2, h3, h4, h5, rfl, h7⟩)).mono
    (fun v L' R' ⟨cs', h0, r, k', h1, h2, h3, h4, h5, h6, h7⟩ => ⟨r, k', h1, h2, h3, h4, h5, by rw [← h6]; exact h0, h7⟩)
theorem one1 {c : Nat} {x : Arr Int} {k : Nat} {n : Int} {L : List Blk} {F : List Value → List Blk} {R : List Sl} (hu : USeg c (ccells x k) 68 L F) (hx : CodesR x R) (hk : k ≤ x.l.length) (hn : -1000000 ≤ n ∧ n ≤ 1000000) :
    Tri Try.prog 29 [.pointer (some ⟨c, 0, none⟩), .int .i64 n].toArray L R
      (fun v L' R' => ∃ (b : Bool) (k' : Nat), v = .bool b ∧ k' ≤ x.l.length ∧ F (ccells x k') = L' ∧ R = R') :=
  (Tri.at1 (Post' := fun v cs' R' => ∃ (b : Bool) (k' : Nat), v = .bool b ∧ k' ≤ x.l.length ∧ cs' = ccells x k' ∧ R = R') hu (one_tri c x k n R hx hk hn)
    (fun v L' R' ⟨b, k', h1, h5, h6, h7⟩ => ⟨_, h6, b, k', h1, h5, rfl, h7⟩)).mono
    (fun v L' R' ⟨cs', h0, b, k', h1, h5, h6, h7⟩ => ⟨b, k', h1, h5, by rw [← h6]; exact h0, h7⟩)
theorem range1 {c : Nat} {x : Arr Int} {k : Nat} {lo hi : Int} {L : List Blk} {F : List Value → List Blk} {R : List Sl} (hu : USeg c (ccells x k) 68 L F) (hx : CodesR x R) (hk : k ≤ x.l.length) (hl : -400000 ≤ lo ∧ lo ≤ hi ∧ hi ≤ 400000) :
    Tri Try.prog 30 [.pointer (some ⟨c, 0, none⟩), .int .i64 lo, .int .i64 hi].toArray L R
      (fun v L' R' => ∃ (r : Int) (k' : Nat), v = .int .i64 r ∧ lo ≤ r ∧ r ≤ hi ∧ k' ≤ x.l.length ∧ F (ccells x k') = L' ∧ R = R') :=
  (Tri.at1 (Post' := fun v cs' R' => ∃ (r : Int) (k' : Nat), v = .int .i64 r ∧ lo ≤ r ∧ r ≤ hi ∧ k' ≤ x.l.length ∧ cs' = ccells x k' ∧ R = R') hu (range_tri c x k lo hi R hx hk hl)
    (fun v L' R' ⟨r, k', h1, h2, h3, h5, h6, h7⟩ => ⟨_, h6, r, k', h1, h2, h3, h5, rfl, h7⟩)).mono
    (fun v L' R' ⟨cs', h0, r, k', h1, h2, h3, h5, h6, h7⟩ => ⟨r, k', h1, h2, h3, h5, by rw [← h6]; exact h0, h7⟩)
end Go.Proofs.Ytimnnhdeicpenaa
