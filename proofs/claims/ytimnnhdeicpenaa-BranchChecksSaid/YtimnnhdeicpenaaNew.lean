/-
  The draws: new codes, rests of numbers; a made air at other places. By an AI agent; no person has read it.
-/
import Derived.Test.YtimnnhdeicpenaaMade
set_option linter.unusedSimpArgs false
set_option linter.unusedVariables false
namespace Go.Proofs.Ytimnnhdeicpenaa
open Go.Aw Go
set_option maxRecDepth 20000
attribute [local irreducible] CJ LJ DJ Tri YV Gives seqK blockK loopK retK RV mergeK OwL.L

def modS (k n : Int) : Int := if n < 1 then 0 else if k.tmod n < 0 then k.tmod n + n else k.tmod n
theorem modS_bounds {k n : Int} (hn : 1 ≤ n) : 0 ≤ modS k n ∧ modS k n < n := by
  unfold modS
  rw [if_neg (by omega)]
  have h1 := Int.tmod_lt_of_pos k (show 0 < n by omega)
  have h2 : -n < k.tmod n := by
    have := Int.tmod_lt_of_pos (-k) (show 0 < n by omega)
    rw [Int.neg_tmod] at this
    omega
  split <;> omega

theorem mod_tri (k n : Int) (L : List Blk) (R : List Sl) (hk : I64 k) (hn : -9223372036854775807 ≤ n ∧ n ≤ 4611686018427387904) :
    Tri Try.prog 22 [.int .i64 k, .int .i64 n].toArray L R (fun v L' R' => v = .int .i64 (modS k n) ∧ L = L' ∧ R = R') := by
  refine tri_enter 16 Try.call22 Try.func22 rfl rfl rfl ?_
  refine CJ_seq (CJ_region ?_)
  refine LJ_q (yv_assign (show _ = Value.int _ _ from rfl)) rfl ?_
  refine LJ_nil (seqK_normal (CJ_seq (CJ_seq (CJ_region ?_))))
  refine LJ_q (yv_move (show _ = Value.int _ _ from rfl)) rfl ?_
  refine LJ_q (yv_lss rfl rfl) rfl ?_
  refine LJ_nil (seqK_normal ?_)
  refine CJ_cond (show _ = Value.bool _ from rfl) (fun hc0 => ?_) (fun hc0 => ?_)
  ·
   try simp only [zb1, zb2, zb3, zb4, zb5, zb6, zb7, zb8] at hc0
   refine CJ_seq (CJ_region ?_)
   refine LJ_q (yv_assign (show _ = Value.int _ _ from rfl)) rfl ?_
   refine LJ_nil (seqK_normal (CJ_ret (seqK_ret ?_)))
   refine retK_ret (L' := L) (R' := R) (res1 rfl (rv_tmp (show _ = Value.int _ _ from rfl))) ?hp ?hL ?hR
   case hp => exact ⟨by rw [modS, if_pos hc0], rfl, rfl⟩
   case hL => exact (by repeat (first | exact zs0 _ | exact zs1 _ | apply zs2 | apply zs3 | apply zs4 | apply zs5))
   case hR => exact allR_self _
  ·
   try simp only [zb1, zb2, zb3, zb4, zb5, zb6, zb7, zb8] at hc0
   have h1 := Int.tmod_lt_of_pos k (show 0 < n by omega)
   have h2 : -n < k.tmod n := by
     have := Int.tmod_lt_of_pos (-k) (show 0 < n by omega)
     rw [Int.neg_tmod] at this
     omega
   refine CJ_skip (seqK_normal (CJ_seq (CJ_region ?_)))
   refine LJ_q (yv_move (show _ = Value.int _ _ from rfl)) rfl ?_
   refine LJ_q (yv_move (show _ = Value.int _ _ from rfl)) rfl ?_
   refine LJ_q (by first | exact yv_remU rfl rfl (by omega) (by omega) | exact yv_rem rfl rfl (by omega)) rfl ?_
   refine LJ_q (yv_assign (show _ = Value.int _ _ from rfl)) rfl ?_
   refine LJ_nil (seqK_normal (CJ_seq (CJ_seq (CJ_region ?_))))
   refine LJ_q (yv_move (show _ = Value.int _ _ from rfl)) rfl ?_
   refine LJ_q (yv_lss rfl rfl) rfl ?_
   refine LJ_nil (seqK_normal ?_)
   refine CJ_cond (show _ = Value.bool _ from rfl) (fun hc1 => ?_) (fun hc1 => ?_)
   ·
    try simp only [zb1, zb2, zb3, zb4, zb5, zb6, zb7, zb8] at hc1
    refine CJ_region ?_
    refine LJ_q (yv_move (show _ = Value.int _ _ from rfl)) rfl ?_
    refine LJ_q (yv_move (show _ = Value.int _ _ from rfl)) rfl ?_
    refine LJ_q (by first | exact yv_add64 rfl rfl (by omega) (by omega) | exact yv_addU rfl rfl (by omega) (by omega) | exact yv_add rfl rfl) rfl ?_
    refine LJ_q (yv_assign (show _ = Value.int _ _ from rfl)) rfl ?_
    refine LJ_nil (seqK_normal (CJ_seq (CJ_region ?_)))
    refine LJ_q (yv_move (show _ = Value.int _ _ from rfl)) rfl ?_
    refine LJ_q (yv_assign (show _ = Value.int _ _ from rfl)) rfl ?_
    refine LJ_nil (seqK_normal (CJ_ret ?_))
    refine retK_ret (L' := L) (R' := R) (res1 rfl (rv_tmp (show _ = Value.int _ _ from rfl))) ?hp ?hL ?hR
    case hp => first | exact ⟨by rw [modS, if_neg hc0, if_pos hc1], rfl, rfl⟩ | exact ⟨by rw [modS, if_neg hc0, if_neg hc1], rfl, rfl⟩
    case hL => exact (by repeat (first | exact zs0 _ | exact zs1 _ | apply zs2 | apply zs3 | apply zs4 | apply zs5))
    case hR => exact allR_self _
   ·
    try simp only [zb1, zb2, zb3, zb4, zb5, zb6, zb7, zb8] at hc1
    refine CJ_skip (seqK_normal (CJ_seq (CJ_region ?_)))
    refine LJ_q (yv_move (show _ = Value.int _ _ from rfl)) rfl ?_
    refine LJ_q (yv_assign (show _ = Value.int _ _ from rfl)) rfl ?_
    refine LJ_nil (seqK_normal (CJ_ret ?_))
    refine retK_ret (L' := L) (R' := R) (res1 rfl (rv_tmp (show _ = Value.int _ _ from rfl))) ?hp ?hL ?hR
    case hp => first | exact ⟨by rw [modS, if_neg hc0, if_pos hc1], rfl, rfl⟩ | exact ⟨by rw [modS, if_neg hc0, if_neg hc1], rfl, rfl⟩
    case hL => exact (by repeat (first | exact zs0 _ | exact zs1 _ | apply zs2 | apply zs3 | apply zs4 | apply zs5))
    case hR => exact allR_self _

/-- at most 300 of the codes -/
abbrev codes300 (y : Arr Int) : Arr Int := ⟨y.a, y.cap, y.l.take 300⟩

theorem new_tri (y : Arr Int) (L : List Blk) (R : List Sl) (hy : CodesR y R) :
    Tri Try.prog 10 [y.val].toArray L R (fun v L' R' => ∃ c, v = .pointer (some ⟨c, 0, none⟩) ∧ CodesR (codes300 y) R' ∧ cblk c (codes300 y) 0 :: L = L' ∧ bsl (codes300 y) :: R = R') := by
  have hsl := hy.sl
  refine Tri_cap Try.call10 hsl fun hyn => ?_
  refine tri_enter 10 Try.call10 Try.func10 rfl rfl rfl ?_
  refine CJ_seq (CJ_region ?_)
  refine LJ_q (yv_assign (show _ = Value.pointer _ from rfl)) rfl ?_
  refine LJ_nil (seqK_normal (CJ_seq ?_))
  refine CJ_takeA 300 hsl ?_
  refine CJ_region ?_
  refine LJ_q (yv_move (show _ = Value.slice _ _ _ from rfl)) rfl ?_
  refine LJ_q (yv_move (show _ = Value.slice _ _ _ from rfl)) rfl ?_
  refine LJ_q (yv_len tb rfl rfl rfl) rfl ?_
  refine LJ_q (yv_min2 rfl rfl) rfl ?_
  refine LJ_q (yv_slice_h tb rfl rfl rfl rfl (n := (y.l.take 300).length) (by rw [List.length_take]; omega) (by rw [List.length_take]; omega)) rfl ?_
  refine LJ_q (yv_build (qs := [(0, (Value.slice _ _ _).cells.toList)]) (out := [_, _]) tb rfl rfl rfl rfl) rfl ?_
  refine LJ_boxN rfl rfl ?_
  intro b9
  refine LJ_q (yv_assign (show _ = Value.pointer _ from rfl)) rfl ?_
  refine LJ_nil (seqK_normal (CJ_ret ?_))
  refine retK_ret (L' := cblk b9 (codes300 y) 0 :: L) (R' := bsl (codes300 y) :: R) (res1 rfl (rv_tmp (show _ = Value.pointer _ from rfl))) ?hp ?hL ?hR
  case hp => exact ⟨b9, rfl, ⟨inR_self (by simp), fun i b hb => by rw [List.getElem?_take] at hb; split at hb; exact hy.byte i b hb; cases hb⟩, rfl, rfl⟩
  case hL => exact (by repeat (first | exact zs0 _ | exact zs1 _ | apply zs2 | apply zs3 | apply zs4 | apply zs5))
  case hR => exact allR_self _

/-- a made air at another place -/
theorem made1 {c : Nat} {x : Arr Int} {k : Nat} {L B : List Blk} {R : List Sl} (hu : Spl L B [cblk c x k]) (hx : CodesR x R) (hk : k ≤ x.l.length) :
    Tri Try.prog 11 [.pointer (some ⟨c, 0, none⟩)].toArray L R
      (fun v L' R' => ∃ (m : MadeO) (k' : Nat) (S : List Sl), v = .tuple #[m.a.val, m.t.val, m.x.val] ∧ m.Ok ∧ MadeA m.a m.t m.x ∧ (∀ f ∈ m.fans.l, InR f.sl S) ∧ (∀ d ∈ m.doors.l, InR d.sl S) ∧ k' ≤ x.l.length ∧ B ++ m.L (cblk c x k') = L' ∧ S ++ R = R') :=
  (Tri.spl hu (made_tri c x k R hx hk)).mono fun v L'' R' ⟨L', e, m, k', S, h1, h2, h3, h4, h5, h6, h7, h8⟩ => ⟨m, k', S, h1, h2, h3, h4, h5, h6, by rw [h7]; exact e, h8⟩
end Go.Proofs.Ytimnnhdeicpenaa
