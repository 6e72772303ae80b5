/-
  branch.Check, Fitting, Right, and the reference's. By an AI agent; no person has read it.
-/
import Derived.Test.YtimnnhdeicpenaaDoorC
set_option linter.unusedSimpArgs false
set_option linter.unusedVariables false
namespace Go.Proofs.Ytimnnhdeicpenaa
open Go.Aw Go
set_option maxRecDepth 20000
attribute [local irreducible] CJ LJ DJ Tri YV Gives seqK blockK loopK retK RV mergeK

def fanIn (n : Nat) (f : XFan) : Option Int := if fanErr f ≠ 0 then some (fanErr f) else if (n : Int) ≤ f.road then some 4 else none
def doorIn (n : Nat) (d : XDoor) : Option Int := if (n : Int) ≤ d.road then some 4 else none
/-- P9.1 -/
def airErr (x : XAir) : Int :=
  if mineErr x.mine ≠ 0 then mineErr x.mine else if 8 < x.fans.l.length then 2
  else match x.fans.l.findSome? (fanIn x.mine.roads.l.length) with
    | some e => e
    | none => if doorsErr x.doors.l ≠ 0 then doorsErr x.doors.l else (x.doors.l.findSome? (doorIn x.mine.roads.l.length)).getD 0

theorem airErr_fan {x : XAir} (h : mineErr x.mine = 0) (h8 : ¬ 8 < x.fans.l.length) {e : Int} (hf : x.fans.l.findSome? (fanIn x.mine.roads.l.length) = some e) : airErr x = e := by
  rw [airErr, if_neg (by omega), if_neg h8, hf]
theorem airErr_rest {x : XAir} (h : mineErr x.mine = 0) (h8 : ¬ 8 < x.fans.l.length) (hf : x.fans.l.findSome? (fanIn x.mine.roads.l.length) = none) :
    airErr x = if doorsErr x.doors.l ≠ 0 then doorsErr x.doors.l else (x.doors.l.findSome? (doorIn x.mine.roads.l.length)).getD 0 := by
  rw [airErr, if_neg (by omega), if_neg h8, hf]

theorem branchCheck_tri (x : XAir) (L : List Blk) (R : List Sl) (hm : AirR x R) :
    Tri Try.prog 17 [x.val].toArray L R (fun v L' R' => v = .int .i64 (airErr x) ∧ L = L' ∧ R = R') := by
  have hfa := hm.fans
  have hdo := hm.doors
  refine Tri_len Try.call17 hfa fun hfn => ?_
  refine Tri_len Try.call17 hdo fun hdn => ?_
  refine tri_enter 61 Try.call17 Try.func17 rfl rfl rfl ?_
  refine CJ_seq (CJ_region ?_)
  refine LJ_boxN rfl rfl ?_
  intro b1
  refine LJ_q (yv_assign (show _ = Value.int _ _ from rfl)) rfl ?_
  refine LJ_nil (seqK_normal (CJ_seq (CJ_seq (CJ_region ?_))))
  refine LJ_q (yv_field tb rfl rfl rfl) rfl ?_
  refine LJ_q (yv_loadN (row := [_, _]) tb rfl rfl rfl (by repeat (first | exact zi0 | apply zi1 | apply zi2)) (by rfl) (by rfl)) rfl ?_
  refine LJ_call rfl (planCheck_tri x.mine _ _ hm.mineR) rfl ?_
  rintro v L' R' ⟨rfl, rfl, rfl⟩
  refine LJ_q (yv_assign (show _ = Value.int _ _ from rfl)) rfl ?_
  refine LJ_nil (seqK_normal (CJ_seq (CJ_region ?_)))
  refine LJ_q (yv_move (show _ = Value.int _ _ from rfl)) rfl ?_
  refine LJ_q (yv_neq rfl rfl) rfl ?_
  refine LJ_nil (seqK_normal ?_)
  refine CJ_cond (show _ = Value.bool _ from rfl) (fun hc0 => ?_) (fun hc0 => ?_)
  ·
   try simp only [zb1, zb2, zb3, zb4, zb5, zb6, zb7, zb8] at hc0
   refine CJ_seq (CJ_region ?_)
   refine LJ_q (yv_move (show _ = Value.int _ _ from rfl)) rfl ?_
   refine LJ_q (yv_assign (show _ = Value.int _ _ from rfl)) rfl ?_
   refine LJ_nil (seqK_normal (CJ_ret (seqK_ret ?_)))
   refine retK_ret (L' := L) (R' := R) (res1 rfl (rv_tmp (show _ = Value.int _ _ from rfl))) ?hp ?hL ?hR
   case hp => exact ⟨by rw [airErr, if_pos hc0], rfl, rfl⟩
   case hL => exact (by repeat (first | exact zs0 _ | exact zs1 _ | apply zs2 | apply zs3 | apply zs4 | apply zs5))
   case hR => exact allR_self _
  ·
   try simp only [zb1, zb2, zb3, zb4, zb5, zb6, zb7, zb8] at hc0
   simp only [Decidable.not_not] at hc0
   refine CJ_skip (seqK_normal (CJ_seq (CJ_seq (CJ_region ?_))))
   refine LJ_q (yv_field tb rfl rfl rfl) rfl ?_
   refine LJ_q (yv_load1 tb rfl rfl rfl (by repeat (first | exact zi0 | apply zi1 | apply zi2)) (by rfl)) rfl ?_
   refine LJ_q (yv_len tb rfl rfl rfl) rfl ?_
   refine LJ_q (yv_gtr rfl rfl) rfl ?_
   refine LJ_nil (seqK_normal ?_)
   refine CJ_cond (show _ = Value.bool _ from rfl) (fun hc1 => ?_) (fun hc1 => ?_)
   ·
    try simp only [zb1, zb2, zb3, zb4, zb5, zb6, zb7, zb8] at hc1
    refine CJ_seq (CJ_region ?_)
    refine LJ_q (yv_assign (show _ = Value.int _ _ from rfl)) rfl ?_
    refine LJ_nil (seqK_normal (CJ_ret (seqK_ret ?_)))
    refine retK_ret (L' := L) (R' := R) (res1 rfl (rv_tmp (show _ = Value.int _ _ from rfl))) ?hp ?hL ?hR
    case hp => exact ⟨by rw [airErr, if_neg (by omega), if_pos (by omega)], rfl, rfl⟩
    case hL => exact (by repeat (first | exact zs0 _ | exact zs1 _ | apply zs2 | apply zs3 | apply zs4 | apply zs5))
    case hR => exact allR_self _
   ·
    try simp only [zb1, zb2, zb3, zb4, zb5, zb6, zb7, zb8] at hc1
    refine CJ_skip (seqK_normal (CJ_seq (CJ_seq (CJ_region ?_))))
    refine LJ_q (yv_field tb rfl rfl rfl) rfl ?_
    refine LJ_q (yv_load1 tb rfl rfl rfl (by repeat (first | exact zi0 | apply zi1 | apply zi2)) (by rfl)) rfl ?_
    refine LJ_q (yv_len tb rfl rfl rfl) rfl ?_
    refine LJ_q (yv_move (show _ = Value.int _ _ from rfl)) rfl ?_
    refine LJ_nil (seqK_normal (CJ_block ?_))
    refine CJ_forget [(1, Value.pointer _), (21, Value.slice _ _ _), (22, Value.int _ _), (23, Value.int _ _)] (by repeat' (first | exact trivial | refine And.intro rfl ?_)) fun tq0 => ?_
    refine CJ_loopS [2, 5, 6, 23, 24, 25, 26, 27, 28, 29, 30, 31, 32, 33, 34, 35, 36, 37, 38, 39] (fun g : FS (fanIn x.mine.roads.l.length) (x.fans.l) => [(23, .int .i64 ((g.1 : Nat) : Int))]) (fun g => (x.fans.l).length - g.1) ⟨0, FS_zero _ _⟩ (by repeat' (first | exact trivial | refine And.intro rfl ?_)) ?_
    rintro ⟨k0, hk0, hp0⟩ junk
    try dsimp only
    refine CJ_seq (CJ_region ?_)
    refine LJ_q (yv_lss rfl rfl) rfl ?_
    refine LJ_nil (seqK_normal (CJ_seq ?_))
    refine CJ_cond (show _ = Value.bool _ from rfl) (fun hc2 => ?_) (fun hc2 => ?_)
    ·
     try simp only [zb1, zb2, zb3, zb4, zb5, zb6, zb7, zb8] at hc2
     obtain ⟨f, hf⟩ := get_some (l := x.fans.l) (k := k0) (by omega)
     have hfr := InR.fan hfa hf
     refine CJ_skip (seqK_normal (CJ_seq (CJ_block (CJ_seq (CJ_region ?_)))))
     refine LJ_q (by first | exact yv_index_ro tb rfl rfl rfl rfl (by first | assumption | exact zr (by simp)) rfl (by omega) | exact yv_index tb rfl rfl rfl rfl rfl (by omega)) rfl ?_
     refine LJ_q (by first | exact yv_loadN_ro (row := [_, _, _, _]) tb rfl rfl rfl (by first | assumption | exact zr (by simp)) (by assumption) (by rfl) (by rfl) | exact yv_loadN (row := [_, _, _, _]) tb rfl rfl rfl (by repeat (first | exact zi0 | apply zi1 | apply zi2)) (by rfl) (by rfl)) rfl ?_
     refine LJ_alloc tb rfl rfl ?_
     intro b5
     refine LJ_storeW tb rfl rfl rfl rfl (by repeat (first | apply zu0 | apply zu1 | apply zu2)) (by rfl) (by rfl) ?_
     refine LJ_nil (seqK_normal (CJ_seq (CJ_seq (CJ_region ?_))))
     refine LJ_q (yv_loadN (row := [_, _, _, _]) tb rfl rfl rfl (by repeat (first | exact zi0 | apply zi1 | apply zi2)) (by rfl) (by rfl)) rfl ?_
     refine LJ_call rfl (fanCheck_tri f _ _ hfr) rfl ?_
     rintro v L' R' ⟨rfl, rfl, rfl⟩
     skip
     refine LJ_q (yv_assign (show _ = Value.int _ _ from rfl)) rfl ?_
     refine LJ_nil (seqK_normal (CJ_seq (CJ_region ?_)))
     refine LJ_q (yv_move (show _ = Value.int _ _ from rfl)) rfl ?_
     refine LJ_q (yv_neq rfl rfl) rfl ?_
     refine LJ_nil (seqK_normal ?_)
     refine CJ_cond (show _ = Value.bool _ from rfl) (fun hc3 => ?_) (fun hc3 => ?_)
     ·
      try simp only [zb1, zb2, zb3, zb4, zb5, zb6, zb7, zb8] at hc3
      refine CJ_seq (CJ_region ?_)
      refine LJ_q (yv_move (show _ = Value.int _ _ from rfl)) rfl ?_
      refine LJ_q (yv_assign (show _ = Value.int _ _ from rfl)) rfl ?_
      refine LJ_nil (seqK_normal (CJ_ret (seqK_ret (blockK_ret (seqK_ret (loopK_ret (blockK_ret (seqK_ret ?_))))))))
      refine retK_ret (L' := L) (R' := R) (res1 rfl (rv_tmp (show _ = Value.int _ _ from rfl))) ?hp ?hL ?hR
      case hp => exact ⟨by rw [airErr_fan hc0 (by omega) (FS_some hp0 hf (if_pos hc3))], rfl, rfl⟩
      case hL => exact (by repeat (first | exact zs0 _ | exact zs1 _ | apply zs2 | apply zs3 | apply zs4 | apply zs5))
      case hR => exact allR_self _
     ·
      try simp only [zb1, zb2, zb3, zb4, zb5, zb6, zb7, zb8] at hc3
      refine CJ_skip (seqK_normal (CJ_seq (CJ_region ?_)))
      refine LJ_q (yv_field tb rfl rfl rfl) rfl ?_
      refine LJ_q (yv_load1 tb rfl rfl rfl (by repeat (first | exact zi0 | apply zi1 | apply zi2)) (by rfl)) rfl ?_
      refine LJ_q (yv_field tb rfl rfl rfl) rfl ?_
      refine LJ_q (yv_field tb rfl rfl rfl) rfl ?_
      refine LJ_q (yv_load1 tb rfl rfl rfl (by repeat (first | exact zi0 | apply zi1 | apply zi2)) (by rfl)) rfl ?_
      refine LJ_q (yv_len tb rfl rfl rfl) rfl ?_
      refine LJ_q (yv_geq rfl rfl) rfl ?_
      refine LJ_nil (seqK_normal ?_)
      refine CJ_cond (show _ = Value.bool _ from rfl) (fun hc4 => ?_) (fun hc4 => ?_)
      ·
       try simp only [zb1, zb2, zb3, zb4, zb5, zb6, zb7, zb8] at hc4
       refine CJ_seq (CJ_region ?_)
       refine LJ_q (yv_assign (show _ = Value.int _ _ from rfl)) rfl ?_
       refine LJ_nil (seqK_normal (CJ_ret (blockK_ret (seqK_ret (loopK_ret (blockK_ret (seqK_ret ?_)))))))
       refine retK_ret (L' := L) (R' := R) (res1 rfl (rv_tmp (show _ = Value.int _ _ from rfl))) ?hp ?hL ?hR
       case hp => exact ⟨by rw [airErr_fan hc0 (by omega) (FS_some hp0 hf ((if_neg hc3).trans (if_pos hc4)))], rfl, rfl⟩
       case hL => exact (by repeat (first | exact zs0 _ | exact zs1 _ | apply zs2 | apply zs3 | apply zs4 | apply zs5))
       case hR => exact allR_self _
      ·
       try simp only [zb1, zb2, zb3, zb4, zb5, zb6, zb7, zb8] at hc4
       refine CJ_skip (blockK_normal (seqK_normal (CJ_region ?_)))
       refine LJ_q (by first | exact yv_add64 rfl rfl (by omega) (by omega) | exact yv_addU rfl rfl (by omega) (by omega) | exact yv_add rfl rfl) rfl ?_
       refine LJ_q (yv_move (show _ = Value.int _ _ from rfl)) rfl ?_
       refine LJ_nil ?_
       exact loopK_mk ⟨k0 + 1, FS_next hp0 hf ((if_neg hc3).trans (if_neg hc4))⟩ (by repeat (first | exact Off.refl | apply Off.upd rfl | apply Off.havoc rfl | apply Off.updL rfl | apply Off.left rfl)) (by repeat' (first | exact trivial | refine And.intro rfl ?_)) (by repeat (first | exact zs0 _ | exact zs1 _ | apply zs2 | apply zs3 | apply zs4 | apply zs5)) (allR_self _) (by dsimp only; omega)
    ·
     try simp only [zb1, zb2, zb3, zb4, zb5, zb6, zb7, zb8] at hc2
     have hn0 := FS_none hp0 (by omega)
     have hr := airErr_rest hc0 (by omega) hn0
     refine CJ_exit (seqK_exit (loopK_exit (blockK_exit (seqK_normal (CJ_seq (CJ_seq (CJ_region ?_)))))))
     refine LJ_q (yv_field tb rfl rfl rfl) rfl ?_
     refine LJ_q (yv_load1 tb rfl rfl rfl (by repeat (first | exact zi0 | apply zi1 | apply zi2)) (by rfl)) rfl ?_
     refine LJ_call rfl (doorCheck_tri x.doors _ _ hdo) rfl ?_
     rintro v L' R' ⟨rfl, rfl, rfl⟩
     refine LJ_q (yv_assign (show _ = Value.int _ _ from rfl)) rfl ?_
     refine LJ_nil (seqK_normal (CJ_seq (CJ_region ?_)))
     refine LJ_q (yv_move (show _ = Value.int _ _ from rfl)) rfl ?_
     refine LJ_q (yv_neq rfl rfl) rfl ?_
     refine LJ_nil (seqK_normal ?_)
     refine CJ_cond (show _ = Value.bool _ from rfl) (fun hc5 => ?_) (fun hc5 => ?_)
     ·
      try simp only [zb1, zb2, zb3, zb4, zb5, zb6, zb7, zb8] at hc5
      refine CJ_seq (CJ_region ?_)
      refine LJ_q (yv_move (show _ = Value.int _ _ from rfl)) rfl ?_
      refine LJ_q (yv_assign (show _ = Value.int _ _ from rfl)) rfl ?_
      refine LJ_nil (seqK_normal (CJ_ret (seqK_ret ?_)))
      refine retK_ret (L' := L) (R' := R) (res1 rfl (rv_tmp (show _ = Value.int _ _ from rfl))) ?hp ?hL ?hR
      case hp => exact ⟨by rw [hr, if_pos hc5], rfl, rfl⟩
      case hL => exact (by repeat (first | exact zs0 _ | exact zs1 _ | apply zs2 | apply zs3 | apply zs4 | apply zs5))
      case hR => exact allR_self _
     ·
      try simp only [zb1, zb2, zb3, zb4, zb5, zb6, zb7, zb8] at hc5
      rw [if_neg hc5] at hr
      refine CJ_skip (seqK_normal (CJ_seq (CJ_seq (CJ_region ?_))))
      refine LJ_q (yv_field tb rfl rfl rfl) rfl ?_
      refine LJ_q (yv_load1 tb rfl rfl rfl (by repeat (first | exact zi0 | apply zi1 | apply zi2)) (by rfl)) rfl ?_
      refine LJ_q (yv_len tb rfl rfl rfl) rfl ?_
      refine LJ_q (yv_move (show _ = Value.int _ _ from rfl)) rfl ?_
      refine LJ_nil (seqK_normal (CJ_block ?_))
      refine CJ_forget [(1, Value.pointer _), (47, Value.slice _ _ _), (48, Value.int _ _), (49, Value.int _ _)] (by repeat' (first | exact trivial | refine And.intro rfl ?_)) fun tq1 => ?_
      refine CJ_loopS [2, 9, 49, 50, 51, 52, 53, 54, 55, 56, 57, 58, 59, 60] (fun g : FS (doorIn x.mine.roads.l.length) (x.doors.l) => [(49, .int .i64 ((g.1 : Nat) : Int))]) (fun g => (x.doors.l).length - g.1) ⟨0, FS_zero _ _⟩ (by repeat' (first | exact trivial | refine And.intro rfl ?_)) ?_
      rintro ⟨k1, hk1, hp1⟩ junk
      try dsimp only
      refine CJ_seq (CJ_region ?_)
      refine LJ_q (yv_lss rfl rfl) rfl ?_
      refine LJ_nil (seqK_normal (CJ_seq ?_))
      refine CJ_cond (show _ = Value.bool _ from rfl) (fun hc6 => ?_) (fun hc6 => ?_)
      ·
       try simp only [zb1, zb2, zb3, zb4, zb5, zb6, zb7, zb8] at hc6
       obtain ⟨d, hd⟩ := get_some (l := x.doors.l) (k := k1) (by omega)
       refine CJ_skip (seqK_normal (CJ_seq (CJ_block (CJ_seq (CJ_region ?_)))))
       refine LJ_q (by first | exact yv_index_ro tb rfl rfl rfl rfl (by first | assumption | exact zr (by simp)) rfl (by omega) | exact yv_index tb rfl rfl rfl rfl rfl (by omega)) rfl ?_
       refine LJ_q (by first | exact yv_loadN_ro (row := [_, _, _]) tb rfl rfl rfl (by first | assumption | exact zr (by simp)) (by assumption) (by rfl) (by rfl) | exact yv_loadN (row := [_, _, _]) tb rfl rfl rfl (by repeat (first | exact zi0 | apply zi1 | apply zi2)) (by rfl) (by rfl)) rfl ?_
       refine LJ_alloc tb rfl rfl ?_
       intro b9
       refine LJ_storeW tb rfl rfl rfl rfl (by repeat (first | apply zu0 | apply zu1 | apply zu2)) (by rfl) (by rfl) ?_
       refine LJ_nil (seqK_normal (CJ_seq (CJ_region ?_)))
       refine LJ_q (yv_field tb rfl rfl rfl) rfl ?_
       refine LJ_q (yv_load1 tb rfl rfl rfl (by repeat (first | exact zi0 | apply zi1 | apply zi2)) (by rfl)) rfl ?_
       refine LJ_q (yv_field tb rfl rfl rfl) rfl ?_
       refine LJ_q (yv_field tb rfl rfl rfl) rfl ?_
       refine LJ_q (yv_load1 tb rfl rfl rfl (by repeat (first | exact zi0 | apply zi1 | apply zi2)) (by rfl)) rfl ?_
       refine LJ_q (yv_len tb rfl rfl rfl) rfl ?_
       refine LJ_q (yv_geq rfl rfl) rfl ?_
       refine LJ_nil (seqK_normal ?_)
       refine CJ_cond (show _ = Value.bool _ from rfl) (fun hc7 => ?_) (fun hc7 => ?_)
       ·
        try simp only [zb1, zb2, zb3, zb4, zb5, zb6, zb7, zb8] at hc7
        refine CJ_seq (CJ_region ?_)
        refine LJ_q (yv_assign (show _ = Value.int _ _ from rfl)) rfl ?_
        refine LJ_nil (seqK_normal (CJ_ret (blockK_ret (seqK_ret (loopK_ret (blockK_ret (seqK_ret ?_)))))))
        refine retK_ret (L' := L) (R' := R) (res1 rfl (rv_tmp (show _ = Value.int _ _ from rfl))) ?hp ?hL ?hR
        case hp => exact ⟨by rw [hr, FS_some hp1 hd (if_pos hc7)]; rfl, rfl, rfl⟩
        case hL => exact (by repeat (first | exact zs0 _ | exact zs1 _ | apply zs2 | apply zs3 | apply zs4 | apply zs5))
        case hR => exact allR_self _
       ·
        try simp only [zb1, zb2, zb3, zb4, zb5, zb6, zb7, zb8] at hc7
        refine CJ_skip (blockK_normal (seqK_normal (CJ_region ?_)))
        refine LJ_q (by first | exact yv_add64 rfl rfl (by omega) (by omega) | exact yv_addU rfl rfl (by omega) (by omega) | exact yv_add rfl rfl) rfl ?_
        refine LJ_q (yv_move (show _ = Value.int _ _ from rfl)) rfl ?_
        refine LJ_nil ?_
        exact loopK_mk ⟨k1 + 1, FS_next hp1 hd (if_neg hc7)⟩ (by repeat (first | exact Off.refl | apply Off.upd rfl | apply Off.havoc rfl | apply Off.updL rfl | apply Off.left rfl)) (by repeat' (first | exact trivial | refine And.intro rfl ?_)) (by repeat (first | exact zs0 _ | exact zs1 _ | apply zs2 | apply zs3 | apply zs4 | apply zs5)) (allR_self _) (by dsimp only; omega)
      ·
       try simp only [zb1, zb2, zb3, zb4, zb5, zb6, zb7, zb8] at hc6
       have hn1 := FS_none hp1 (by omega)
       refine CJ_exit (seqK_exit (loopK_exit (blockK_exit (seqK_normal (CJ_seq (CJ_region ?_))))))
       refine LJ_q (yv_assign (show _ = Value.int _ _ from rfl)) rfl ?_
       refine LJ_nil (seqK_normal (CJ_ret ?_))
       refine retK_ret (L' := L) (R' := R) (res1 rfl (rv_tmp (show _ = Value.int _ _ from rfl))) ?hp ?hL ?hR
       case hp => exact ⟨by rw [hr, hn1]; rfl, rfl, rfl⟩
       case hL => exact (by repeat (first | exact zs0 _ | exact zs1 _ | apply zs2 | apply zs3 | apply zs4 | apply zs5))
       case hR => exact allR_self _

theorem ref09Check_tri (x : XAir) (L : List Blk) (R : List Sl) (hm : AirR x R) :
    Tri Try.prog 18 [x.val].toArray L R (fun v L' R' => v = .int .i64 (airErr x) ∧ L = L' ∧ R = R') := by
  have hfa := hm.fans
  have hdo := hm.doors
  refine Tri_len Try.call18 hfa fun hfn => ?_
  refine Tri_len Try.call18 hdo fun hdn => ?_
  refine tri_enter 69 Try.call18 Try.func18 rfl rfl rfl ?_
  refine CJ_seq (CJ_region ?_)
  refine LJ_boxN rfl rfl ?_
  intro b1
  refine LJ_q (yv_assign (show _ = Value.int _ _ from rfl)) rfl ?_
  refine LJ_nil (seqK_normal (CJ_seq (CJ_seq (CJ_region ?_))))
  refine LJ_q (yv_field tb rfl rfl rfl) rfl ?_
  refine LJ_q (yv_loadN (row := [_, _]) tb rfl rfl rfl (by repeat (first | exact zi0 | apply zi1 | apply zi2)) (by rfl) (by rfl)) rfl ?_
  refine LJ_call rfl (ref01Check_tri x.mine _ _ hm.mineR) rfl ?_
  rintro v L' R' ⟨rfl, rfl, rfl⟩
  refine LJ_q (yv_assign (show _ = Value.int _ _ from rfl)) rfl ?_
  refine LJ_nil (seqK_normal (CJ_seq (CJ_region ?_)))
  refine LJ_q (yv_move (show _ = Value.int _ _ from rfl)) rfl ?_
  refine LJ_q (yv_neq rfl rfl) rfl ?_
  refine LJ_nil (seqK_normal ?_)
  refine CJ_cond (show _ = Value.bool _ from rfl) (fun hc0 => ?_) (fun hc0 => ?_)
  ·
   try simp only [zb1, zb2, zb3, zb4, zb5, zb6, zb7, zb8] at hc0
   refine CJ_seq (CJ_region ?_)
   refine LJ_q (yv_move (show _ = Value.int _ _ from rfl)) rfl ?_
   refine LJ_q (yv_assign (show _ = Value.int _ _ from rfl)) rfl ?_
   refine LJ_nil (seqK_normal (CJ_ret (seqK_ret ?_)))
   refine retK_ret (L' := L) (R' := R) (res1 rfl (rv_tmp (show _ = Value.int _ _ from rfl))) ?hp ?hL ?hR
   case hp => exact ⟨by rw [airErr, if_pos hc0], rfl, rfl⟩
   case hL => exact (by repeat (first | exact zs0 _ | exact zs1 _ | apply zs2 | apply zs3 | apply zs4 | apply zs5))
   case hR => exact allR_self _
  ·
   try simp only [zb1, zb2, zb3, zb4, zb5, zb6, zb7, zb8] at hc0
   simp only [Decidable.not_not] at hc0
   refine CJ_skip (seqK_normal (CJ_seq (CJ_seq (CJ_region ?_))))
   refine LJ_q (yv_field tb rfl rfl rfl) rfl ?_
   refine LJ_q (yv_load1 tb rfl rfl rfl (by repeat (first | exact zi0 | apply zi1 | apply zi2)) (by rfl)) rfl ?_
   refine LJ_q (yv_len tb rfl rfl rfl) rfl ?_
   refine LJ_q (yv_gtr rfl rfl) rfl ?_
   refine LJ_nil (seqK_normal ?_)
   refine CJ_cond (show _ = Value.bool _ from rfl) (fun hc1 => ?_) (fun hc1 => ?_)
   ·
    try simp only [zb1, zb2, zb3, zb4, zb5, zb6, zb7, zb8] at hc1
    refine CJ_seq (CJ_region ?_)
    refine LJ_q (yv_assign (show _ = Value.int _ _ from rfl)) rfl ?_
    refine LJ_nil (seqK_normal (CJ_ret (seqK_ret ?_)))
    refine retK_ret (L' := L) (R' := R) (res1 rfl (rv_tmp (show _ = Value.int _ _ from rfl))) ?hp ?hL ?hR
    case hp => exact ⟨by rw [airErr, if_neg (by omega), if_pos (by omega)], rfl, rfl⟩
    case hL => exact (by repeat (first | exact zs0 _ | exact zs1 _ | apply zs2 | apply zs3 | apply zs4 | apply zs5))
    case hR => exact allR_self _
   ·
    try simp only [zb1, zb2, zb3, zb4, zb5, zb6, zb7, zb8] at hc1
    refine CJ_skip (seqK_normal (CJ_seq (CJ_seq (CJ_region ?_))))
    refine LJ_q (yv_assign (show _ = Value.int _ _ from rfl)) rfl ?_
    refine LJ_nil (seqK_normal (CJ_block ?_))
    refine CJ_forget [(1, Value.pointer _), (4, Value.int _ _)] (by repeat' (first | exact trivial | refine And.intro rfl ?_)) fun tq0 => ?_
    refine CJ_loopS [2, 4, 5, 18, 19, 20, 21, 22, 23, 24, 25, 26, 27, 28, 29, 30, 31, 32, 33, 34, 35, 36, 37, 38, 39, 40, 41, 42, 43, 44] (fun g : FS (fanIn x.mine.roads.l.length) (x.fans.l) => [(4, .int .i64 ((g.1 : Nat) : Int))]) (fun g => (x.fans.l).length - g.1) ⟨0, FS_zero _ _⟩ (by repeat' (first | exact trivial | refine And.intro rfl ?_)) ?_
    rintro ⟨k0, hk0, hp0⟩ junk
    try dsimp only
    refine CJ_seq (CJ_seq (CJ_region ?_))
    refine LJ_q (yv_move (show _ = Value.int _ _ from rfl)) rfl ?_
    refine LJ_q (yv_field tb rfl rfl rfl) rfl ?_
    refine LJ_q (yv_load1 tb rfl rfl rfl (by repeat (first | exact zi0 | apply zi1 | apply zi2)) (by rfl)) rfl ?_
    refine LJ_q (yv_len tb rfl rfl rfl) rfl ?_
    refine LJ_q (yv_lss rfl rfl) rfl ?_
    refine LJ_nil (seqK_normal ?_)
    refine CJ_cond (show _ = Value.bool _ from rfl) (fun hc2 => ?_) (fun hc2 => ?_)
    ·
     try simp only [zb1, zb2, zb3, zb4, zb5, zb6, zb7, zb8] at hc2
     obtain ⟨f, hf⟩ := get_some (l := x.fans.l) (k := k0) (by omega)
     have hfr := InR.fan hfa hf
     refine CJ_skip (seqK_normal (CJ_seq (CJ_block (CJ_seq (CJ_seq (CJ_region ?_))))))
     refine LJ_q (yv_field tb rfl rfl rfl) rfl ?_
     refine LJ_q (yv_load1 tb rfl rfl rfl (by repeat (first | exact zi0 | apply zi1 | apply zi2)) (by rfl)) rfl ?_
     refine LJ_q (yv_move (show _ = Value.int _ _ from rfl)) rfl ?_
     refine LJ_q (by first | exact yv_index_ro tb rfl rfl rfl rfl (by first | assumption | exact zr (by simp)) rfl (by omega) | exact yv_index tb rfl rfl rfl rfl rfl (by omega)) rfl ?_
     refine LJ_q (by first | exact yv_loadN_ro (row := [_, _, _, _]) tb rfl rfl rfl (by first | assumption | exact zr (by simp)) (by assumption) (by rfl) (by rfl) | exact yv_loadN (row := [_, _, _, _]) tb rfl rfl rfl (by repeat (first | exact zi0 | apply zi1 | apply zi2)) (by rfl) (by rfl)) rfl ?_
     refine LJ_call rfl (ref07Check_tri f _ _ hfr) rfl ?_
     rintro v L' R' ⟨rfl, rfl, rfl⟩
     refine LJ_q (yv_assign (show _ = Value.int _ _ from rfl)) rfl ?_
     refine LJ_nil (seqK_normal (CJ_seq (CJ_region ?_)))
     refine LJ_q (yv_move (show _ = Value.int _ _ from rfl)) rfl ?_
     refine LJ_q (yv_neq rfl rfl) rfl ?_
     refine LJ_nil (seqK_normal ?_)
     refine CJ_cond (show _ = Value.bool _ from rfl) (fun hc3 => ?_) (fun hc3 => ?_)
     ·
      try simp only [zb1, zb2, zb3, zb4, zb5, zb6, zb7, zb8] at hc3
      refine CJ_seq (CJ_region ?_)
      refine LJ_q (yv_move (show _ = Value.int _ _ from rfl)) rfl ?_
      refine LJ_q (yv_assign (show _ = Value.int _ _ from rfl)) rfl ?_
      refine LJ_nil (seqK_normal (CJ_ret (seqK_ret (blockK_ret (seqK_ret (loopK_ret (blockK_ret (seqK_ret ?_))))))))
      refine retK_ret (L' := L) (R' := R) (res1 rfl (rv_tmp (show _ = Value.int _ _ from rfl))) ?hp ?hL ?hR
      case hp => exact ⟨by rw [airErr_fan hc0 (by omega) (FS_some hp0 hf (if_pos hc3))], rfl, rfl⟩
      case hL => exact (by repeat (first | exact zs0 _ | exact zs1 _ | apply zs2 | apply zs3 | apply zs4 | apply zs5))
      case hR => exact allR_self _
     ·
      try simp only [zb1, zb2, zb3, zb4, zb5, zb6, zb7, zb8] at hc3
      refine CJ_skip (seqK_normal (CJ_seq ?_))
      refine CJ_drawn tb [0, 1, 2, 3, 4, 5, 6, 7, 8, 9, 10] _ mixed (by kernel_rfl) (List.Sublist.refl _) ?_
      refine DJ_q (yv_field tb rfl rfl rfl) rfl rfl rfl ?_
      refine DJ_q (yv_load1 tb rfl rfl rfl (by repeat (first | exact zi0 | apply zi1 | apply zi2)) (by rfl)) rfl rfl rfl ?_
      refine DJ_q (yv_move (show _ = Value.int _ _ from rfl)) rfl rfl rfl ?_
      refine DJ_q (by first | exact yv_index_ro tb rfl rfl rfl rfl (by first | assumption | exact zr (by simp)) rfl (by omega) | exact yv_index tb rfl rfl rfl rfl rfl (by omega)) rfl rfl rfl ?_
      refine DJ_q (yv_field_eo tb rfl rfl rfl) rfl rfl rfl ?_
      refine DJ_q (by first | exact yv_load1_ro tb rfl rfl rfl (by first | assumption | exact zr (by simp)) (by assumption) (by rfl) | exact yv_load1 tb rfl rfl rfl (by repeat (first | exact zi0 | apply zi1 | apply zi2)) (by rfl) | exact yv_load1 tb rfl rfl rfl (by repeat (first | exact zi0 | apply zi1 | apply zi2)) (icell_get (by assumption)) | exact yv_load1 tb rfl rfl rfl (by repeat (first | exact zi0 | apply zi1 | apply zi2)) (rcell_get (fun _ => rfl) (by assumption) rfl)) rfl rfl rfl ?_
      refine DJ_q (yv_field tb rfl rfl rfl) rfl rfl rfl ?_
      refine DJ_q (yv_field tb rfl rfl rfl) rfl rfl rfl ?_
      refine DJ_q (yv_load1 tb rfl rfl rfl (by repeat (first | exact zi0 | apply zi1 | apply zi2)) (by rfl)) rfl rfl rfl ?_
      refine DJ_q (yv_len tb rfl rfl rfl) rfl rfl rfl ?_
      refine DJ_q (yv_geq rfl rfl) rfl rfl rfl ?_
      refine DJ_nil (seqK_normal ?_)
      refine CJ_cond (show _ = Value.bool _ from rfl) (fun hc4 => ?_) (fun hc4 => ?_)
      ·
       try simp only [zb1, zb2, zb3, zb4, zb5, zb6, zb7, zb8] at hc4
       refine CJ_seq (CJ_region ?_)
       refine LJ_q (yv_assign (show _ = Value.int _ _ from rfl)) rfl ?_
       refine LJ_nil (seqK_normal (CJ_ret (blockK_ret (seqK_ret (loopK_ret (blockK_ret (seqK_ret ?_)))))))
       refine retK_ret (L' := L) (R' := R) (res1 rfl (rv_tmp (show _ = Value.int _ _ from rfl))) ?hp ?hL ?hR
       case hp => exact ⟨by rw [airErr_fan hc0 (by omega) (FS_some hp0 hf ((if_neg hc3).trans (if_pos hc4)))], rfl, rfl⟩
       case hL => exact (by repeat (first | exact zs0 _ | exact zs1 _ | apply zs2 | apply zs3 | apply zs4 | apply zs5))
       case hR => exact allR_self _
      ·
       try simp only [zb1, zb2, zb3, zb4, zb5, zb6, zb7, zb8] at hc4
       refine CJ_skip (blockK_normal (seqK_normal (CJ_region ?_)))
       refine LJ_q (yv_move (show _ = Value.int _ _ from rfl)) rfl ?_
       refine LJ_q (by first | exact yv_add64 rfl rfl (by omega) (by omega) | exact yv_addU rfl rfl (by omega) (by omega) | exact yv_add rfl rfl) rfl ?_
       refine LJ_q (yv_assign (show _ = Value.int _ _ from rfl)) rfl ?_
       refine LJ_nil ?_
       exact loopK_mk ⟨k0 + 1, FS_next hp0 hf ((if_neg hc3).trans (if_neg hc4))⟩ (by repeat (first | exact Off.refl | apply Off.upd rfl | apply Off.havoc rfl | apply Off.updL rfl | apply Off.left rfl)) (by repeat' (first | exact trivial | refine And.intro rfl ?_)) (by repeat (first | exact zs0 _ | exact zs1 _ | apply zs2 | apply zs3 | apply zs4 | apply zs5)) (allR_self _) (by dsimp only; omega)
    ·
     try simp only [zb1, zb2, zb3, zb4, zb5, zb6, zb7, zb8] at hc2
     have hn0 := FS_none hp0 (by omega)
     have hr := airErr_rest hc0 (by omega) hn0
     refine CJ_exit (seqK_exit (loopK_exit (blockK_exit (seqK_normal (CJ_seq (CJ_seq (CJ_region ?_)))))))
     refine LJ_q (yv_field tb rfl rfl rfl) rfl ?_
     refine LJ_q (yv_load1 tb rfl rfl rfl (by repeat (first | exact zi0 | apply zi1 | apply zi2)) (by rfl)) rfl ?_
     refine LJ_call rfl (ref08Check_tri x.doors _ _ hdo) rfl ?_
     rintro v L' R' ⟨rfl, rfl, rfl⟩
     refine LJ_q (yv_assign (show _ = Value.int _ _ from rfl)) rfl ?_
     refine LJ_nil (seqK_normal (CJ_seq (CJ_region ?_)))
     refine LJ_q (yv_move (show _ = Value.int _ _ from rfl)) rfl ?_
     refine LJ_q (yv_neq rfl rfl) rfl ?_
     refine LJ_nil (seqK_normal ?_)
     refine CJ_cond (show _ = Value.bool _ from rfl) (fun hc5 => ?_) (fun hc5 => ?_)
     ·
      try simp only [zb1, zb2, zb3, zb4, zb5, zb6, zb7, zb8] at hc5
      refine CJ_seq (CJ_region ?_)
      refine LJ_q (yv_move (show _ = Value.int _ _ from rfl)) rfl ?_
      refine LJ_q (yv_assign (show _ = Value.int _ _ from rfl)) rfl ?_
      refine LJ_nil (seqK_normal (CJ_ret (seqK_ret ?_)))
      refine retK_ret (L' := L) (R' := R) (res1 rfl (rv_tmp (show _ = Value.int _ _ from rfl))) ?hp ?hL ?hR
      case hp => exact ⟨by rw [hr, if_pos hc5], rfl, rfl⟩
      case hL => exact (by repeat (first | exact zs0 _ | exact zs1 _ | apply zs2 | apply zs3 | apply zs4 | apply zs5))
      case hR => exact allR_self _
     ·
      try simp only [zb1, zb2, zb3, zb4, zb5, zb6, zb7, zb8] at hc5
      rw [if_neg hc5] at hr
      refine CJ_skip (seqK_normal (CJ_seq (CJ_seq (CJ_region ?_))))
      refine LJ_q (yv_assign (show _ = Value.int _ _ from rfl)) rfl ?_
      refine LJ_nil (seqK_normal (CJ_block ?_))
      refine CJ_forget [(1, Value.pointer _), (7, Value.int _ _)] (by repeat' (first | exact trivial | refine And.intro rfl ?_)) fun tq1 => ?_
      refine CJ_loopS [2, 7, 51, 52, 53, 54, 55, 56, 57, 58, 59, 60, 61, 62, 63, 64, 65, 66, 67, 68] (fun g : FS (doorIn x.mine.roads.l.length) (x.doors.l) => [(7, .int .i64 ((g.1 : Nat) : Int))]) (fun g => (x.doors.l).length - g.1) ⟨0, FS_zero _ _⟩ (by repeat' (first | exact trivial | refine And.intro rfl ?_)) ?_
      rintro ⟨k1, hk1, hp1⟩ junk
      try dsimp only
      refine CJ_seq (CJ_seq (CJ_region ?_))
      refine LJ_q (yv_move (show _ = Value.int _ _ from rfl)) rfl ?_
      refine LJ_q (yv_field tb rfl rfl rfl) rfl ?_
      refine LJ_q (yv_load1 tb rfl rfl rfl (by repeat (first | exact zi0 | apply zi1 | apply zi2)) (by rfl)) rfl ?_
      refine LJ_q (yv_len tb rfl rfl rfl) rfl ?_
      refine LJ_q (yv_lss rfl rfl) rfl ?_
      refine LJ_nil (seqK_normal ?_)
      refine CJ_cond (show _ = Value.bool _ from rfl) (fun hc6 => ?_) (fun hc6 => ?_)
      ·
       try simp only [zb1, zb2, zb3, zb4, zb5, zb6, zb7, zb8] at hc6
       obtain ⟨d, hd⟩ := get_some (l := x.doors.l) (k := k1) (by omega)
       refine CJ_skip (seqK_normal (CJ_seq (CJ_block (CJ_seq ?_))))
       refine CJ_drawn tb [0, 1, 2, 3, 4, 5, 6, 7, 8, 9, 10] _ mixed (by kernel_rfl) (List.Sublist.refl _) ?_
       refine DJ_q (yv_field tb rfl rfl rfl) rfl rfl rfl ?_
       refine DJ_q (yv_load1 tb rfl rfl rfl (by repeat (first | exact zi0 | apply zi1 | apply zi2)) (by rfl)) rfl rfl rfl ?_
       refine DJ_q (yv_move (show _ = Value.int _ _ from rfl)) rfl rfl rfl ?_
       refine DJ_q (by first | exact yv_index_ro tb rfl rfl rfl rfl (by first | assumption | exact zr (by simp)) rfl (by omega) | exact yv_index tb rfl rfl rfl rfl rfl (by omega)) rfl rfl rfl ?_
       refine DJ_q (yv_field_eo tb rfl rfl rfl) rfl rfl rfl ?_
       refine DJ_q (by first | exact yv_load1_ro tb rfl rfl rfl (by first | assumption | exact zr (by simp)) (by assumption) (by rfl) | exact yv_load1 tb rfl rfl rfl (by repeat (first | exact zi0 | apply zi1 | apply zi2)) (by rfl) | exact yv_load1 tb rfl rfl rfl (by repeat (first | exact zi0 | apply zi1 | apply zi2)) (icell_get (by assumption)) | exact yv_load1 tb rfl rfl rfl (by repeat (first | exact zi0 | apply zi1 | apply zi2)) (rcell_get (fun _ => rfl) (by assumption) rfl)) rfl rfl rfl ?_
       refine DJ_q (yv_field tb rfl rfl rfl) rfl rfl rfl ?_
       refine DJ_q (yv_field tb rfl rfl rfl) rfl rfl rfl ?_
       refine DJ_q (yv_load1 tb rfl rfl rfl (by repeat (first | exact zi0 | apply zi1 | apply zi2)) (by rfl)) rfl rfl rfl ?_
       refine DJ_q (yv_len tb rfl rfl rfl) rfl rfl rfl ?_
       refine DJ_q (yv_geq rfl rfl) rfl rfl rfl ?_
       refine DJ_nil (seqK_normal ?_)
       refine CJ_cond (show _ = Value.bool _ from rfl) (fun hc7 => ?_) (fun hc7 => ?_)
       ·
        try simp only [zb1, zb2, zb3, zb4, zb5, zb6, zb7, zb8] at hc7
        refine CJ_seq (CJ_region ?_)
        refine LJ_q (yv_assign (show _ = Value.int _ _ from rfl)) rfl ?_
        refine LJ_nil (seqK_normal (CJ_ret (blockK_ret (seqK_ret (loopK_ret (blockK_ret (seqK_ret ?_)))))))
        refine retK_ret (L' := L) (R' := R) (res1 rfl (rv_tmp (show _ = Value.int _ _ from rfl))) ?hp ?hL ?hR
        case hp => exact ⟨by rw [hr, FS_some hp1 hd (if_pos hc7)]; rfl, rfl, rfl⟩
        case hL => exact (by repeat (first | exact zs0 _ | exact zs1 _ | apply zs2 | apply zs3 | apply zs4 | apply zs5))
        case hR => exact allR_self _
       ·
        try simp only [zb1, zb2, zb3, zb4, zb5, zb6, zb7, zb8] at hc7
        refine CJ_skip (blockK_normal (seqK_normal (CJ_region ?_)))
        refine LJ_q (yv_move (show _ = Value.int _ _ from rfl)) rfl ?_
        refine LJ_q (by first | exact yv_add64 rfl rfl (by omega) (by omega) | exact yv_addU rfl rfl (by omega) (by omega) | exact yv_add rfl rfl) rfl ?_
        refine LJ_q (yv_assign (show _ = Value.int _ _ from rfl)) rfl ?_
        refine LJ_nil ?_
        exact loopK_mk ⟨k1 + 1, FS_next hp1 hd (if_neg hc7)⟩ (by repeat (first | exact Off.refl | apply Off.upd rfl | apply Off.havoc rfl | apply Off.updL rfl | apply Off.left rfl)) (by repeat' (first | exact trivial | refine And.intro rfl ?_)) (by repeat (first | exact zs0 _ | exact zs1 _ | apply zs2 | apply zs3 | apply zs4 | apply zs5)) (allR_self _) (by dsimp only; omega)
      ·
       try simp only [zb1, zb2, zb3, zb4, zb5, zb6, zb7, zb8] at hc6
       have hn1 := FS_none hp1 (by omega)
       refine CJ_exit (seqK_exit (loopK_exit (blockK_exit (seqK_normal (CJ_seq (CJ_region ?_))))))
       refine LJ_q (yv_assign (show _ = Value.int _ _ from rfl)) rfl ?_
       refine LJ_nil (seqK_normal (CJ_ret ?_))
       refine retK_ret (L' := L) (R' := R) (res1 rfl (rv_tmp (show _ = Value.int _ _ from rfl))) ?hp ?hL ?hR
       case hp => exact ⟨by rw [hr, hn1]; rfl, rfl, rfl⟩
       case hL => exact (by repeat (first | exact zs0 _ | exact zs1 _ | apply zs2 | apply zs3 | apply zs4 | apply zs5))
       case hR => exact allR_self _

def fanStBad (x : Int) : Option Unit := if x < -1 ∨ 2 < x then some () else none
def doorStBad (l : List XDoor) (s : List Int) (i : Nat) : Option Unit :=
  match s[i]?, l[i]? with
  | some y, some d => if y < -1 ∨ (d.rests.l.length : Int) ≤ y then some () else none
  | _, _ => none
/-- a state for each fan and door -/
def fitB (a : XAir) (s : XSetting) : Bool :=
  if s.fans.l.length ≠ a.fans.l.length ∨ s.doors.l.length ≠ a.doors.l.length then false
  else (s.fans.l.findSome? fanStBad).isNone && ((List.range s.doors.l.length).findSome? (doorStBad a.doors.l s.doors.l)).isNone
/-- P9.1 -/
def rightB (a : XAir) (s : XSetting) : Bool := decide (airErr a = 0) && fitB a s

theorem doorStBad_at {l : List XDoor} {s : List Int} {i : Nat} {y : Int} {d : XDoor} (hy : s[i]? = some y) (hd : l[i]? = some d) : doorStBad l s i = if y < -1 ∨ (d.rests.l.length : Int) ≤ y then some () else none := by
  rw [doorStBad, hy, hd]
theorem fitB_len {a : XAir} {s : XSetting} (h : s.fans.l.length = a.fans.l.length) (h' : s.doors.l.length = a.doors.l.length) : fitB a s = ((s.fans.l.findSome? fanStBad).isNone && ((List.range s.doors.l.length).findSome? (doorStBad a.doors.l s.doors.l)).isNone) := by
  rw [fitB, if_neg (by omega)]

theorem fitting_tri (a : XAir) (s : XSetting) (L : List Blk) (R : List Sl) (hm : AirR a R) (hs : SetR s R) :
    Tri Try.prog 41 [a.val, s.val].toArray L R (fun v L' R' => v = .bool (fitB a s) ∧ L = L' ∧ R = R') := by
  have hfa := hm.fans
  have hdo := hm.doors
  have hsf := hs.fans
  have hsd := hs.doors
  refine Tri_len Try.call41 hsf fun hfn => ?_
  refine Tri_len Try.call41 hsd fun hdn => ?_
  refine tri_enter 61 Try.call41 Try.func41 rfl rfl rfl ?_
  refine CJ_seq (CJ_region ?_)
  refine LJ_boxN rfl rfl ?_
  intro b2
  refine LJ_boxN rfl rfl ?_
  intro b3
  refine LJ_q (yv_assign (show _ = Value.bool _ from rfl)) rfl ?_
  refine LJ_nil (seqK_normal (CJ_seq (CJ_seq (CJ_region ?_))))
  refine LJ_q (yv_field tb rfl rfl rfl) rfl ?_
  refine LJ_q (yv_load1 tb rfl rfl rfl (by repeat (first | exact zi0 | apply zi1 | apply zi2)) (by rfl)) rfl ?_
  refine LJ_q (yv_len tb rfl rfl rfl) rfl ?_
  refine LJ_q (yv_field tb rfl rfl rfl) rfl ?_
  refine LJ_q (yv_load1 tb rfl rfl rfl (by repeat (first | exact zi0 | apply zi1 | apply zi2)) (by rfl)) rfl ?_
  refine LJ_q (yv_len tb rfl rfl rfl) rfl ?_
  refine LJ_q (yv_neq rfl rfl) rfl ?_
  refine LJ_q (yv_move (show _ = Value.bool _ from rfl)) rfl ?_
  apply LJ_or (G := [_, _, _, _, _, _, _]) (j := 7) (cj := 16) rfl rfl (by rfl) rfl (show _ = Value.bool _ from rfl) rfl
  ·
   intro hg8
   try simp only [zb1, zb2, zb3, zb4, zb5, zb6, zb7, zb8] at hg8
   refine LJ_q (yv_field tb rfl rfl rfl) rfl ?_
   refine LJ_q (yv_load1 tb rfl rfl rfl (by repeat (first | exact zi0 | apply zi1 | apply zi2)) (by rfl)) rfl ?_
   refine LJ_q (yv_len tb rfl rfl rfl) rfl ?_
   refine LJ_q (yv_field tb rfl rfl rfl) rfl ?_
   refine LJ_q (yv_load1 tb rfl rfl rfl (by repeat (first | exact zi0 | apply zi1 | apply zi2)) (by rfl)) rfl ?_
   refine LJ_q (yv_len tb rfl rfl rfl) rfl ?_
   refine LJ_q (yv_neq rfl rfl) rfl ?_
   exact LJ_merge_end (show _ = Value.bool _ from rfl) (by repeat (first | exact Off.refl | apply Off.upd rfl | apply Off.havoc rfl | apply Off.updL rfl | apply Off.left rfl)) (by repeat (first | exact zs0 _ | exact zs1 _ | apply zs2 | apply zs3 | apply zs4 | apply zs5)) (by first | exact allR_self _ | exact fun r h => inR_self (by simp [h]))
  intro junk8
  refine LJ_nil (seqK_normal ?_)
  refine CJ_cond (show _ = Value.bool _ from rfl) (fun hc0 => ?_) (fun hc0 => ?_)
  ·
   try simp only [zb1, zb2, zb3, zb4, zb5, zb6, zb7, zb8] at hc0
   refine CJ_seq (CJ_region ?_)
   refine LJ_q (yv_assign (show _ = Value.bool _ from rfl)) rfl ?_
   refine LJ_nil (seqK_normal (CJ_ret (seqK_ret ?_)))
   refine retK_ret (L' := L) (R' := R) (res1 rfl (rv_tmp (show _ = Value.bool _ from rfl))) ?hp ?hL ?hR
   case hp => exact ⟨by rw [fitB, if_pos (by omega)], rfl, rfl⟩
   case hL => exact (by repeat (first | exact zs0 _ | exact zs1 _ | apply zs2 | apply zs3 | apply zs4 | apply zs5))
   case hR => exact allR_self _
  ·
   try simp only [zb1, zb2, zb3, zb4, zb5, zb6, zb7, zb8] at hc0
   refine CJ_skip (seqK_normal (CJ_seq (CJ_seq (CJ_region ?_))))
   refine LJ_q (yv_field tb rfl rfl rfl) rfl ?_
   refine LJ_q (yv_load1 tb rfl rfl rfl (by repeat (first | exact zi0 | apply zi1 | apply zi2)) (by rfl)) rfl ?_
   refine LJ_q (yv_len tb rfl rfl rfl) rfl ?_
   refine LJ_q (yv_move (show _ = Value.int _ _ from rfl)) rfl ?_
   refine LJ_nil (seqK_normal (CJ_block ?_))
   refine CJ_forget [(2, Value.pointer _), (3, Value.pointer _), (26, Value.slice _ _ _), (27, Value.int _ _), (28, Value.int _ _)] (by repeat' (first | exact trivial | refine And.intro rfl ?_)) fun tq0 => ?_
   refine CJ_loopS [4, 6, 28, 29, 30, 31, 32, 33, 34, 35, 36, 37, 38] (fun g : FS (fanStBad) (s.fans.l) => [(28, .int .i64 ((g.1 : Nat) : Int))]) (fun g => (s.fans.l).length - g.1) ⟨0, FS_zero _ _⟩ (by repeat' (first | exact trivial | refine And.intro rfl ?_)) ?_
   rintro ⟨k0, hk0, hp0⟩ junk
   try dsimp only
   refine CJ_seq (CJ_region ?_)
   refine LJ_q (yv_lss rfl rfl) rfl ?_
   refine LJ_nil (seqK_normal (CJ_seq ?_))
   refine CJ_cond (show _ = Value.bool _ from rfl) (fun hc1 => ?_) (fun hc1 => ?_)
   ·
    try simp only [zb1, zb2, zb3, zb4, zb5, zb6, zb7, zb8] at hc1
    obtain ⟨x, hx⟩ := get_some (l := s.fans.l) (k := k0) (by omega)
    refine CJ_skip (seqK_normal (CJ_seq (CJ_block (CJ_seq (CJ_region ?_)))))
    refine LJ_q (by first | exact yv_index_ro tb rfl rfl rfl rfl (by first | assumption | exact zr (by simp)) rfl (by omega) | exact yv_index tb rfl rfl rfl rfl rfl (by omega)) rfl ?_
    refine LJ_q (by first | exact yv_load1_ro tb rfl rfl rfl (by first | assumption | exact zr (by simp)) (by assumption) (by rfl) | exact yv_load1 tb rfl rfl rfl (by repeat (first | exact zi0 | apply zi1 | apply zi2)) (by rfl) | exact yv_load1 tb rfl rfl rfl (by repeat (first | exact zi0 | apply zi1 | apply zi2)) (icell_get (by assumption)) | exact yv_load1 tb rfl rfl rfl (by repeat (first | exact zi0 | apply zi1 | apply zi2)) (rcell_get (fun _ => rfl) (by assumption) rfl)) rfl ?_
    refine LJ_q (yv_assign (show _ = Value.int _ _ from rfl)) rfl ?_
    refine LJ_nil (seqK_normal (CJ_seq (CJ_region ?_)))
    refine LJ_q (yv_move (show _ = Value.int _ _ from rfl)) rfl ?_
    refine LJ_q (yv_lss rfl rfl) rfl ?_
    refine LJ_q (yv_move (show _ = Value.bool _ from rfl)) rfl ?_
    apply LJ_or (G := [_, _]) (j := 2) (cj := 34) rfl rfl (by rfl) rfl (show _ = Value.bool _ from rfl) rfl
    ·
     intro hg3
     try simp only [zb1, zb2, zb3, zb4, zb5, zb6, zb7, zb8] at hg3
     refine LJ_q (yv_move (show _ = Value.int _ _ from rfl)) rfl ?_
     refine LJ_q (yv_gtr rfl rfl) rfl ?_
     exact LJ_merge_end (show _ = Value.bool _ from rfl) (by repeat (first | exact Off.refl | apply Off.upd rfl | apply Off.havoc rfl | apply Off.updL rfl | apply Off.left rfl)) (by repeat (first | exact zs0 _ | exact zs1 _ | apply zs2 | apply zs3 | apply zs4 | apply zs5)) (by first | exact allR_self _ | exact fun r h => inR_self (by simp [h]))
    intro junk3
    refine LJ_nil (seqK_normal ?_)
    refine CJ_cond (show _ = Value.bool _ from rfl) (fun hc2 => ?_) (fun hc2 => ?_)
    ·
     try simp only [zb1, zb2, zb3, zb4, zb5, zb6, zb7, zb8] at hc2
     refine CJ_seq (CJ_region ?_)
     refine LJ_q (yv_assign (show _ = Value.bool _ from rfl)) rfl ?_
     refine LJ_nil (seqK_normal (CJ_ret (blockK_ret (seqK_ret (loopK_ret (blockK_ret (seqK_ret ?_)))))))
     refine retK_ret (L' := L) (R' := R) (res1 rfl (rv_tmp (show _ = Value.bool _ from rfl))) ?hp ?hL ?hR
     case hp => exact ⟨by rw [fitB_len (by omega) (by omega), FS_some hp0 hx (if_pos (by omega))]; rfl, rfl, rfl⟩
     case hL => exact (by repeat (first | exact zs0 _ | exact zs1 _ | apply zs2 | apply zs3 | apply zs4 | apply zs5))
     case hR => exact allR_self _
    ·
     try simp only [zb1, zb2, zb3, zb4, zb5, zb6, zb7, zb8] at hc2
     refine CJ_skip (blockK_normal (seqK_normal (CJ_region ?_)))
     refine LJ_q (by first | exact yv_add64 rfl rfl (by omega) (by omega) | exact yv_addU rfl rfl (by omega) (by omega) | exact yv_add rfl rfl) rfl ?_
     refine LJ_q (yv_move (show _ = Value.int _ _ from rfl)) rfl ?_
     refine LJ_nil ?_
     exact loopK_mk ⟨k0 + 1, FS_next hp0 hx (if_neg (by omega))⟩ (by repeat (first | exact Off.refl | apply Off.upd rfl | apply Off.havoc rfl | apply Off.updL rfl | apply Off.left rfl)) (by repeat' (first | exact trivial | refine And.intro rfl ?_)) (by repeat (first | exact zs0 _ | exact zs1 _ | apply zs2 | apply zs3 | apply zs4 | apply zs5)) (allR_self _) (by dsimp only; omega)
   ·
    try simp only [zb1, zb2, zb3, zb4, zb5, zb6, zb7, zb8] at hc1
    have hn0 := FS_none hp0 (by omega)
    refine CJ_exit (seqK_exit (loopK_exit (blockK_exit (seqK_normal (CJ_seq (CJ_seq (CJ_region ?_)))))))
    refine LJ_q (yv_field tb rfl rfl rfl) rfl ?_
    refine LJ_q (yv_load1 tb rfl rfl rfl (by repeat (first | exact zi0 | apply zi1 | apply zi2)) (by rfl)) rfl ?_
    refine LJ_q (yv_len tb rfl rfl rfl) rfl ?_
    refine LJ_q (yv_move (show _ = Value.int _ _ from rfl)) rfl ?_
    refine LJ_nil (seqK_normal (CJ_block ?_))
    refine CJ_forget [(2, Value.pointer _), (40, Value.slice _ _ _), (41, Value.int _ _), (42, Value.int _ _)] (by repeat' (first | exact trivial | refine And.intro rfl ?_)) fun tq1 => ?_
    refine CJ_loopS [4, 7, 8, 42, 43, 44, 45, 46, 47, 48, 49, 50, 51, 52, 53, 54, 55, 56, 57, 58, 59, 60] (fun g : FSR (doorStBad a.doors.l s.doors.l) (s.doors.l.length) => [(42, .int .i64 ((g.1 : Nat) : Int))]) (fun g => (s.doors.l.length) - g.1) ⟨0, FSR_zero _ _⟩ (by repeat' (first | exact trivial | refine And.intro rfl ?_)) ?_
    rintro ⟨k1, hk1, hp1⟩ junk
    try dsimp only
    refine CJ_seq (CJ_region ?_)
    refine LJ_q (yv_lss rfl rfl) rfl ?_
    refine LJ_nil (seqK_normal (CJ_seq ?_))
    refine CJ_cond (show _ = Value.bool _ from rfl) (fun hc3 => ?_) (fun hc3 => ?_)
    ·
     try simp only [zb1, zb2, zb3, zb4, zb5, zb6, zb7, zb8] at hc3
     obtain ⟨y, hy⟩ := get_some (l := s.doors.l) (k := k1) (by omega)
     obtain ⟨d, hd⟩ := get_some (l := a.doors.l) (k := k1) (by omega)
     have he := doorStBad_at hy hd
     refine CJ_skip (seqK_normal (CJ_seq (CJ_block (CJ_seq (CJ_region ?_)))))
     refine LJ_q (yv_move (show _ = Value.int _ _ from rfl)) rfl ?_
     refine LJ_q (by first | exact yv_index_ro tb rfl rfl rfl rfl (by first | assumption | exact zr (by simp)) rfl (by omega) | exact yv_index tb rfl rfl rfl rfl rfl (by omega)) rfl ?_
     refine LJ_q (by first | exact yv_load1_ro tb rfl rfl rfl (by first | assumption | exact zr (by simp)) (by assumption) (by rfl) | exact yv_load1 tb rfl rfl rfl (by repeat (first | exact zi0 | apply zi1 | apply zi2)) (by rfl) | exact yv_load1 tb rfl rfl rfl (by repeat (first | exact zi0 | apply zi1 | apply zi2)) (icell_get (by assumption)) | exact yv_load1 tb rfl rfl rfl (by repeat (first | exact zi0 | apply zi1 | apply zi2)) (rcell_get (fun _ => rfl) (by assumption) rfl)) rfl ?_
     refine LJ_q (yv_assign (show _ = Value.int _ _ from rfl)) rfl ?_
     refine LJ_q (yv_assign (show _ = Value.int _ _ from rfl)) rfl ?_
     refine LJ_nil (seqK_normal (CJ_seq (CJ_region ?_)))
     refine LJ_q (yv_move (show _ = Value.int _ _ from rfl)) rfl ?_
     refine LJ_q (yv_lss rfl rfl) rfl ?_
     refine LJ_q (yv_move (show _ = Value.bool _ from rfl)) rfl ?_
     apply LJ_or (G := [_, _, _, _, _, _, _, _, _]) (j := 2) (cj := 49) rfl rfl (by rfl) rfl (show _ = Value.bool _ from rfl) rfl
     ·
      intro hg3
      try simp only [zb1, zb2, zb3, zb4, zb5, zb6, zb7, zb8] at hg3
      refine LJ_q (yv_move (show _ = Value.int _ _ from rfl)) rfl ?_
      refine LJ_q (yv_field tb rfl rfl rfl) rfl ?_
      refine LJ_q (yv_load1 tb rfl rfl rfl (by repeat (first | exact zi0 | apply zi1 | apply zi2)) (by rfl)) rfl ?_
      refine LJ_q (yv_move (show _ = Value.int _ _ from rfl)) rfl ?_
      refine LJ_q (by first | exact yv_index_ro tb rfl rfl rfl rfl (by first | assumption | exact zr (by simp)) rfl (by omega) | exact yv_index tb rfl rfl rfl rfl rfl (by omega)) rfl ?_
      refine LJ_q (yv_field_eo tb rfl rfl rfl) rfl ?_
      refine LJ_q (by first | exact yv_load1_ro tb rfl rfl rfl (by first | assumption | exact zr (by simp)) (by assumption) (by rfl) | exact yv_load1 tb rfl rfl rfl (by repeat (first | exact zi0 | apply zi1 | apply zi2)) (by rfl) | exact yv_load1 tb rfl rfl rfl (by repeat (first | exact zi0 | apply zi1 | apply zi2)) (icell_get (by assumption)) | exact yv_load1 tb rfl rfl rfl (by repeat (first | exact zi0 | apply zi1 | apply zi2)) (rcell_get (fun _ => rfl) (by assumption) rfl)) rfl ?_
      refine LJ_q (yv_len tb rfl rfl rfl) rfl ?_
      refine LJ_q (yv_geq rfl rfl) rfl ?_
      exact LJ_merge_end (show _ = Value.bool _ from rfl) (by repeat (first | exact Off.refl | apply Off.upd rfl | apply Off.havoc rfl | apply Off.updL rfl | apply Off.left rfl)) (by repeat (first | exact zs0 _ | exact zs1 _ | apply zs2 | apply zs3 | apply zs4 | apply zs5)) (by first | exact allR_self _ | exact fun r h => inR_self (by simp [h]))
     intro junk3
     refine LJ_nil (seqK_normal ?_)
     refine CJ_cond (show _ = Value.bool _ from rfl) (fun hc4 => ?_) (fun hc4 => ?_)
     ·
      try simp only [zb1, zb2, zb3, zb4, zb5, zb6, zb7, zb8] at hc4
      refine CJ_seq (CJ_region ?_)
      refine LJ_q (yv_assign (show _ = Value.bool _ from rfl)) rfl ?_
      refine LJ_nil (seqK_normal (CJ_ret (blockK_ret (seqK_ret (loopK_ret (blockK_ret (seqK_ret ?_)))))))
      refine retK_ret (L' := L) (R' := R) (res1 rfl (rv_tmp (show _ = Value.bool _ from rfl))) ?hp ?hL ?hR
      case hp => exact ⟨by rw [fitB_len (by omega) (by omega), FSR_some hp1 (by omega) (he.trans (if_pos (by omega)))]; simp, rfl, rfl⟩
      case hL => exact (by repeat (first | exact zs0 _ | exact zs1 _ | apply zs2 | apply zs3 | apply zs4 | apply zs5))
      case hR => exact allR_self _
     ·
      try simp only [zb1, zb2, zb3, zb4, zb5, zb6, zb7, zb8] at hc4
      refine CJ_skip (blockK_normal (seqK_normal (CJ_region ?_)))
      refine LJ_q (by first | exact yv_add64 rfl rfl (by omega) (by omega) | exact yv_addU rfl rfl (by omega) (by omega) | exact yv_add rfl rfl) rfl ?_
      refine LJ_q (yv_move (show _ = Value.int _ _ from rfl)) rfl ?_
      refine LJ_nil ?_
      exact loopK_mk ⟨k1 + 1, FSR_next hp1 (by omega) (he.trans (if_neg (by omega)))⟩ (by repeat (first | exact Off.refl | apply Off.upd rfl | apply Off.havoc rfl | apply Off.updL rfl | apply Off.left rfl)) (by repeat' (first | exact trivial | refine And.intro rfl ?_)) (by repeat (first | exact zs0 _ | exact zs1 _ | apply zs2 | apply zs3 | apply zs4 | apply zs5)) (allR_self _) (by dsimp only; omega)
    ·
     try simp only [zb1, zb2, zb3, zb4, zb5, zb6, zb7, zb8] at hc3
     have hn1 := FSR_none hp1 (by omega)
     refine CJ_exit (seqK_exit (loopK_exit (blockK_exit (seqK_normal (CJ_seq (CJ_region ?_))))))
     refine LJ_q (yv_assign (show _ = Value.bool _ from rfl)) rfl ?_
     refine LJ_nil (seqK_normal (CJ_ret ?_))
     refine retK_ret (L' := L) (R' := R) (res1 rfl (rv_tmp (show _ = Value.bool _ from rfl))) ?hp ?hL ?hR
     case hp => exact ⟨by rw [fitB_len (by omega) (by omega), hn0, hn1]; rfl, rfl, rfl⟩
     case hL => exact (by repeat (first | exact zs0 _ | exact zs1 _ | apply zs2 | apply zs3 | apply zs4 | apply zs5))
     case hR => exact allR_self _

theorem right_tri (a : XAir) (s : XSetting) (L : List Blk) (R : List Sl) (hm : AirR a R) (hs : SetR s R) :
    Tri Try.prog 19 [a.val, s.val].toArray L R (fun v L' R' => v = .bool (rightB a s) ∧ L = L' ∧ R = R') := by
  refine tri_enter 13 Try.call19 Try.func19 rfl rfl rfl ?_
  refine CJ_seq (CJ_region ?_)
  refine LJ_boxN rfl rfl ?_
  intro b2
  refine LJ_boxN rfl rfl ?_
  intro b3
  refine LJ_q (yv_assign (show _ = Value.bool _ from rfl)) rfl ?_
  refine LJ_nil (seqK_normal (CJ_seq (CJ_region ?_)))
  refine LJ_q (yv_loadN (row := [_, _, _, _]) tb rfl rfl rfl (by repeat (first | exact zi0 | apply zi1 | apply zi2)) (by rfl) (by rfl)) rfl ?_
  refine LJ_call rfl (branchCheck_tri a _ _ hm) rfl ?_
  rintro v L' R' ⟨rfl, rfl, rfl⟩
  refine LJ_q (yv_eql rfl rfl) rfl ?_
  refine LJ_q (yv_move (show _ = Value.bool _ from rfl)) rfl ?_
  apply LJ_and (G := [_, _, _]) (j := 3) (cj := 8) rfl rfl (by rfl) rfl (show _ = Value.bool _ from rfl) rfl
  ·
   intro hg4
   try simp only [zb1, zb2, zb3, zb4, zb5, zb6, zb7, zb8] at hg4
   refine LJ_q (yv_loadN (row := [_, _, _, _]) tb rfl rfl rfl (by repeat (first | exact zi0 | apply zi1 | apply zi2)) (by rfl) (by rfl)) rfl ?_
   refine LJ_q (yv_loadN (row := [_, _]) tb rfl rfl rfl (by repeat (first | exact zi0 | apply zi1 | apply zi2)) (by rfl) (by rfl)) rfl ?_
   refine LJ_call rfl (fitting_tri a s _ _ hm hs) rfl ?_
   rintro v L' R' ⟨rfl, rfl, rfl⟩
   exact LJ_merge_end (show _ = Value.bool _ from rfl) (by repeat (first | exact Off.refl | apply Off.upd rfl | apply Off.havoc rfl | apply Off.updL rfl | apply Off.left rfl)) (by repeat (first | exact zs0 _ | exact zs1 _ | apply zs2 | apply zs3 | apply zs4 | apply zs5)) (by first | exact allR_self _ | exact fun r h => inR_self (by simp [h]))
  intro junk4
  refine LJ_q (yv_assign (show _ = Value.bool _ from rfl)) rfl ?_
  refine LJ_nil (seqK_normal (CJ_ret ?_))
  refine retK_ret (L' := L) (R' := R) (res1 rfl (rv_tmp (show _ = Value.bool _ from rfl))) ?hp ?hL ?hR
  case hp => exact ⟨rfl, rfl, rfl⟩
  case hL => exact (by repeat (first | exact zs0 _ | exact zs1 _ | apply zs2 | apply zs3 | apply zs4 | apply zs5))
  case hR => exact allR_self _

theorem ref09Right_tri (a : XAir) (s : XSetting) (L : List Blk) (R : List Sl) (hm : AirR a R) (hs : SetR s R) :
    Tri Try.prog 20 [a.val, s.val].toArray L R (fun v L' R' => v = .bool (rightB a s) ∧ L = L' ∧ R = R') := by
  have hfa := hm.fans
  have hdo := hm.doors
  have hsf := hs.fans
  have hsd := hs.doors
  refine Tri_len Try.call20 hsf fun hfn => ?_
  refine Tri_len Try.call20 hsd fun hdn => ?_
  refine tri_enter 77 Try.call20 Try.func20 rfl rfl rfl ?_
  refine CJ_seq (CJ_region ?_)
  refine LJ_boxN rfl rfl ?_
  intro b2
  refine LJ_boxN rfl rfl ?_
  intro b3
  refine LJ_q (yv_assign (show _ = Value.bool _ from rfl)) rfl ?_
  refine LJ_nil (seqK_normal (CJ_seq (CJ_seq (CJ_region ?_))))
  refine LJ_q (yv_loadN (row := [_, _, _, _]) tb rfl rfl rfl (by repeat (first | exact zi0 | apply zi1 | apply zi2)) (by rfl) (by rfl)) rfl ?_
  refine LJ_call rfl (ref09Check_tri a _ _ hm) rfl ?_
  rintro v L' R' ⟨rfl, rfl, rfl⟩
  refine LJ_q (yv_neq rfl rfl) rfl ?_
  refine LJ_q (yv_move (show _ = Value.bool _ from rfl)) rfl ?_
  apply LJ_or (G := [_, _, _, _, _, _, _]) (j := 3) (cj := 10) rfl rfl (by rfl) rfl (show _ = Value.bool _ from rfl) rfl
  ·
   intro hg4
   try simp only [zb1, zb2, zb3, zb4, zb5, zb6, zb7, zb8] at hg4
   refine LJ_q (yv_field tb rfl rfl rfl) rfl ?_
   refine LJ_q (yv_load1 tb rfl rfl rfl (by repeat (first | exact zi0 | apply zi1 | apply zi2)) (by rfl)) rfl ?_
   refine LJ_q (yv_len tb rfl rfl rfl) rfl ?_
   refine LJ_q (yv_field tb rfl rfl rfl) rfl ?_
   refine LJ_q (yv_load1 tb rfl rfl rfl (by repeat (first | exact zi0 | apply zi1 | apply zi2)) (by rfl)) rfl ?_
   refine LJ_q (yv_len tb rfl rfl rfl) rfl ?_
   refine LJ_q (yv_neq rfl rfl) rfl ?_
   exact LJ_merge_end (show _ = Value.bool _ from rfl) (by repeat (first | exact Off.refl | apply Off.upd rfl | apply Off.havoc rfl | apply Off.updL rfl | apply Off.left rfl)) (by repeat (first | exact zs0 _ | exact zs1 _ | apply zs2 | apply zs3 | apply zs4 | apply zs5)) (by first | exact allR_self _ | exact fun r h => inR_self (by simp [h]))
  intro junk4
  refine LJ_q (yv_move (show _ = Value.bool _ from rfl)) rfl ?_
  apply LJ_or (G := [_, _, _, _, _, _, _]) (j := 12) (cj := 19) rfl rfl (by rfl) rfl (show _ = Value.bool _ from rfl) rfl
  ·
   intro hg13
   try simp only [zb1, zb2, zb3, zb4, zb5, zb6, zb7, zb8] at hg13
   refine LJ_q (yv_field tb rfl rfl rfl) rfl ?_
   refine LJ_q (yv_load1 tb rfl rfl rfl (by repeat (first | exact zi0 | apply zi1 | apply zi2)) (by rfl)) rfl ?_
   refine LJ_q (yv_len tb rfl rfl rfl) rfl ?_
   refine LJ_q (yv_field tb rfl rfl rfl) rfl ?_
   refine LJ_q (yv_load1 tb rfl rfl rfl (by repeat (first | exact zi0 | apply zi1 | apply zi2)) (by rfl)) rfl ?_
   refine LJ_q (yv_len tb rfl rfl rfl) rfl ?_
   refine LJ_q (yv_neq rfl rfl) rfl ?_
   exact LJ_merge_end (show _ = Value.bool _ from rfl) (by repeat (first | exact Off.refl | apply Off.upd rfl | apply Off.havoc rfl | apply Off.updL rfl | apply Off.left rfl)) (by repeat (first | exact zs0 _ | exact zs1 _ | apply zs2 | apply zs3 | apply zs4 | apply zs5)) (by first | exact allR_self _ | exact fun r h => inR_self (by simp [h]))
  intro junk13
  refine LJ_nil (seqK_normal ?_)
  refine CJ_cond (show _ = Value.bool _ from rfl) (fun hc0 => ?_) (fun hc0 => ?_)
  ·
   try simp only [zb1, zb2, zb3, zb4, zb5, zb6, zb7, zb8] at hc0
   have hr : rightB a s = false := by rw [rightB, fitB]; by_cases he : airErr a = 0; rw [if_pos (by omega)]; simp; simp [he]
   refine CJ_seq (CJ_region ?_)
   refine LJ_q (yv_assign (show _ = Value.bool _ from rfl)) rfl ?_
   refine LJ_nil (seqK_normal (CJ_ret (seqK_ret ?_)))
   refine retK_ret (L' := L) (R' := R) (res1 rfl (rv_tmp (show _ = Value.bool _ from rfl))) ?hp ?hL ?hR
   case hp => exact ⟨by rw [hr], rfl, rfl⟩
   case hL => exact (by repeat (first | exact zs0 _ | exact zs1 _ | apply zs2 | apply zs3 | apply zs4 | apply zs5))
   case hR => exact allR_self _
  ·
   try simp only [zb1, zb2, zb3, zb4, zb5, zb6, zb7, zb8] at hc0
   have hr : rightB a s = fitB a s := by rw [rightB, decide_eq_true (by omega)]; rfl
   refine CJ_skip (seqK_normal (CJ_seq (CJ_seq (CJ_region ?_))))
   refine LJ_q (yv_assign (show _ = Value.int _ _ from rfl)) rfl ?_
   refine LJ_nil (seqK_normal (CJ_block ?_))
   refine CJ_forget [(2, Value.pointer _), (3, Value.pointer _), (5, Value.int _ _)] (by repeat' (first | exact trivial | refine And.intro rfl ?_)) fun tq0 => ?_
   refine CJ_loopS [4, 5, 28, 29, 30, 31, 32, 33, 34, 35, 36, 37, 38, 39, 40, 41, 42, 43, 44, 45, 46, 47, 48] (fun g : FS (fanStBad) (s.fans.l) => [(5, .int .i64 ((g.1 : Nat) : Int))]) (fun g => (s.fans.l).length - g.1) ⟨0, FS_zero _ _⟩ (by repeat' (first | exact trivial | refine And.intro rfl ?_)) ?_
   rintro ⟨k0, hk0, hp0⟩ junk
   try dsimp only
   refine CJ_seq (CJ_seq (CJ_region ?_))
   refine LJ_q (yv_move (show _ = Value.int _ _ from rfl)) rfl ?_
   refine LJ_q (yv_field tb rfl rfl rfl) rfl ?_
   refine LJ_q (yv_load1 tb rfl rfl rfl (by repeat (first | exact zi0 | apply zi1 | apply zi2)) (by rfl)) rfl ?_
   refine LJ_q (yv_len tb rfl rfl rfl) rfl ?_
   refine LJ_q (yv_lss rfl rfl) rfl ?_
   refine LJ_nil (seqK_normal ?_)
   refine CJ_cond (show _ = Value.bool _ from rfl) (fun hc1 => ?_) (fun hc1 => ?_)
   ·
    try simp only [zb1, zb2, zb3, zb4, zb5, zb6, zb7, zb8] at hc1
    obtain ⟨x, hx⟩ := get_some (l := s.fans.l) (k := k0) (by omega)
    refine CJ_skip (seqK_normal (CJ_seq (CJ_block (CJ_seq (CJ_region ?_)))))
    refine LJ_q (yv_field tb rfl rfl rfl) rfl ?_
    refine LJ_q (yv_load1 tb rfl rfl rfl (by repeat (first | exact zi0 | apply zi1 | apply zi2)) (by rfl)) rfl ?_
    refine LJ_q (yv_move (show _ = Value.int _ _ from rfl)) rfl ?_
    refine LJ_q (by first | exact yv_index_ro tb rfl rfl rfl rfl (by first | assumption | exact zr (by simp)) rfl (by omega) | exact yv_index tb rfl rfl rfl rfl rfl (by omega)) rfl ?_
    refine LJ_q (by first | exact yv_load1_ro tb rfl rfl rfl (by first | assumption | exact zr (by simp)) (by assumption) (by rfl) | exact yv_load1 tb rfl rfl rfl (by repeat (first | exact zi0 | apply zi1 | apply zi2)) (by rfl) | exact yv_load1 tb rfl rfl rfl (by repeat (first | exact zi0 | apply zi1 | apply zi2)) (icell_get (by assumption)) | exact yv_load1 tb rfl rfl rfl (by repeat (first | exact zi0 | apply zi1 | apply zi2)) (rcell_get (fun _ => rfl) (by assumption) rfl)) rfl ?_
    refine LJ_q (yv_lss rfl rfl) rfl ?_
    refine LJ_q (yv_move (show _ = Value.bool _ from rfl)) rfl ?_
    apply LJ_or (G := [_, _, _, _, _, _]) (j := 6) (cj := 41) rfl rfl (by rfl) rfl (show _ = Value.bool _ from rfl) rfl
    ·
     intro hg7
     try simp only [zb1, zb2, zb3, zb4, zb5, zb6, zb7, zb8] at hg7
     refine LJ_q (yv_field tb rfl rfl rfl) rfl ?_
     refine LJ_q (yv_load1 tb rfl rfl rfl (by repeat (first | exact zi0 | apply zi1 | apply zi2)) (by rfl)) rfl ?_
     refine LJ_q (yv_move (show _ = Value.int _ _ from rfl)) rfl ?_
     refine LJ_q (by first | exact yv_index_ro tb rfl rfl rfl rfl (by first | assumption | exact zr (by simp)) rfl (by omega) | exact yv_index tb rfl rfl rfl rfl rfl (by omega)) rfl ?_
     refine LJ_q (by first | exact yv_load1_ro tb rfl rfl rfl (by first | assumption | exact zr (by simp)) (by assumption) (by rfl) | exact yv_load1 tb rfl rfl rfl (by repeat (first | exact zi0 | apply zi1 | apply zi2)) (by rfl) | exact yv_load1 tb rfl rfl rfl (by repeat (first | exact zi0 | apply zi1 | apply zi2)) (icell_get (by assumption)) | exact yv_load1 tb rfl rfl rfl (by repeat (first | exact zi0 | apply zi1 | apply zi2)) (rcell_get (fun _ => rfl) (by assumption) rfl)) rfl ?_
     refine LJ_q (yv_gtr rfl rfl) rfl ?_
     exact LJ_merge_end (show _ = Value.bool _ from rfl) (by repeat (first | exact Off.refl | apply Off.upd rfl | apply Off.havoc rfl | apply Off.updL rfl | apply Off.left rfl)) (by repeat (first | exact zs0 _ | exact zs1 _ | apply zs2 | apply zs3 | apply zs4 | apply zs5)) (by first | exact allR_self _ | exact fun r h => inR_self (by simp [h]))
    intro junk7
    refine LJ_nil (seqK_normal ?_)
    refine CJ_cond (show _ = Value.bool _ from rfl) (fun hc2 => ?_) (fun hc2 => ?_)
    ·
     try simp only [zb1, zb2, zb3, zb4, zb5, zb6, zb7, zb8] at hc2
     refine CJ_seq (CJ_region ?_)
     refine LJ_q (yv_assign (show _ = Value.bool _ from rfl)) rfl ?_
     refine LJ_nil (seqK_normal (CJ_ret (blockK_ret (seqK_ret (loopK_ret (blockK_ret (seqK_ret ?_)))))))
     refine retK_ret (L' := L) (R' := R) (res1 rfl (rv_tmp (show _ = Value.bool _ from rfl))) ?hp ?hL ?hR
     case hp => exact ⟨by rw [hr, fitB_len (by omega) (by omega), FS_some hp0 hx (if_pos (by omega))]; rfl, rfl, rfl⟩
     case hL => exact (by repeat (first | exact zs0 _ | exact zs1 _ | apply zs2 | apply zs3 | apply zs4 | apply zs5))
     case hR => exact allR_self _
    ·
     try simp only [zb1, zb2, zb3, zb4, zb5, zb6, zb7, zb8] at hc2
     refine CJ_skip (blockK_normal (seqK_normal (CJ_region ?_)))
     refine LJ_q (yv_move (show _ = Value.int _ _ from rfl)) rfl ?_
     refine LJ_q (by first | exact yv_add64 rfl rfl (by omega) (by omega) | exact yv_addU rfl rfl (by omega) (by omega) | exact yv_add rfl rfl) rfl ?_
     refine LJ_q (yv_assign (show _ = Value.int _ _ from rfl)) rfl ?_
     refine LJ_nil ?_
     exact loopK_mk ⟨k0 + 1, FS_next hp0 hx (if_neg (by omega))⟩ (by repeat (first | exact Off.refl | apply Off.upd rfl | apply Off.havoc rfl | apply Off.updL rfl | apply Off.left rfl)) (by repeat' (first | exact trivial | refine And.intro rfl ?_)) (by repeat (first | exact zs0 _ | exact zs1 _ | apply zs2 | apply zs3 | apply zs4 | apply zs5)) (allR_self _) (by dsimp only; omega)
   ·
    try simp only [zb1, zb2, zb3, zb4, zb5, zb6, zb7, zb8] at hc1
    have hn0 := FS_none hp0 (by omega)
    refine CJ_exit (seqK_exit (loopK_exit (blockK_exit (seqK_normal (CJ_seq (CJ_seq (CJ_region ?_)))))))
    refine LJ_q (yv_assign (show _ = Value.int _ _ from rfl)) rfl ?_
    refine LJ_nil (seqK_normal (CJ_block ?_))
    refine CJ_forget [(2, Value.pointer _), (3, Value.pointer _), (6, Value.int _ _)] (by repeat' (first | exact trivial | refine And.intro rfl ?_)) fun tq1 => ?_
    refine CJ_loopS [4, 6, 49, 50, 51, 52, 53, 54, 55, 56, 57, 58, 59, 60, 61, 62, 63, 64, 65, 66, 67, 68, 69, 70, 71, 72, 73, 74, 75, 76] (fun g : FSR (doorStBad a.doors.l s.doors.l) (s.doors.l.length) => [(6, .int .i64 ((g.1 : Nat) : Int))]) (fun g => (s.doors.l.length) - g.1) ⟨0, FSR_zero _ _⟩ (by repeat' (first | exact trivial | refine And.intro rfl ?_)) ?_
    rintro ⟨k1, hk1, hp1⟩ junk
    try dsimp only
    refine CJ_seq (CJ_seq (CJ_region ?_))
    refine LJ_q (yv_move (show _ = Value.int _ _ from rfl)) rfl ?_
    refine LJ_q (yv_field tb rfl rfl rfl) rfl ?_
    refine LJ_q (yv_load1 tb rfl rfl rfl (by repeat (first | exact zi0 | apply zi1 | apply zi2)) (by rfl)) rfl ?_
    refine LJ_q (yv_len tb rfl rfl rfl) rfl ?_
    refine LJ_q (yv_lss rfl rfl) rfl ?_
    refine LJ_nil (seqK_normal ?_)
    refine CJ_cond (show _ = Value.bool _ from rfl) (fun hc3 => ?_) (fun hc3 => ?_)
    ·
     try simp only [zb1, zb2, zb3, zb4, zb5, zb6, zb7, zb8] at hc3
     obtain ⟨y, hy⟩ := get_some (l := s.doors.l) (k := k1) (by omega)
     obtain ⟨d, hd⟩ := get_some (l := a.doors.l) (k := k1) (by omega)
     have he := doorStBad_at hy hd
     refine CJ_skip (seqK_normal (CJ_seq (CJ_block (CJ_seq ?_))))
     refine CJ_drawn tb [0, 1, 2, 3, 4, 5, 6, 7, 8, 9, 10, 11, 12, 13, 14, 15, 16, 17, 18, 19, 20] _ mixed (by kernel_rfl) (List.Sublist.refl _) ?_
     refine DJ_q (yv_field tb rfl rfl rfl) rfl rfl rfl ?_
     refine DJ_q (yv_load1 tb rfl rfl rfl (by repeat (first | exact zi0 | apply zi1 | apply zi2)) (by rfl)) rfl rfl rfl ?_
     refine DJ_q (yv_move (show _ = Value.int _ _ from rfl)) rfl rfl rfl ?_
     refine DJ_q (by first | exact yv_index_ro tb rfl rfl rfl rfl (by first | assumption | exact zr (by simp)) rfl (by omega) | exact yv_index tb rfl rfl rfl rfl rfl (by omega)) rfl rfl rfl ?_
     refine DJ_q (by first | exact yv_load1_ro tb rfl rfl rfl (by first | assumption | exact zr (by simp)) (by assumption) (by rfl) | exact yv_load1 tb rfl rfl rfl (by repeat (first | exact zi0 | apply zi1 | apply zi2)) (by rfl) | exact yv_load1 tb rfl rfl rfl (by repeat (first | exact zi0 | apply zi1 | apply zi2)) (icell_get (by assumption)) | exact yv_load1 tb rfl rfl rfl (by repeat (first | exact zi0 | apply zi1 | apply zi2)) (rcell_get (fun _ => rfl) (by assumption) rfl)) rfl rfl rfl ?_
     refine DJ_q (yv_lss rfl rfl) rfl rfl rfl ?_
     refine DJ_q (yv_move (show _ = Value.bool _ from rfl)) rfl rfl rfl ?_
     refine DJ_case (k := 62) (show _ = Value.bool _ from rfl) (fun hg6 => ?_) (fun hg6 => ?_)
     ·
      try simp only [zb1, zb2, zb3, zb4, zb5, zb6, zb7, zb8] at hg6
      refine DJ_skip rfl rfl rfl ?_
      refine DJ_skip rfl rfl rfl ?_
      refine DJ_skip rfl rfl rfl ?_
      refine DJ_skip rfl rfl rfl ?_
      refine DJ_skip rfl rfl rfl ?_
      refine DJ_skip rfl rfl rfl ?_
      refine DJ_skip rfl rfl rfl ?_
      refine DJ_skip rfl rfl rfl ?_
      refine DJ_skip rfl rfl rfl ?_
      refine DJ_skip rfl rfl rfl ?_
      refine DJ_skip rfl rfl rfl ?_
      refine DJ_skip rfl rfl rfl ?_
      refine DJ_skip rfl rfl rfl ?_
      refine DJ_q (by first | exact yv_pick_true rfl rfl | exact yv_pick_false rfl rfl | exact yv_pick rfl) rfl rfl rfl ?_
      refine DJ_nil (seqK_normal ?_)
      refine CJ_cond_true rfl ?_
      refine CJ_seq (CJ_region ?_)
      refine LJ_q (yv_assign (show _ = Value.bool _ from rfl)) rfl ?_
      refine LJ_nil (seqK_normal (CJ_ret (blockK_ret (seqK_ret (loopK_ret (blockK_ret (seqK_ret ?_)))))))
      refine retK_ret (L' := L) (R' := R) (res1 rfl (rv_tmp (show _ = Value.bool _ from rfl))) ?hp ?hL ?hR
      case hp => exact ⟨by rw [hr, fitB_len (by omega) (by omega), FSR_some hp1 (by omega) (he.trans (if_pos (by omega)))]; simp, rfl, rfl⟩
      case hL => exact (by repeat (first | exact zs0 _ | exact zs1 _ | apply zs2 | apply zs3 | apply zs4 | apply zs5))
      case hR => exact allR_self _
     ·
      try simp only [zb1, zb2, zb3, zb4, zb5, zb6, zb7, zb8] at hg6
      refine DJ_q (yv_field tb rfl rfl rfl) rfl rfl rfl ?_
      refine DJ_q (yv_load1 tb rfl rfl rfl (by repeat (first | exact zi0 | apply zi1 | apply zi2)) (by rfl)) rfl rfl rfl ?_
      refine DJ_q (yv_move (show _ = Value.int _ _ from rfl)) rfl rfl rfl ?_
      refine DJ_q (by first | exact yv_index_ro tb rfl rfl rfl rfl (by first | assumption | exact zr (by simp)) rfl (by omega) | exact yv_index tb rfl rfl rfl rfl rfl (by omega)) rfl rfl rfl ?_
      refine DJ_q (by first | exact yv_load1_ro tb rfl rfl rfl (by first | assumption | exact zr (by simp)) (by assumption) (by rfl) | exact yv_load1 tb rfl rfl rfl (by repeat (first | exact zi0 | apply zi1 | apply zi2)) (by rfl) | exact yv_load1 tb rfl rfl rfl (by repeat (first | exact zi0 | apply zi1 | apply zi2)) (icell_get (by assumption)) | exact yv_load1 tb rfl rfl rfl (by repeat (first | exact zi0 | apply zi1 | apply zi2)) (rcell_get (fun _ => rfl) (by assumption) rfl)) rfl rfl rfl ?_
      refine DJ_q (yv_field tb rfl rfl rfl) rfl rfl rfl ?_
      refine DJ_q (yv_load1 tb rfl rfl rfl (by repeat (first | exact zi0 | apply zi1 | apply zi2)) (by rfl)) rfl rfl rfl ?_
      refine DJ_q (yv_move (show _ = Value.int _ _ from rfl)) rfl rfl rfl ?_
      refine DJ_q (by first | exact yv_index_ro tb rfl rfl rfl rfl (by first | assumption | exact zr (by simp)) rfl (by omega) | exact yv_index tb rfl rfl rfl rfl rfl (by omega)) rfl rfl rfl ?_
      refine DJ_q (yv_field_eo tb rfl rfl rfl) rfl rfl rfl ?_
      refine DJ_q (by first | exact yv_load1_ro tb rfl rfl rfl (by first | assumption | exact zr (by simp)) (by assumption) (by rfl) | exact yv_load1 tb rfl rfl rfl (by repeat (first | exact zi0 | apply zi1 | apply zi2)) (by rfl) | exact yv_load1 tb rfl rfl rfl (by repeat (first | exact zi0 | apply zi1 | apply zi2)) (icell_get (by assumption)) | exact yv_load1 tb rfl rfl rfl (by repeat (first | exact zi0 | apply zi1 | apply zi2)) (rcell_get (fun _ => rfl) (by assumption) rfl)) rfl rfl rfl ?_
      refine DJ_q (yv_len tb rfl rfl rfl) rfl rfl rfl ?_
      refine DJ_q (yv_geq rfl rfl) rfl rfl rfl ?_
      refine DJ_q (by first | exact yv_pick_true rfl rfl | exact yv_pick_false rfl rfl | exact yv_pick rfl) rfl rfl rfl ?_
      refine DJ_nil (seqK_normal ?_)
      refine CJ_cond (show _ = Value.bool _ from rfl) (fun hc4 => ?_) (fun hc4 => ?_)
      ·
       try simp only [zb1, zb2, zb3, zb4, zb5, zb6, zb7, zb8] at hc4
       refine CJ_seq (CJ_region ?_)
       refine LJ_q (yv_assign (show _ = Value.bool _ from rfl)) rfl ?_
       refine LJ_nil (seqK_normal (CJ_ret (blockK_ret (seqK_ret (loopK_ret (blockK_ret (seqK_ret ?_)))))))
       refine retK_ret (L' := L) (R' := R) (res1 rfl (rv_tmp (show _ = Value.bool _ from rfl))) ?hp ?hL ?hR
       case hp => exact ⟨by rw [hr, fitB_len (by omega) (by omega), FSR_some hp1 (by omega) (he.trans (if_pos (by omega)))]; simp, rfl, rfl⟩
       case hL => exact (by repeat (first | exact zs0 _ | exact zs1 _ | apply zs2 | apply zs3 | apply zs4 | apply zs5))
       case hR => exact allR_self _
      ·
       try simp only [zb1, zb2, zb3, zb4, zb5, zb6, zb7, zb8] at hc4
       refine CJ_skip (blockK_normal (seqK_normal (CJ_region ?_)))
       refine LJ_q (yv_move (show _ = Value.int _ _ from rfl)) rfl ?_
       refine LJ_q (by first | exact yv_add64 rfl rfl (by omega) (by omega) | exact yv_addU rfl rfl (by omega) (by omega) | exact yv_add rfl rfl) rfl ?_
       refine LJ_q (yv_assign (show _ = Value.int _ _ from rfl)) rfl ?_
       refine LJ_nil ?_
       exact loopK_mk ⟨k1 + 1, FSR_next hp1 (by omega) (he.trans (if_neg (by omega)))⟩ (by repeat (first | exact Off.refl | apply Off.upd rfl | apply Off.havoc rfl | apply Off.updL rfl | apply Off.left rfl)) (by repeat' (first | exact trivial | refine And.intro rfl ?_)) (by repeat (first | exact zs0 _ | exact zs1 _ | apply zs2 | apply zs3 | apply zs4 | apply zs5)) (allR_self _) (by dsimp only; omega)
    ·
     try simp only [zb1, zb2, zb3, zb4, zb5, zb6, zb7, zb8] at hc3
     have hn1 := FSR_none hp1 (by omega)
     refine CJ_exit (seqK_exit (loopK_exit (blockK_exit (seqK_normal (CJ_seq (CJ_region ?_))))))
     refine LJ_q (yv_assign (show _ = Value.bool _ from rfl)) rfl ?_
     refine LJ_nil (seqK_normal (CJ_ret ?_))
     refine retK_ret (L' := L) (R' := R) (res1 rfl (rv_tmp (show _ = Value.bool _ from rfl))) ?hp ?hL ?hR
     case hp => exact ⟨by rw [hr, fitB_len (by omega) (by omega), hn0, hn1]; rfl, rfl, rfl⟩
     case hL => exact (by repeat (first | exact zs0 _ | exact zs1 _ | apply zs2 | apply zs3 | apply zs4 | apply zs5))
     case hR => exact allR_self _
end Go.Proofs.Ytimnnhdeicpenaa
