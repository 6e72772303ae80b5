/-
  The checks of doors, and the reference's. By an AI agent; no person has read it.
-/
import Derived.Test.YtimnnhdeicpenaaFanC
set_option linter.unusedSimpArgs false
set_option linter.unusedVariables false
namespace Go.Proofs.Ytimnnhdeicpenaa
open Go.Aw Go
set_option maxRecDepth 20000
attribute [local irreducible] CJ LJ DJ Tri YV Gives seqK blockK loopK retK RV mergeK

def restErr (x : Int) : Option Int := if x < 0 ∨ 262144 < x then some 1 else none
/-- the first k resistances fall -/
def fallsB (l : List Int) : Nat → Bool
  | 0 => true
  | k + 1 => fallsB l k && (decide (k = 0) || decide (l.getD k 0 < l.getD (k - 1) 0))
theorem fallsB_le {l : List Int} {k n : Nat} (h : k ≤ n) (hf : fallsB l n = true) : fallsB l k = true := by
  induction n with
  | zero => rw [show k = 0 by omega]; rfl
  | succ n ih =>
    rcases Nat.lt_or_ge k (n + 1) with h' | h'
    · simp only [fallsB, Bool.and_eq_true] at hf; exact ih (by omega) hf.1
    · rw [show k = n + 1 by omega]; exact hf
theorem fallsB_step {l : List Int} {k : Nat} {x : Int} (hx : l[k]? = some x) : (fallsB l k && (decide ((k : Int) = 0) || decide (x < l.getD (k - 1) 0))) = fallsB l (k + 1) := by
  rw [fallsB, getD_some hx]
  congr 2
  simp only [decide_eq_decide]; omega
theorem fallsB_bad {l : List Int} {k n : Nat} {x y : Int} (hk : k < n) (h0 : k ≠ 0) (hx : l[k]? = some x) (hy : l[k - 1]? = some y) (h : y ≤ x) : fallsB l n = false := by
  rcases hb : fallsB l n with _ | _
  · rfl
  · have := fallsB_le (show k + 1 ≤ n from hk) hb
    simp only [fallsB, Bool.and_eq_true, Bool.or_eq_true, decide_eq_true_eq, getD_some hx, getD_some hy] at this
    omega
theorem fallsB_next {l : List Int} {k : Nat} {x y : Int} (h0 : k ≠ 0) (hx : l[k]? = some x) (hy : l[k - 1]? = some y) : fallsB l (k + 1) = (fallsB l k && decide (x < y)) := by
  rw [fallsB, getD_some hx, getD_some hy]; simp [h0]
/-- a door and its other one do not fit -/
abbrev pairBad (l : List XDoor) (i : Nat) (d : XDoor) : Prop :=
  d.other ≠ -1 ∧ (d.other < 0 ∨ (l.length : Int) ≤ d.other ∨ d.other = (i : Int) ∨ (l.getD d.other.toNat default).other ≠ (i : Int))
def doorErr (l : List XDoor) (i : Nat) : Option Int :=
  match l[i]? with
  | none => none
  | some d => if d.road < 0 then some 4 else if d.rests.l.length < 2 ∨ 6 < d.rests.l.length then some 2
    else match d.rests.l.findSome? restErr with
      | some e => some e
      | none => if fallsB d.rests.l d.rests.l.length = false then some 15 else if pairBad l i d then some 15 else none
/-- P8.1 -/
def doorsErr (l : List XDoor) : Int := if 16 < l.length then 2 else ((List.range l.length).findSome? (doorErr l)).getD 0

theorem doorErr_at {l : List XDoor} {i : Nat} {d : XDoor} (h : l[i]? = some d) : doorErr l i = if d.road < 0 then some 4 else if d.rests.l.length < 2 ∨ 6 < d.rests.l.length then some 2
    else match d.rests.l.findSome? restErr with
      | some e => some e
      | none => if fallsB d.rests.l d.rests.l.length = false then some 15 else if pairBad l i d then some 15 else none := by
  rw [doorErr, h]

theorem doorsErr_at {l : List XDoor} {k : Nat} {e : Int} (h16 : ¬ 16 < l.length) (hp : (List.range l.length).findSome? (doorErr l) = ((List.range l.length).drop k).findSome? (doorErr l)) (hk : k < l.length) (h : doorErr l k = some e) : doorsErr l = e := by
  rw [doorsErr, if_neg h16, FSR_some hp hk h]; rfl

theorem doorCheck_tri (x : Arr XDoor) (L : List Blk) (R : List Sl) (hm : InR (dsl x) R) :
    Tri Try.prog 37 [x.val].toArray L R (fun v L' R' => v = .int .i64 (doorsErr x.l) ∧ L = L' ∧ R = R') := by
  refine Tri_len Try.call37 hm fun hpn => ?_
  refine tri_enter 95 Try.call37 Try.func37 rfl rfl rfl ?_
  refine CJ_seq (CJ_region ?_)
  refine LJ_q (yv_assign (show _ = Value.int _ _ from rfl)) rfl ?_
  refine LJ_nil (seqK_normal (CJ_seq (CJ_seq (CJ_region ?_))))
  refine LJ_q (yv_move (show _ = Value.slice _ _ _ from rfl)) rfl ?_
  refine LJ_q (yv_len tb rfl rfl rfl) rfl ?_
  refine LJ_q (yv_gtr rfl rfl) rfl ?_
  refine LJ_nil (seqK_normal ?_)
  refine CJ_cond (show _ = Value.bool _ from rfl) (fun hc0 => ?_) (fun hc0 => ?_)
  ·
   try simp only [zb1, zb2, zb3, zb4, zb5, zb6, zb7, zb8] at hc0
   refine CJ_seq (CJ_region ?_)
   refine LJ_q (yv_assign (show _ = Value.int _ _ from rfl)) rfl ?_
   refine LJ_nil (seqK_normal (CJ_ret (seqK_ret ?_)))
   refine retK_ret (L' := L) (R' := R) (res1 rfl (rv_tmp (show _ = Value.int _ _ from rfl))) ?hp ?hL ?hR
   case hp => exact ⟨by rw [doorsErr, if_pos (by omega)], rfl, rfl⟩
   case hL => exact (by repeat (first | exact zs0 _ | exact zs1 _ | apply zs2 | apply zs3 | apply zs4 | apply zs5))
   case hR => exact allR_self _
  ·
   try simp only [zb1, zb2, zb3, zb4, zb5, zb6, zb7, zb8] at hc0
   refine CJ_skip (seqK_normal (CJ_seq (CJ_seq (CJ_region ?_))))
   refine LJ_q (yv_move (show _ = Value.slice _ _ _ from rfl)) rfl ?_
   refine LJ_q (yv_len tb rfl rfl rfl) rfl ?_
   refine LJ_q (yv_move (show _ = Value.int _ _ from rfl)) rfl ?_
   refine LJ_nil (seqK_normal (CJ_block ?_))
   refine CJ_forget [(0, Value.slice _ _ _), (11, Value.slice _ _ _), (12, Value.int _ _), (13, Value.int _ _)] (by repeat' (first | exact trivial | refine And.intro rfl ?_)) fun tq0 => ?_
   refine CJ_loopS [2, 3, 4, 5, 6, 7, 13, 14, 15, 16, 17, 18, 19, 20, 21, 22, 23, 24, 25, 26, 27, 28, 29, 30, 31, 32, 33, 34, 35, 36, 37, 38, 39, 40, 41, 42, 43, 44, 45, 46, 47, 48, 49, 50, 51, 52, 53, 54, 55, 56, 57, 58, 59, 60, 61, 62, 63, 64, 65, 66, 67, 68, 69, 70, 71, 72, 73, 74, 75, 76, 77, 78, 79, 80, 81, 82, 83, 84, 85, 86, 87, 88, 89, 90, 91, 92, 93, 94] (fun g : FSR (doorErr x.l) (x.l.length) => [(13, .int .i64 ((g.1 : Nat) : Int))]) (fun g => (x.l.length) - g.1) ⟨0, FSR_zero _ _⟩ (by repeat' (first | exact trivial | refine And.intro rfl ?_)) ?_
   rintro ⟨k0, hk0, hp0⟩ junk
   try dsimp only
   refine CJ_seq (CJ_region ?_)
   refine LJ_q (yv_lss rfl rfl) rfl ?_
   refine LJ_nil (seqK_normal (CJ_seq ?_))
   refine CJ_cond (show _ = Value.bool _ from rfl) (fun hc1 => ?_) (fun hc1 => ?_)
   ·
    try simp only [zb1, zb2, zb3, zb4, zb5, zb6, zb7, zb8] at hc1
    obtain ⟨d, hd⟩ := get_some (l := x.l) (k := k0) (by omega)
    have hdr := InR.door hm hd
    have hde := doorErr_at hd
    refine CJ_skip (seqK_normal (CJ_seq (CJ_block (CJ_seq (CJ_region ?_)))))
    refine LJ_q (yv_move (show _ = Value.int _ _ from rfl)) rfl ?_
    refine LJ_q (by first | exact yv_index_ro tb rfl rfl rfl rfl (by first | assumption | exact zr (by simp)) rfl (by omega) | exact yv_index tb rfl rfl rfl rfl rfl (by omega)) rfl ?_
    refine LJ_q (by first | exact yv_loadN_ro (row := [_, _, _]) tb rfl rfl rfl (by first | assumption | exact zr (by simp)) (by assumption) (by rfl) (by rfl) | exact yv_loadN (row := [_, _, _]) tb rfl rfl rfl (by repeat (first | exact zi0 | apply zi1 | apply zi2)) (by rfl) (by rfl)) rfl ?_
    refine LJ_alloc tb rfl rfl ?_
    intro b4
    refine LJ_q (yv_assign (show _ = Value.int _ _ from rfl)) rfl ?_
    refine LJ_storeW tb rfl rfl rfl rfl (by repeat (first | apply zu0 | apply zu1 | apply zu2)) (by rfl) (by rfl) ?_
    refine LJ_nil (seqK_normal (CJ_seq (CJ_seq (CJ_region ?_))))
    refine LJ_q (yv_field tb rfl rfl rfl) rfl ?_
    refine LJ_q (yv_load1 tb rfl rfl rfl (by repeat (first | exact zi0 | apply zi1 | apply zi2)) (by rfl)) rfl ?_
    refine LJ_q (yv_lss rfl rfl) rfl ?_
    refine LJ_nil (seqK_normal ?_)
    refine CJ_cond (show _ = Value.bool _ from rfl) (fun hc2 => ?_) (fun hc2 => ?_)
    ·
     try simp only [zb1, zb2, zb3, zb4, zb5, zb6, zb7, zb8] at hc2
     refine CJ_seq (CJ_region ?_)
     refine LJ_q (yv_assign (show _ = Value.int _ _ from rfl)) rfl ?_
     refine LJ_nil (seqK_normal (CJ_ret (seqK_ret (blockK_ret (seqK_ret (loopK_ret (blockK_ret (seqK_ret ?_))))))))
     refine retK_ret (L' := L) (R' := R) (res1 rfl (rv_tmp (show _ = Value.int _ _ from rfl))) ?hp ?hL ?hR
     case hp => exact ⟨by rw [doorsErr_at (by omega) hp0 (by omega) (hde.trans (if_pos (by omega)))], rfl, rfl⟩
     case hL => exact (by repeat (first | exact zs0 _ | exact zs1 _ | apply zs2 | apply zs3 | apply zs4 | apply zs5))
     case hR => exact allR_self _
    ·
     try simp only [zb1, zb2, zb3, zb4, zb5, zb6, zb7, zb8] at hc2
     refine CJ_skip (seqK_normal (CJ_seq (CJ_seq (CJ_region ?_))))
     refine LJ_q (yv_field tb rfl rfl rfl) rfl ?_
     refine LJ_q (yv_load1 tb rfl rfl rfl (by repeat (first | exact zi0 | apply zi1 | apply zi2)) (by rfl)) rfl ?_
     refine LJ_q (yv_len tb rfl rfl rfl) rfl ?_
     refine LJ_q (yv_lss rfl rfl) rfl ?_
     refine LJ_q (yv_move (show _ = Value.bool _ from rfl)) rfl ?_
     apply LJ_or (G := [_, _, _, _]) (j := 4) (cj := 25) rfl rfl (by rfl) rfl (show _ = Value.bool _ from rfl) rfl
     ·
      intro hg5
      try simp only [zb1, zb2, zb3, zb4, zb5, zb6, zb7, zb8] at hg5
      refine LJ_q (yv_field tb rfl rfl rfl) rfl ?_
      refine LJ_q (yv_load1 tb rfl rfl rfl (by repeat (first | exact zi0 | apply zi1 | apply zi2)) (by rfl)) rfl ?_
      refine LJ_q (yv_len tb rfl rfl rfl) rfl ?_
      refine LJ_q (yv_gtr rfl rfl) rfl ?_
      exact LJ_merge_end (show _ = Value.bool _ from rfl) (by repeat (first | exact Off.refl | apply Off.upd rfl | apply Off.havoc rfl | apply Off.updL rfl | apply Off.left rfl)) (by repeat (first | exact zs0 _ | exact zs1 _ | apply zs2 | apply zs3 | apply zs4 | apply zs5)) (by first | exact allR_self _ | exact fun r h => inR_self (by simp [h]))
     intro junk5
     refine LJ_nil (seqK_normal ?_)
     refine CJ_cond (show _ = Value.bool _ from rfl) (fun hc3 => ?_) (fun hc3 => ?_)
     ·
      try simp only [zb1, zb2, zb3, zb4, zb5, zb6, zb7, zb8] at hc3
      refine CJ_seq (CJ_region ?_)
      refine LJ_q (yv_assign (show _ = Value.int _ _ from rfl)) rfl ?_
      refine LJ_nil (seqK_normal (CJ_ret (seqK_ret (blockK_ret (seqK_ret (loopK_ret (blockK_ret (seqK_ret ?_))))))))
      refine retK_ret (L' := L) (R' := R) (res1 rfl (rv_tmp (show _ = Value.int _ _ from rfl))) ?hp ?hL ?hR
      case hp => exact ⟨by rw [doorsErr_at (by omega) hp0 (by omega) (hde.trans (by rw [if_neg (by omega), if_pos (by omega)]))], rfl, rfl⟩
      case hL => exact (by repeat (first | exact zs0 _ | exact zs1 _ | apply zs2 | apply zs3 | apply zs4 | apply zs5))
      case hR => exact allR_self _
     ·
      try simp only [zb1, zb2, zb3, zb4, zb5, zb6, zb7, zb8] at hc3
      rw [if_neg (by omega), if_neg (by omega)] at hde
      refine CJ_skip (seqK_normal (CJ_seq (CJ_region ?_)))
      refine LJ_q (yv_assign (show _ = Value.bool _ from rfl)) rfl ?_
      refine LJ_nil (seqK_normal (CJ_seq (CJ_seq (CJ_region ?_))))
      refine LJ_q (yv_field tb rfl rfl rfl) rfl ?_
      refine LJ_q (yv_load1 tb rfl rfl rfl (by repeat (first | exact zi0 | apply zi1 | apply zi2)) (by rfl)) rfl ?_
      refine LJ_q (yv_len tb rfl rfl rfl) rfl ?_
      refine LJ_q (yv_move (show _ = Value.int _ _ from rfl)) rfl ?_
      refine LJ_nil (seqK_normal (CJ_block ?_))
      refine CJ_forgetW [2, 3, 4, 5, 6, 7, 13, 14, 15, 16, 17, 18, 19, 20, 21, 22, 23, 24, 25, 26, 27, 28, 29, 30, 31, 32, 33, 34, 35, 36, 37, 38, 39, 40, 41, 42, 43, 44, 45, 46, 47, 48, 49, 50, 51, 52, 53, 54, 55, 56, 57, 58, 59, 60, 61, 62, 63, 64, 65, 66, 67, 68, 69, 70, 71, 72, 73, 74, 75, 76, 77, 78, 79, 80, 81, 82, 83, 84, 85, 86, 87, 88, 89, 90, 91, 92, 93, 94] (by repeat (first | apply Off.upd rfl | apply Off.havoc rfl | refine Off.updL (t' := havoc _ _ _) rfl ?_ | exact Off.refl)) [(3, Value.int _ _), (4, Value.pointer _), (5, Value.bool _), (13, Value.int _ _), (32, Value.slice _ _ _), (33, Value.int _ _), (34, Value.int _ _)] (by repeat' (first | exact trivial | refine And.intro rfl ?_)) fun tq1 => ?_
      refine CJ_loopS [2, 5, 6, 7, 34, 35, 36, 37, 38, 39, 40, 41, 42, 43, 44, 45, 46, 47, 48, 49, 50, 51, 52, 53, 54, 55, 56, 57, 58, 59, 60] (fun g : FS (restErr) (d.rests.l) => [(34, .int .i64 ((g.1 : Nat) : Int)), (5, .bool (fallsB d.rests.l g.1))]) (fun g => (d.rests.l).length - g.1) ⟨0, FS_zero _ _⟩ (by repeat' (first | exact trivial | refine And.intro rfl ?_)) ?_
      rintro ⟨k1, hk1, hp1⟩ junk
      try dsimp only
      refine CJ_seq (CJ_region ?_)
      refine LJ_q (yv_lss rfl rfl) rfl ?_
      refine LJ_nil (seqK_normal (CJ_seq ?_))
      refine CJ_cond (show _ = Value.bool _ from rfl) (fun hc4 => ?_) (fun hc4 => ?_)
      ·
       try simp only [zb1, zb2, zb3, zb4, zb5, zb6, zb7, zb8] at hc4
       obtain ⟨r, hr⟩ := get_some (l := d.rests.l) (k := k1) (by omega)
       refine CJ_skip (seqK_normal (CJ_seq (CJ_block (CJ_seq (CJ_region ?_)))))
       refine LJ_q (yv_move (show _ = Value.int _ _ from rfl)) rfl ?_
       refine LJ_q (by first | exact yv_index_ro tb rfl rfl rfl rfl (by first | assumption | exact zr (by simp)) rfl (by omega) | exact yv_index tb rfl rfl rfl rfl rfl (by omega)) rfl ?_
       refine LJ_q (by first | exact yv_load1_ro tb rfl rfl rfl (by first | assumption | exact zr (by simp)) (by assumption) (by rfl) | exact yv_load1 tb rfl rfl rfl (by repeat (first | exact zi0 | apply zi1 | apply zi2)) (by rfl) | exact yv_load1 tb rfl rfl rfl (by repeat (first | exact zi0 | apply zi1 | apply zi2)) (icell_get (by assumption)) | exact yv_load1 tb rfl rfl rfl (by repeat (first | exact zi0 | apply zi1 | apply zi2)) (rcell_get (fun _ => rfl) (by assumption) rfl)) rfl ?_
       refine LJ_q (yv_assign (show _ = Value.int _ _ from rfl)) rfl ?_
       refine LJ_q (yv_assign (show _ = Value.int _ _ from rfl)) rfl ?_
       refine LJ_nil (seqK_normal (CJ_seq (CJ_seq (CJ_region ?_))))
       refine LJ_q (yv_move (show _ = Value.int _ _ from rfl)) rfl ?_
       refine LJ_q (yv_lss rfl rfl) rfl ?_
       refine LJ_q (yv_move (show _ = Value.bool _ from rfl)) rfl ?_
       apply LJ_or (G := [_, _]) (j := 2) (cj := 41) rfl rfl (by rfl) rfl (show _ = Value.bool _ from rfl) rfl
       ·
        intro hg3
        try simp only [zb1, zb2, zb3, zb4, zb5, zb6, zb7, zb8] at hg3
        refine LJ_q (yv_move (show _ = Value.int _ _ from rfl)) rfl ?_
        refine LJ_q (yv_gtr rfl rfl) rfl ?_
        exact LJ_merge_end (show _ = Value.bool _ from rfl) (by repeat (first | exact Off.refl | apply Off.upd rfl | apply Off.havoc rfl | apply Off.updL rfl | apply Off.left rfl)) (by repeat (first | exact zs0 _ | exact zs1 _ | apply zs2 | apply zs3 | apply zs4 | apply zs5)) (by first | exact allR_self _ | exact fun r h => inR_self (by simp [h]))
       intro junk3
       refine LJ_nil (seqK_normal ?_)
       refine CJ_cond (show _ = Value.bool _ from rfl) (fun hc5 => ?_) (fun hc5 => ?_)
       ·
        try simp only [zb1, zb2, zb3, zb4, zb5, zb6, zb7, zb8] at hc5
        refine CJ_seq (CJ_region ?_)
        refine LJ_q (yv_assign (show _ = Value.int _ _ from rfl)) rfl ?_
        refine LJ_nil (seqK_normal (CJ_ret (seqK_ret (blockK_ret (seqK_ret (loopK_ret (blockK_ret (seqK_ret (blockK_ret (seqK_ret (loopK_ret (blockK_ret (seqK_ret ?_)))))))))))))
        refine retK_ret (L' := L) (R' := R) (res1 rfl (rv_tmp (show _ = Value.int _ _ from rfl))) ?hp ?hL ?hR
        case hp => exact ⟨by rw [doorsErr_at (by omega) hp0 (by omega) (hde.trans (by rw [FS_some hp1 hr (if_pos (by omega))]))], rfl, rfl⟩
        case hL => exact (by repeat (first | exact zs0 _ | exact zs1 _ | apply zs2 | apply zs3 | apply zs4 | apply zs5))
        case hR => exact allR_self _
       ·
        try simp only [zb1, zb2, zb3, zb4, zb5, zb6, zb7, zb8] at hc5
        refine CJ_skip (seqK_normal (CJ_region ?_))
        refine LJ_q (yv_move (show _ = Value.bool _ from rfl)) rfl ?_
        refine LJ_q (yv_move (show _ = Value.bool _ from rfl)) rfl ?_
        apply LJ_and (G := [_, _, _, _, _, _, _, _, _, _, _, _]) (j := 1) (cj := 46) rfl rfl (by rfl) rfl (show _ = Value.bool _ from rfl) rfl
        ·
         intro hg2
         try simp only [zb1, zb2, zb3, zb4, zb5, zb6, zb7, zb8] at hg2
         refine LJ_q (yv_move (show _ = Value.int _ _ from rfl)) rfl ?_
         refine LJ_q (yv_eql rfl rfl) rfl ?_
         refine LJ_q (yv_move (show _ = Value.bool _ from rfl)) rfl ?_
         apply LJ_or (G := [_, _, _, _, _, _, _, _]) (j := 4) (cj := 49) rfl rfl (by rfl) rfl (show _ = Value.bool _ from rfl) rfl
         ·
          intro hg5
          try simp only [zb1, zb2, zb3, zb4, zb5, zb6, zb7, zb8] at hg5
          have hy := get_D (l := d.rests.l) (k := k1 - 1) 0 (by omega)
          refine LJ_q (yv_move (show _ = Value.int _ _ from rfl)) rfl ?_
          refine LJ_q (yv_field tb rfl rfl rfl) rfl ?_
          refine LJ_q (yv_load1 tb rfl rfl rfl (by repeat (first | exact zi0 | apply zi1 | apply zi2)) (by rfl)) rfl ?_
          refine LJ_q (yv_move (show _ = Value.int _ _ from rfl)) rfl ?_
          refine LJ_q (by first | exact yv_sub64 rfl rfl (by omega) (by omega) | exact yv_sub rfl rfl) rfl ?_
          refine LJ_q (by first | exact yv_index_ro tb rfl rfl rfl rfl (by first | assumption | exact zr (by simp)) (i := k1 - 1) (by first | rfl | omega | (simp; omega)) (by omega) | exact yv_index tb rfl rfl rfl rfl (i := k1 - 1) (by first | rfl | omega | (simp; omega)) (by omega)) rfl ?_
          refine LJ_q (by first | exact yv_load1_ro tb rfl rfl rfl (by first | assumption | exact zr (by simp)) (by assumption) (by rfl) | exact yv_load1 tb rfl rfl rfl (by repeat (first | exact zi0 | apply zi1 | apply zi2)) (by rfl) | exact yv_load1 tb rfl rfl rfl (by repeat (first | exact zi0 | apply zi1 | apply zi2)) (icell_get (by assumption)) | exact yv_load1 tb rfl rfl rfl (by repeat (first | exact zi0 | apply zi1 | apply zi2)) (rcell_get (fun _ => rfl) (by assumption) rfl)) rfl ?_
          refine LJ_q (yv_lss rfl rfl) rfl ?_
          exact LJ_merge_end (show _ = Value.bool _ from rfl) (by repeat (first | exact Off.refl | apply Off.upd rfl | apply Off.havoc rfl | apply Off.updL rfl | apply Off.left rfl)) (by repeat (first | exact zs0 _ | exact zs1 _ | apply zs2 | apply zs3 | apply zs4 | apply zs5)) (by first | exact allR_self _ | exact fun r h => inR_self (by simp [h]))
         intro junk5
         exact LJ_merge_end (show _ = Value.bool _ from rfl) (by repeat (first | exact Off.refl | apply Off.upd rfl | apply Off.havoc rfl | apply Off.updL rfl | apply Off.left rfl)) (by repeat (first | exact zs0 _ | exact zs1 _ | apply zs2 | apply zs3 | apply zs4 | apply zs5)) (by first | exact allR_self _ | exact fun r h => inR_self (by simp [h]))
        intro junk2
        refine LJ_q (yv_assign (show _ = Value.bool _ from rfl)) rfl ?_
        refine LJ_nil (blockK_normal (seqK_normal (CJ_region ?_)))
        refine LJ_q (by first | exact yv_add64 rfl rfl (by omega) (by omega) | exact yv_addU rfl rfl (by omega) (by omega) | exact yv_add rfl rfl) rfl ?_
        refine LJ_q (yv_move (show _ = Value.int _ _ from rfl)) rfl ?_
        refine LJ_nil ?_
        exact loopK_mk ⟨k1 + 1, FS_next hp1 hr (if_neg (by omega))⟩ (by repeat (first | exact Off.refl | apply Off.upd rfl | apply Off.havoc rfl | apply Off.updL rfl | apply Off.left rfl)) ⟨rfl, congrArg Value.bool (fallsB_step hr), trivial⟩ (by repeat (first | exact zs0 _ | exact zs1 _ | apply zs2 | apply zs3 | apply zs4 | apply zs5)) (allR_self _) (by dsimp only; omega)
      ·
       try simp only [zb1, zb2, zb3, zb4, zb5, zb6, zb7, zb8] at hc4
       have hn1 := FS_none hp1 (by omega)
       obtain rfl : k1 = d.rests.l.length := by omega
       rw [hn1] at hde
       dsimp only at hde
       refine CJ_exit (seqK_exit (loopK_exit (blockK_exit (seqK_normal (CJ_seq (CJ_seq (CJ_region ?_)))))))
       refine LJ_q (yv_move (show _ = Value.bool _ from rfl)) rfl ?_
       refine LJ_q (yv_not rfl) rfl ?_
       refine LJ_nil (seqK_normal ?_)
       refine CJ_cond (show _ = Value.bool _ from rfl) (fun hc6 => ?_) (fun hc6 => ?_)
       ·
        try simp only [zb1, zb2, zb3, zb4, zb5, zb6, zb7, zb8] at hc6
        refine CJ_seq (CJ_region ?_)
        refine LJ_q (yv_assign (show _ = Value.int _ _ from rfl)) rfl ?_
        refine LJ_nil (seqK_normal (CJ_ret (seqK_ret (blockK_ret (seqK_ret (loopK_ret (blockK_ret (seqK_ret ?_))))))))
        refine retK_ret (L' := L) (R' := R) (res1 rfl (rv_tmp (show _ = Value.int _ _ from rfl))) ?hp ?hL ?hR
        case hp => exact ⟨by rw [doorsErr_at (by omega) hp0 (by omega) (hde.trans (by rw [if_pos hc6]))], rfl, rfl⟩
        case hL => exact (by repeat (first | exact zs0 _ | exact zs1 _ | apply zs2 | apply zs3 | apply zs4 | apply zs5))
        case hR => exact allR_self _
       ·
        try simp only [zb1, zb2, zb3, zb4, zb5, zb6, zb7, zb8] at hc6
        rw [if_neg (by simp [hc6])] at hde
        refine CJ_skip (seqK_normal (CJ_seq (CJ_region ?_)))
        refine LJ_q (yv_field tb rfl rfl rfl) rfl ?_
        refine LJ_q (yv_load1 tb rfl rfl rfl (by repeat (first | exact zi0 | apply zi1 | apply zi2)) (by rfl)) rfl ?_
        refine LJ_q (yv_neq rfl rfl) rfl ?_
        refine LJ_q (yv_move (show _ = Value.bool _ from rfl)) rfl ?_
        apply LJ_and (G := [_, _, _, _, _, _, _, _, _, _, _, _, _, _, _, _, _, _, _, _, _, _, _, _, _, _]) (j := 3) (cj := 66) rfl rfl (by rfl) rfl (show _ = Value.bool _ from rfl) rfl
        ·
         intro hg4
         try simp only [zb1, zb2, zb3, zb4, zb5, zb6, zb7, zb8] at hg4
         refine LJ_q (yv_field tb rfl rfl rfl) rfl ?_
         refine LJ_q (yv_load1 tb rfl rfl rfl (by repeat (first | exact zi0 | apply zi1 | apply zi2)) (by rfl)) rfl ?_
         refine LJ_q (yv_lss rfl rfl) rfl ?_
         refine LJ_q (yv_move (show _ = Value.bool _ from rfl)) rfl ?_
         apply LJ_or (G := [_, _, _, _, _]) (j := 7) (cj := 70) rfl rfl (by rfl) rfl (show _ = Value.bool _ from rfl) rfl
         ·
          intro hg8
          try simp only [zb1, zb2, zb3, zb4, zb5, zb6, zb7, zb8] at hg8
          refine LJ_q (yv_field tb rfl rfl rfl) rfl ?_
          refine LJ_q (yv_load1 tb rfl rfl rfl (by repeat (first | exact zi0 | apply zi1 | apply zi2)) (by rfl)) rfl ?_
          refine LJ_q (yv_move (show _ = Value.slice _ _ _ from rfl)) rfl ?_
          refine LJ_q (yv_len tb rfl rfl rfl) rfl ?_
          refine LJ_q (yv_geq rfl rfl) rfl ?_
          exact LJ_merge_end (show _ = Value.bool _ from rfl) (by repeat (first | exact Off.refl | apply Off.upd rfl | apply Off.havoc rfl | apply Off.updL rfl | apply Off.left rfl)) (by repeat (first | exact zs0 _ | exact zs1 _ | apply zs2 | apply zs3 | apply zs4 | apply zs5)) (by first | exact allR_self _ | exact fun r h => inR_self (by simp [h]))
         intro junk8
         refine LJ_q (yv_move (show _ = Value.bool _ from rfl)) rfl ?_
         apply LJ_or (G := [_, _, _, _]) (j := 14) (cj := 77) rfl rfl (by rfl) rfl (show _ = Value.bool _ from rfl) rfl
         ·
          intro hg15
          try simp only [zb1, zb2, zb3, zb4, zb5, zb6, zb7, zb8] at hg15
          refine LJ_q (yv_field tb rfl rfl rfl) rfl ?_
          refine LJ_q (yv_load1 tb rfl rfl rfl (by repeat (first | exact zi0 | apply zi1 | apply zi2)) (by rfl)) rfl ?_
          refine LJ_q (yv_move (show _ = Value.int _ _ from rfl)) rfl ?_
          refine LJ_q (yv_eql rfl rfl) rfl ?_
          exact LJ_merge_end (show _ = Value.bool _ from rfl) (by repeat (first | exact Off.refl | apply Off.upd rfl | apply Off.havoc rfl | apply Off.updL rfl | apply Off.left rfl)) (by repeat (first | exact zs0 _ | exact zs1 _ | apply zs2 | apply zs3 | apply zs4 | apply zs5)) (by first | exact allR_self _ | exact fun r h => inR_self (by simp [h]))
         intro junk15
         refine LJ_q (yv_move (show _ = Value.bool _ from rfl)) rfl ?_
         apply LJ_or (G := [_, _, _, _, _, _, _, _]) (j := 20) (cj := 83) rfl rfl (by rfl) rfl (show _ = Value.bool _ from rfl) rfl
         ·
          intro hg21
          try simp only [zb1, zb2, zb3, zb4, zb5, zb6, zb7, zb8] at hg21
          have ho := get_D (l := x.l) (k := d.other.toNat) default (by omega)
          refine LJ_q (yv_move (show _ = Value.slice _ _ _ from rfl)) rfl ?_
          refine LJ_q (yv_field tb rfl rfl rfl) rfl ?_
          refine LJ_q (yv_load1 tb rfl rfl rfl (by repeat (first | exact zi0 | apply zi1 | apply zi2)) (by rfl)) rfl ?_
          refine LJ_q (by first | exact yv_index_ro tb rfl rfl rfl rfl (by first | assumption | exact zr (by simp)) (i := d.other.toNat) (by first | rfl | omega | (simp; omega)) (by omega) | exact yv_index tb rfl rfl rfl rfl (i := d.other.toNat) (by first | rfl | omega | (simp; omega)) (by omega)) rfl ?_
          refine LJ_q (yv_field_eo tb rfl rfl rfl) rfl ?_
          refine LJ_q (by first | exact yv_load1_ro tb rfl rfl rfl (by first | assumption | exact zr (by simp)) (by assumption) (by rfl) | exact yv_load1 tb rfl rfl rfl (by repeat (first | exact zi0 | apply zi1 | apply zi2)) (by rfl) | exact yv_load1 tb rfl rfl rfl (by repeat (first | exact zi0 | apply zi1 | apply zi2)) (icell_get (by assumption)) | exact yv_load1 tb rfl rfl rfl (by repeat (first | exact zi0 | apply zi1 | apply zi2)) (rcell_get (fun _ => rfl) (by assumption) rfl)) rfl ?_
          refine LJ_q (yv_move (show _ = Value.int _ _ from rfl)) rfl ?_
          refine LJ_q (yv_neq rfl rfl) rfl ?_
          exact LJ_merge_end (show _ = Value.bool _ from rfl) (by repeat (first | exact Off.refl | apply Off.upd rfl | apply Off.havoc rfl | apply Off.updL rfl | apply Off.left rfl)) (by repeat (first | exact zs0 _ | exact zs1 _ | apply zs2 | apply zs3 | apply zs4 | apply zs5)) (by first | exact allR_self _ | exact fun r h => inR_self (by simp [h]))
         intro junk21
         exact LJ_merge_end (show _ = Value.bool _ from rfl) (by repeat (first | exact Off.refl | apply Off.upd rfl | apply Off.havoc rfl | apply Off.updL rfl | apply Off.left rfl)) (by repeat (first | exact zs0 _ | exact zs1 _ | apply zs2 | apply zs3 | apply zs4 | apply zs5)) (by first | exact allR_self _ | exact fun r h => inR_self (by simp [h]))
        intro junk4
        refine LJ_nil (seqK_normal ?_)
        refine CJ_cond (show _ = Value.bool _ from rfl) (fun hc7 => ?_) (fun hc7 => ?_)
        ·
         try simp only [zb1, zb2, zb3, zb4, zb5, zb6, zb7, zb8] at hc7
         refine CJ_seq (CJ_region ?_)
         refine LJ_q (yv_assign (show _ = Value.int _ _ from rfl)) rfl ?_
         refine LJ_nil (seqK_normal (CJ_ret (blockK_ret (seqK_ret (loopK_ret (blockK_ret (seqK_ret ?_)))))))
         refine retK_ret (L' := L) (R' := R) (res1 rfl (rv_tmp (show _ = Value.int _ _ from rfl))) ?hp ?hL ?hR
         case hp => exact ⟨by rw [doorsErr_at (by omega) hp0 (by omega) (hde.trans (by rw [if_pos (by omega)]))], rfl, rfl⟩
         case hL => exact (by repeat (first | exact zs0 _ | exact zs1 _ | apply zs2 | apply zs3 | apply zs4 | apply zs5))
         case hR => exact allR_self _
        ·
         try simp only [zb1, zb2, zb3, zb4, zb5, zb6, zb7, zb8] at hc7
         refine CJ_skip (blockK_normal (seqK_normal (CJ_region ?_)))
         refine LJ_q (by first | exact yv_add64 rfl rfl (by omega) (by omega) | exact yv_addU rfl rfl (by omega) (by omega) | exact yv_add rfl rfl) rfl ?_
         refine LJ_q (yv_move (show _ = Value.int _ _ from rfl)) rfl ?_
         refine LJ_nil ?_
         exact loopK_mk ⟨k0 + 1, FSR_next hp0 (by omega) (hde.trans (if_neg (by omega)))⟩ (by repeat (first | exact Off.refl | apply Off.upd rfl | apply Off.havoc rfl | apply Off.updL rfl | apply Off.left rfl)) (by repeat' (first | exact trivial | refine And.intro rfl ?_)) (by repeat (first | exact zs0 _ | exact zs1 _ | apply zs2 | apply zs3 | apply zs4 | apply zs5)) (allR_self _) (by dsimp only; omega)
   ·
    try simp only [zb1, zb2, zb3, zb4, zb5, zb6, zb7, zb8] at hc1
    have hn0 := FSR_none hp0 (by omega)
    refine CJ_exit (seqK_exit (loopK_exit (blockK_exit (seqK_normal (CJ_seq (CJ_region ?_))))))
    refine LJ_q (yv_assign (show _ = Value.int _ _ from rfl)) rfl ?_
    refine LJ_nil (seqK_normal (CJ_ret ?_))
    refine retK_ret (L' := L) (R' := R) (res1 rfl (rv_tmp (show _ = Value.int _ _ from rfl))) ?hp ?hL ?hR
    case hp => exact ⟨by rw [doorsErr, if_neg (by omega), hn0]; rfl, rfl, rfl⟩
    case hL => exact (by repeat (first | exact zs0 _ | exact zs1 _ | apply zs2 | apply zs3 | apply zs4 | apply zs5))
    case hR => exact allR_self _

theorem ref08Check_tri (x : Arr XDoor) (L : List Blk) (R : List Sl) (hm : InR (dsl x) R) :
    Tri Try.prog 40 [x.val].toArray L R (fun v L' R' => v = .int .i64 (doorsErr x.l) ∧ L = L' ∧ R = R') := by
  refine Tri_len Try.call40 hm fun hpn => ?_
  refine tri_enter 104 Try.call40 Try.func40 rfl rfl rfl ?_
  refine CJ_seq (CJ_region ?_)
  refine LJ_q (yv_assign (show _ = Value.int _ _ from rfl)) rfl ?_
  refine LJ_nil (seqK_normal (CJ_seq (CJ_seq (CJ_region ?_))))
  refine LJ_q (yv_move (show _ = Value.slice _ _ _ from rfl)) rfl ?_
  refine LJ_q (yv_len tb rfl rfl rfl) rfl ?_
  refine LJ_q (yv_gtr rfl rfl) rfl ?_
  refine LJ_nil (seqK_normal ?_)
  refine CJ_cond (show _ = Value.bool _ from rfl) (fun hc0 => ?_) (fun hc0 => ?_)
  ·
   try simp only [zb1, zb2, zb3, zb4, zb5, zb6, zb7, zb8] at hc0
   refine CJ_seq (CJ_region ?_)
   refine LJ_q (yv_assign (show _ = Value.int _ _ from rfl)) rfl ?_
   refine LJ_nil (seqK_normal (CJ_ret (seqK_ret ?_)))
   refine retK_ret (L' := L) (R' := R) (res1 rfl (rv_tmp (show _ = Value.int _ _ from rfl))) ?hp ?hL ?hR
   case hp => exact ⟨by rw [doorsErr, if_pos (by omega)], rfl, rfl⟩
   case hL => exact (by repeat (first | exact zs0 _ | exact zs1 _ | apply zs2 | apply zs3 | apply zs4 | apply zs5))
   case hR => exact allR_self _
  ·
   try simp only [zb1, zb2, zb3, zb4, zb5, zb6, zb7, zb8] at hc0
   refine CJ_skip (seqK_normal (CJ_seq (CJ_seq (CJ_region ?_))))
   refine LJ_q (yv_assign (show _ = Value.int _ _ from rfl)) rfl ?_
   refine LJ_nil (seqK_normal (CJ_block ?_))
   refine CJ_forget [(0, Value.slice _ _ _), (3, Value.int _ _)] (by repeat' (first | exact trivial | refine And.intro rfl ?_)) fun tq0 => ?_
   refine CJ_loopS [2, 3, 4, 5, 6, 10, 11, 12, 13, 14, 15, 16, 17, 18, 19, 20, 21, 22, 23, 24, 25, 26, 27, 28, 29, 30, 31, 32, 33, 34, 35, 36, 37, 38, 39, 40, 41, 42, 43, 44, 45, 46, 47, 48, 49, 50, 51, 52, 53, 54, 55, 56, 57, 58, 59, 60, 61, 62, 63, 64, 65, 66, 67, 68, 69, 70, 71, 72, 73, 74, 75, 76, 77, 78, 79, 80, 81, 82, 83, 84, 85, 86, 87, 88, 89, 90, 91, 92, 93, 94, 95, 96, 97, 98, 99, 100, 101, 102, 103] (fun g : FSR (doorErr x.l) (x.l.length) => [(3, .int .i64 ((g.1 : Nat) : Int))]) (fun g => (x.l.length) - g.1) ⟨0, FSR_zero _ _⟩ (by repeat' (first | exact trivial | refine And.intro rfl ?_)) ?_
   rintro ⟨k0, hk0, hp0⟩ junk
   try dsimp only
   refine CJ_seq (CJ_seq (CJ_region ?_))
   refine LJ_q (yv_move (show _ = Value.int _ _ from rfl)) rfl ?_
   refine LJ_q (yv_move (show _ = Value.slice _ _ _ from rfl)) rfl ?_
   refine LJ_q (yv_len tb rfl rfl rfl) rfl ?_
   refine LJ_q (yv_lss rfl rfl) rfl ?_
   refine LJ_nil (seqK_normal ?_)
   refine CJ_cond (show _ = Value.bool _ from rfl) (fun hc1 => ?_) (fun hc1 => ?_)
   ·
    try simp only [zb1, zb2, zb3, zb4, zb5, zb6, zb7, zb8] at hc1
    obtain ⟨d, hd⟩ := get_some (l := x.l) (k := k0) (by omega)
    have hdr := InR.door hm hd
    have hde := doorErr_at hd
    refine CJ_skip (seqK_normal (CJ_seq (CJ_block (CJ_seq (CJ_region ?_)))))
    refine LJ_q (yv_move (show _ = Value.slice _ _ _ from rfl)) rfl ?_
    refine LJ_q (yv_move (show _ = Value.int _ _ from rfl)) rfl ?_
    refine LJ_q (by first | exact yv_index_ro tb rfl rfl rfl rfl (by first | assumption | exact zr (by simp)) rfl (by omega) | exact yv_index tb rfl rfl rfl rfl rfl (by omega)) rfl ?_
    refine LJ_q (by first | exact yv_loadN_ro (row := [_, _, _]) tb rfl rfl rfl (by first | assumption | exact zr (by simp)) (by assumption) (by rfl) (by rfl) | exact yv_loadN (row := [_, _, _]) tb rfl rfl rfl (by repeat (first | exact zi0 | apply zi1 | apply zi2)) (by rfl) (by rfl)) rfl ?_
    refine LJ_alloc tb rfl rfl ?_
    intro b4
    refine LJ_storeW tb rfl rfl rfl rfl (by repeat (first | apply zu0 | apply zu1 | apply zu2)) (by rfl) (by rfl) ?_
    refine LJ_nil (seqK_normal (CJ_seq (CJ_seq (CJ_region ?_))))
    refine LJ_q (yv_field tb rfl rfl rfl) rfl ?_
    refine LJ_q (yv_load1 tb rfl rfl rfl (by repeat (first | exact zi0 | apply zi1 | apply zi2)) (by rfl)) rfl ?_
    refine LJ_q (yv_lss rfl rfl) rfl ?_
    refine LJ_nil (seqK_normal ?_)
    refine CJ_cond (show _ = Value.bool _ from rfl) (fun hc2 => ?_) (fun hc2 => ?_)
    ·
     try simp only [zb1, zb2, zb3, zb4, zb5, zb6, zb7, zb8] at hc2
     refine CJ_seq (CJ_region ?_)
     refine LJ_q (yv_assign (show _ = Value.int _ _ from rfl)) rfl ?_
     refine LJ_nil (seqK_normal (CJ_ret (seqK_ret (blockK_ret (seqK_ret (loopK_ret (blockK_ret (seqK_ret ?_))))))))
     refine retK_ret (L' := L) (R' := R) (res1 rfl (rv_tmp (show _ = Value.int _ _ from rfl))) ?hp ?hL ?hR
     case hp => exact ⟨by rw [doorsErr_at (by omega) hp0 (by omega) (hde.trans (if_pos (by omega)))], rfl, rfl⟩
     case hL => exact (by repeat (first | exact zs0 _ | exact zs1 _ | apply zs2 | apply zs3 | apply zs4 | apply zs5))
     case hR => exact allR_self _
    ·
     try simp only [zb1, zb2, zb3, zb4, zb5, zb6, zb7, zb8] at hc2
     refine CJ_skip (seqK_normal (CJ_seq (CJ_seq (CJ_region ?_))))
     refine LJ_q (yv_field tb rfl rfl rfl) rfl ?_
     refine LJ_q (yv_load1 tb rfl rfl rfl (by repeat (first | exact zi0 | apply zi1 | apply zi2)) (by rfl)) rfl ?_
     refine LJ_q (yv_len tb rfl rfl rfl) rfl ?_
     refine LJ_q (yv_lss rfl rfl) rfl ?_
     refine LJ_q (yv_move (show _ = Value.bool _ from rfl)) rfl ?_
     apply LJ_or (G := [_, _, _, _]) (j := 4) (cj := 27) rfl rfl (by rfl) rfl (show _ = Value.bool _ from rfl) rfl
     ·
      intro hg5
      try simp only [zb1, zb2, zb3, zb4, zb5, zb6, zb7, zb8] at hg5
      refine LJ_q (yv_field tb rfl rfl rfl) rfl ?_
      refine LJ_q (yv_load1 tb rfl rfl rfl (by repeat (first | exact zi0 | apply zi1 | apply zi2)) (by rfl)) rfl ?_
      refine LJ_q (yv_len tb rfl rfl rfl) rfl ?_
      refine LJ_q (yv_gtr rfl rfl) rfl ?_
      exact LJ_merge_end (show _ = Value.bool _ from rfl) (by repeat (first | exact Off.refl | apply Off.upd rfl | apply Off.havoc rfl | apply Off.updL rfl | apply Off.left rfl)) (by repeat (first | exact zs0 _ | exact zs1 _ | apply zs2 | apply zs3 | apply zs4 | apply zs5)) (by first | exact allR_self _ | exact fun r h => inR_self (by simp [h]))
     intro junk5
     refine LJ_nil (seqK_normal ?_)
     refine CJ_cond (show _ = Value.bool _ from rfl) (fun hc3 => ?_) (fun hc3 => ?_)
     ·
      try simp only [zb1, zb2, zb3, zb4, zb5, zb6, zb7, zb8] at hc3
      refine CJ_seq (CJ_region ?_)
      refine LJ_q (yv_assign (show _ = Value.int _ _ from rfl)) rfl ?_
      refine LJ_nil (seqK_normal (CJ_ret (seqK_ret (blockK_ret (seqK_ret (loopK_ret (blockK_ret (seqK_ret ?_))))))))
      refine retK_ret (L' := L) (R' := R) (res1 rfl (rv_tmp (show _ = Value.int _ _ from rfl))) ?hp ?hL ?hR
      case hp => exact ⟨by rw [doorsErr_at (by omega) hp0 (by omega) (hde.trans (by rw [if_neg (by omega), if_pos (by omega)]))], rfl, rfl⟩
      case hL => exact (by repeat (first | exact zs0 _ | exact zs1 _ | apply zs2 | apply zs3 | apply zs4 | apply zs5))
      case hR => exact allR_self _
     ·
      try simp only [zb1, zb2, zb3, zb4, zb5, zb6, zb7, zb8] at hc3
      rw [if_neg (by omega), if_neg (by omega)] at hde
      refine CJ_skip (seqK_normal (CJ_seq (CJ_seq (CJ_region ?_))))
      refine LJ_q (yv_assign (show _ = Value.int _ _ from rfl)) rfl ?_
      refine LJ_nil (seqK_normal (CJ_block ?_))
      refine CJ_forgetW [2, 3, 4, 5, 6, 10, 11, 12, 13, 14, 15, 16, 17, 18, 19, 20, 21, 22, 23, 24, 25, 26, 27, 28, 29, 30, 31, 32, 33, 34, 35, 36, 37, 38, 39, 40, 41, 42, 43, 44, 45, 46, 47, 48, 49, 50, 51, 52, 53, 54, 55, 56, 57, 58, 59, 60, 61, 62, 63, 64, 65, 66, 67, 68, 69, 70, 71, 72, 73, 74, 75, 76, 77, 78, 79, 80, 81, 82, 83, 84, 85, 86, 87, 88, 89, 90, 91, 92, 93, 94, 95, 96, 97, 98, 99, 100, 101, 102, 103] (by repeat (first | apply Off.upd rfl | apply Off.havoc rfl | refine Off.updL (t' := havoc _ _ _) rfl ?_ | exact Off.refl)) [(3, Value.int _ _), (4, Value.pointer _), (5, Value.int _ _)] (by repeat' (first | exact trivial | refine And.intro rfl ?_)) fun tq1 => ?_
      refine CJ_loopS [2, 5, 33, 34, 35, 36, 37, 38, 39, 40, 41, 42, 43, 44, 45, 46, 47, 48, 49, 50, 51, 52, 53] (fun g : FS (restErr) (d.rests.l) => [(5, .int .i64 ((g.1 : Nat) : Int))]) (fun g => (d.rests.l).length - g.1) ⟨0, FS_zero _ _⟩ (by repeat' (first | exact trivial | refine And.intro rfl ?_)) ?_
      rintro ⟨k1, hk1, hp1⟩ junk
      try dsimp only
      refine CJ_seq (CJ_seq (CJ_region ?_))
      refine LJ_q (yv_move (show _ = Value.int _ _ from rfl)) rfl ?_
      refine LJ_q (yv_field tb rfl rfl rfl) rfl ?_
      refine LJ_q (yv_load1 tb rfl rfl rfl (by repeat (first | exact zi0 | apply zi1 | apply zi2)) (by rfl)) rfl ?_
      refine LJ_q (yv_len tb rfl rfl rfl) rfl ?_
      refine LJ_q (yv_lss rfl rfl) rfl ?_
      refine LJ_nil (seqK_normal ?_)
      refine CJ_cond (show _ = Value.bool _ from rfl) (fun hc4 => ?_) (fun hc4 => ?_)
      ·
       try simp only [zb1, zb2, zb3, zb4, zb5, zb6, zb7, zb8] at hc4
       obtain ⟨r, hr⟩ := get_some (l := d.rests.l) (k := k1) (by omega)
       refine CJ_skip (seqK_normal (CJ_seq (CJ_block (CJ_seq (CJ_region ?_)))))
       refine LJ_q (yv_field tb rfl rfl rfl) rfl ?_
       refine LJ_q (yv_load1 tb rfl rfl rfl (by repeat (first | exact zi0 | apply zi1 | apply zi2)) (by rfl)) rfl ?_
       refine LJ_q (yv_move (show _ = Value.int _ _ from rfl)) rfl ?_
       refine LJ_q (by first | exact yv_index_ro tb rfl rfl rfl rfl (by first | assumption | exact zr (by simp)) rfl (by omega) | exact yv_index tb rfl rfl rfl rfl rfl (by omega)) rfl ?_
       refine LJ_q (by first | exact yv_load1_ro tb rfl rfl rfl (by first | assumption | exact zr (by simp)) (by assumption) (by rfl) | exact yv_load1 tb rfl rfl rfl (by repeat (first | exact zi0 | apply zi1 | apply zi2)) (by rfl) | exact yv_load1 tb rfl rfl rfl (by repeat (first | exact zi0 | apply zi1 | apply zi2)) (icell_get (by assumption)) | exact yv_load1 tb rfl rfl rfl (by repeat (first | exact zi0 | apply zi1 | apply zi2)) (rcell_get (fun _ => rfl) (by assumption) rfl)) rfl ?_
       refine LJ_q (yv_lss rfl rfl) rfl ?_
       refine LJ_q (yv_move (show _ = Value.bool _ from rfl)) rfl ?_
       apply LJ_or (G := [_, _, _, _, _, _]) (j := 6) (cj := 46) rfl rfl (by rfl) rfl (show _ = Value.bool _ from rfl) rfl
       ·
        intro hg7
        try simp only [zb1, zb2, zb3, zb4, zb5, zb6, zb7, zb8] at hg7
        refine LJ_q (yv_field tb rfl rfl rfl) rfl ?_
        refine LJ_q (yv_load1 tb rfl rfl rfl (by repeat (first | exact zi0 | apply zi1 | apply zi2)) (by rfl)) rfl ?_
        refine LJ_q (yv_move (show _ = Value.int _ _ from rfl)) rfl ?_
        refine LJ_q (by first | exact yv_index_ro tb rfl rfl rfl rfl (by first | assumption | exact zr (by simp)) rfl (by omega) | exact yv_index tb rfl rfl rfl rfl rfl (by omega)) rfl ?_
        refine LJ_q (by first | exact yv_load1_ro tb rfl rfl rfl (by first | assumption | exact zr (by simp)) (by assumption) (by rfl) | exact yv_load1 tb rfl rfl rfl (by repeat (first | exact zi0 | apply zi1 | apply zi2)) (by rfl) | exact yv_load1 tb rfl rfl rfl (by repeat (first | exact zi0 | apply zi1 | apply zi2)) (icell_get (by assumption)) | exact yv_load1 tb rfl rfl rfl (by repeat (first | exact zi0 | apply zi1 | apply zi2)) (rcell_get (fun _ => rfl) (by assumption) rfl)) rfl ?_
        refine LJ_q (yv_gtr rfl rfl) rfl ?_
        exact LJ_merge_end (show _ = Value.bool _ from rfl) (by repeat (first | exact Off.refl | apply Off.upd rfl | apply Off.havoc rfl | apply Off.updL rfl | apply Off.left rfl)) (by repeat (first | exact zs0 _ | exact zs1 _ | apply zs2 | apply zs3 | apply zs4 | apply zs5)) (by first | exact allR_self _ | exact fun r h => inR_self (by simp [h]))
       intro junk7
       refine LJ_nil (seqK_normal ?_)
       refine CJ_cond (show _ = Value.bool _ from rfl) (fun hc5 => ?_) (fun hc5 => ?_)
       ·
        try simp only [zb1, zb2, zb3, zb4, zb5, zb6, zb7, zb8] at hc5
        refine CJ_seq (CJ_region ?_)
        refine LJ_q (yv_assign (show _ = Value.int _ _ from rfl)) rfl ?_
        refine LJ_nil (seqK_normal (CJ_ret (blockK_ret (seqK_ret (loopK_ret (blockK_ret (seqK_ret (blockK_ret (seqK_ret (loopK_ret (blockK_ret (seqK_ret ?_))))))))))))
        refine retK_ret (L' := L) (R' := R) (res1 rfl (rv_tmp (show _ = Value.int _ _ from rfl))) ?hp ?hL ?hR
        case hp => exact ⟨by rw [doorsErr_at (by omega) hp0 (by omega) (hde.trans (by rw [FS_some hp1 hr (if_pos (by omega))]))], rfl, rfl⟩
        case hL => exact (by repeat (first | exact zs0 _ | exact zs1 _ | apply zs2 | apply zs3 | apply zs4 | apply zs5))
        case hR => exact allR_self _
       ·
        try simp only [zb1, zb2, zb3, zb4, zb5, zb6, zb7, zb8] at hc5
        refine CJ_skip (blockK_normal (seqK_normal (CJ_region ?_)))
        refine LJ_q (yv_move (show _ = Value.int _ _ from rfl)) rfl ?_
        refine LJ_q (by first | exact yv_add64 rfl rfl (by omega) (by omega) | exact yv_addU rfl rfl (by omega) (by omega) | exact yv_add rfl rfl) rfl ?_
        refine LJ_q (yv_assign (show _ = Value.int _ _ from rfl)) rfl ?_
        refine LJ_nil ?_
        exact loopK_mk ⟨k1 + 1, FS_next hp1 hr (if_neg (by omega))⟩ (by repeat (first | exact Off.refl | apply Off.upd rfl | apply Off.havoc rfl | apply Off.updL rfl | apply Off.left rfl)) (by repeat' (first | exact trivial | refine And.intro rfl ?_)) (by repeat (first | exact zs0 _ | exact zs1 _ | apply zs2 | apply zs3 | apply zs4 | apply zs5)) (allR_self _) (by dsimp only; omega)
      ·
       try simp only [zb1, zb2, zb3, zb4, zb5, zb6, zb7, zb8] at hc4
       have hn1 := FS_none hp1 (by omega)
       rw [hn1] at hde
       dsimp only at hde
       refine CJ_exit (seqK_exit (loopK_exit (blockK_exit (seqK_normal (CJ_seq (CJ_seq (CJ_region ?_)))))))
       refine LJ_q (yv_assign (show _ = Value.int _ _ from rfl)) rfl ?_
       refine LJ_nil (seqK_normal (CJ_block ?_))
       refine CJ_forgetW [2, 3, 4, 5, 6, 10, 11, 12, 13, 14, 15, 16, 17, 18, 19, 20, 21, 22, 23, 24, 25, 26, 27, 28, 29, 30, 31, 32, 33, 34, 35, 36, 37, 38, 39, 40, 41, 42, 43, 44, 45, 46, 47, 48, 49, 50, 51, 52, 53, 54, 55, 56, 57, 58, 59, 60, 61, 62, 63, 64, 65, 66, 67, 68, 69, 70, 71, 72, 73, 74, 75, 76, 77, 78, 79, 80, 81, 82, 83, 84, 85, 86, 87, 88, 89, 90, 91, 92, 93, 94, 95, 96, 97, 98, 99, 100, 101, 102, 103] (by repeat (first | apply Off.upd rfl | apply Off.havoc rfl | refine Off.updL (t' := havoc _ _ _) rfl ?_ | exact Off.refl)) [(3, Value.int _ _), (4, Value.pointer _), (6, Value.int _ _)] (by repeat' (first | exact trivial | refine And.intro rfl ?_)) fun tq2 => ?_
       refine CJ_loopS [2, 6, 54, 55, 56, 57, 58, 59, 60, 61, 62, 63, 64, 65, 66, 67, 68, 69, 70, 71, 72] (fun g : {k : Nat // 1 ≤ k ∧ k ≤ d.rests.l.length ∧ fallsB d.rests.l k = true} => [(6, .int .i64 ((g.1 : Nat) : Int))]) (fun g => d.rests.l.length - g.1) (⟨1, by omega, by omega, by simp [fallsB]⟩) (by repeat' (first | exact trivial | refine And.intro rfl ?_)) ?_
       rintro ⟨k2, h21, h22, h23⟩ junk
       try dsimp only
       refine CJ_seq (CJ_seq (CJ_region ?_))
       refine LJ_q (yv_move (show _ = Value.int _ _ from rfl)) rfl ?_
       refine LJ_q (yv_field tb rfl rfl rfl) rfl ?_
       refine LJ_q (yv_load1 tb rfl rfl rfl (by repeat (first | exact zi0 | apply zi1 | apply zi2)) (by rfl)) rfl ?_
       refine LJ_q (yv_len tb rfl rfl rfl) rfl ?_
       refine LJ_q (yv_lss rfl rfl) rfl ?_
       refine LJ_nil (seqK_normal ?_)
       refine CJ_cond (show _ = Value.bool _ from rfl) (fun hc6 => ?_) (fun hc6 => ?_)
       ·
        try simp only [zb1, zb2, zb3, zb4, zb5, zb6, zb7, zb8] at hc6
        obtain ⟨r, hr⟩ := get_some (l := d.rests.l) (k := k2) (by omega)
        obtain ⟨y, hy⟩ := get_some (l := d.rests.l) (k := k2 - 1) (by omega)
        refine CJ_skip (seqK_normal (CJ_seq (CJ_block (CJ_seq ?_))))
        refine CJ_drawn tb [0, 1, 2, 3, 4, 5, 6, 7, 8, 9, 10, 11] _ mixed (by kernel_rfl) (List.Sublist.refl _) ?_
        refine DJ_q (yv_field tb rfl rfl rfl) rfl rfl rfl ?_
        refine DJ_q (yv_load1 tb rfl rfl rfl (by repeat (first | exact zi0 | apply zi1 | apply zi2)) (by rfl)) rfl rfl rfl ?_
        refine DJ_q (yv_move (show _ = Value.int _ _ from rfl)) rfl rfl rfl ?_
        refine DJ_q (by first | exact yv_index_ro tb rfl rfl rfl rfl (by first | assumption | exact zr (by simp)) rfl (by omega) | exact yv_index tb rfl rfl rfl rfl rfl (by omega)) rfl rfl rfl ?_
        refine DJ_q (by first | exact yv_load1_ro tb rfl rfl rfl (by first | assumption | exact zr (by simp)) (by assumption) (by rfl) | exact yv_load1 tb rfl rfl rfl (by repeat (first | exact zi0 | apply zi1 | apply zi2)) (by rfl) | exact yv_load1 tb rfl rfl rfl (by repeat (first | exact zi0 | apply zi1 | apply zi2)) (icell_get (by assumption)) | exact yv_load1 tb rfl rfl rfl (by repeat (first | exact zi0 | apply zi1 | apply zi2)) (rcell_get (fun _ => rfl) (by assumption) rfl)) rfl rfl rfl ?_
        refine DJ_q (yv_field tb rfl rfl rfl) rfl rfl rfl ?_
        refine DJ_q (yv_load1 tb rfl rfl rfl (by repeat (first | exact zi0 | apply zi1 | apply zi2)) (by rfl)) rfl rfl rfl ?_
        refine DJ_q (yv_move (show _ = Value.int _ _ from rfl)) rfl rfl rfl ?_
        refine DJ_q (by first | exact yv_sub64 rfl rfl (by omega) (by omega) | exact yv_sub rfl rfl) rfl rfl rfl ?_
        refine DJ_q (by first | exact yv_index_ro tb rfl rfl rfl rfl (by first | assumption | exact zr (by simp)) (i := k2 - 1) (by first | rfl | omega | (simp; omega)) (by omega) | exact yv_index tb rfl rfl rfl rfl (i := k2 - 1) (by first | rfl | omega | (simp; omega)) (by omega)) rfl rfl rfl ?_
        refine DJ_q (by first | exact yv_load1_ro tb rfl rfl rfl (by first | assumption | exact zr (by simp)) (by assumption) (by rfl) | exact yv_load1 tb rfl rfl rfl (by repeat (first | exact zi0 | apply zi1 | apply zi2)) (by rfl) | exact yv_load1 tb rfl rfl rfl (by repeat (first | exact zi0 | apply zi1 | apply zi2)) (icell_get (by assumption)) | exact yv_load1 tb rfl rfl rfl (by repeat (first | exact zi0 | apply zi1 | apply zi2)) (rcell_get (fun _ => rfl) (by assumption) rfl)) rfl rfl rfl ?_
        refine DJ_q (yv_geq rfl rfl) rfl rfl rfl ?_
        refine DJ_nil (seqK_normal ?_)
        refine CJ_cond (show _ = Value.bool _ from rfl) (fun hc7 => ?_) (fun hc7 => ?_)
        ·
         try simp only [zb1, zb2, zb3, zb4, zb5, zb6, zb7, zb8] at hc7
         refine CJ_seq (CJ_region ?_)
         refine LJ_q (yv_assign (show _ = Value.int _ _ from rfl)) rfl ?_
         refine LJ_nil (seqK_normal (CJ_ret (blockK_ret (seqK_ret (loopK_ret (blockK_ret (seqK_ret (blockK_ret (seqK_ret (loopK_ret (blockK_ret (seqK_ret ?_))))))))))))
         refine retK_ret (L' := L) (R' := R) (res1 rfl (rv_tmp (show _ = Value.int _ _ from rfl))) ?hp ?hL ?hR
         case hp => exact ⟨by rw [doorsErr_at (by omega) hp0 (by omega) (hde.trans (by rw [if_pos (fallsB_bad (by omega) (by omega) hr hy hc7)]))], rfl, rfl⟩
         case hL => exact (by repeat (first | exact zs0 _ | exact zs1 _ | apply zs2 | apply zs3 | apply zs4 | apply zs5))
         case hR => exact allR_self _
        ·
         try simp only [zb1, zb2, zb3, zb4, zb5, zb6, zb7, zb8] at hc7
         refine CJ_skip (blockK_normal (seqK_normal (CJ_region ?_)))
         refine LJ_q (yv_move (show _ = Value.int _ _ from rfl)) rfl ?_
         refine LJ_q (by first | exact yv_add64 rfl rfl (by omega) (by omega) | exact yv_addU rfl rfl (by omega) (by omega) | exact yv_add rfl rfl) rfl ?_
         refine LJ_q (yv_assign (show _ = Value.int _ _ from rfl)) rfl ?_
         refine LJ_nil ?_
         exact loopK_mk (⟨k2 + 1, by omega, by omega, by rw [fallsB_next (by omega) hr hy, h23, Bool.true_and, decide_eq_true_eq]; omega⟩) (by repeat (first | exact Off.refl | apply Off.upd rfl | apply Off.havoc rfl | apply Off.updL rfl | apply Off.left rfl)) (by repeat' (first | exact trivial | refine And.intro rfl ?_)) (by repeat (first | exact zs0 _ | exact zs1 _ | apply zs2 | apply zs3 | apply zs4 | apply zs5)) (allR_self _) (by dsimp only; omega)
       ·
        try simp only [zb1, zb2, zb3, zb4, zb5, zb6, zb7, zb8] at hc6
        obtain rfl : k2 = d.rests.l.length := by omega
        rw [if_neg (by simp [h23])] at hde
        refine CJ_exit (seqK_exit (loopK_exit (blockK_exit (seqK_normal (CJ_seq (CJ_region ?_))))))
        refine LJ_q (yv_field tb rfl rfl rfl) rfl ?_
        refine LJ_q (yv_load1 tb rfl rfl rfl (by repeat (first | exact zi0 | apply zi1 | apply zi2)) (by rfl)) rfl ?_
        refine LJ_q (yv_neq rfl rfl) rfl ?_
        refine LJ_q (yv_move (show _ = Value.bool _ from rfl)) rfl ?_
        apply LJ_and (G := [_, _, _, _, _, _, _, _, _, _, _, _, _, _, _, _, _, _, _, _, _, _, _, _, _, _]) (j := 3) (cj := 76) rfl rfl (by rfl) rfl (show _ = Value.bool _ from rfl) rfl
        ·
         intro hg4
         try simp only [zb1, zb2, zb3, zb4, zb5, zb6, zb7, zb8] at hg4
         refine LJ_q (yv_field tb rfl rfl rfl) rfl ?_
         refine LJ_q (yv_load1 tb rfl rfl rfl (by repeat (first | exact zi0 | apply zi1 | apply zi2)) (by rfl)) rfl ?_
         refine LJ_q (yv_lss rfl rfl) rfl ?_
         refine LJ_q (yv_move (show _ = Value.bool _ from rfl)) rfl ?_
         apply LJ_or (G := [_, _, _, _, _]) (j := 7) (cj := 80) rfl rfl (by rfl) rfl (show _ = Value.bool _ from rfl) rfl
         ·
          intro hg8
          try simp only [zb1, zb2, zb3, zb4, zb5, zb6, zb7, zb8] at hg8
          refine LJ_q (yv_field tb rfl rfl rfl) rfl ?_
          refine LJ_q (yv_load1 tb rfl rfl rfl (by repeat (first | exact zi0 | apply zi1 | apply zi2)) (by rfl)) rfl ?_
          refine LJ_q (yv_move (show _ = Value.slice _ _ _ from rfl)) rfl ?_
          refine LJ_q (yv_len tb rfl rfl rfl) rfl ?_
          refine LJ_q (yv_geq rfl rfl) rfl ?_
          exact LJ_merge_end (show _ = Value.bool _ from rfl) (by repeat (first | exact Off.refl | apply Off.upd rfl | apply Off.havoc rfl | apply Off.updL rfl | apply Off.left rfl)) (by repeat (first | exact zs0 _ | exact zs1 _ | apply zs2 | apply zs3 | apply zs4 | apply zs5)) (by first | exact allR_self _ | exact fun r h => inR_self (by simp [h]))
         intro junk8
         refine LJ_q (yv_move (show _ = Value.bool _ from rfl)) rfl ?_
         apply LJ_or (G := [_, _, _, _]) (j := 14) (cj := 87) rfl rfl (by rfl) rfl (show _ = Value.bool _ from rfl) rfl
         ·
          intro hg15
          try simp only [zb1, zb2, zb3, zb4, zb5, zb6, zb7, zb8] at hg15
          refine LJ_q (yv_field tb rfl rfl rfl) rfl ?_
          refine LJ_q (yv_load1 tb rfl rfl rfl (by repeat (first | exact zi0 | apply zi1 | apply zi2)) (by rfl)) rfl ?_
          refine LJ_q (yv_move (show _ = Value.int _ _ from rfl)) rfl ?_
          refine LJ_q (yv_eql rfl rfl) rfl ?_
          exact LJ_merge_end (show _ = Value.bool _ from rfl) (by repeat (first | exact Off.refl | apply Off.upd rfl | apply Off.havoc rfl | apply Off.updL rfl | apply Off.left rfl)) (by repeat (first | exact zs0 _ | exact zs1 _ | apply zs2 | apply zs3 | apply zs4 | apply zs5)) (by first | exact allR_self _ | exact fun r h => inR_self (by simp [h]))
         intro junk15
         refine LJ_q (yv_move (show _ = Value.bool _ from rfl)) rfl ?_
         apply LJ_or (G := [_, _, _, _, _, _, _, _]) (j := 20) (cj := 93) rfl rfl (by rfl) rfl (show _ = Value.bool _ from rfl) rfl
         ·
          intro hg21
          try simp only [zb1, zb2, zb3, zb4, zb5, zb6, zb7, zb8] at hg21
          have ho := get_D (l := x.l) (k := d.other.toNat) default (by omega)
          refine LJ_q (yv_move (show _ = Value.slice _ _ _ from rfl)) rfl ?_
          refine LJ_q (yv_field tb rfl rfl rfl) rfl ?_
          refine LJ_q (yv_load1 tb rfl rfl rfl (by repeat (first | exact zi0 | apply zi1 | apply zi2)) (by rfl)) rfl ?_
          refine LJ_q (by first | exact yv_index_ro tb rfl rfl rfl rfl (by first | assumption | exact zr (by simp)) (i := d.other.toNat) (by first | rfl | omega | (simp; omega)) (by omega) | exact yv_index tb rfl rfl rfl rfl (i := d.other.toNat) (by first | rfl | omega | (simp; omega)) (by omega)) rfl ?_
          refine LJ_q (yv_field_eo tb rfl rfl rfl) rfl ?_
          refine LJ_q (by first | exact yv_load1_ro tb rfl rfl rfl (by first | assumption | exact zr (by simp)) (by assumption) (by rfl) | exact yv_load1 tb rfl rfl rfl (by repeat (first | exact zi0 | apply zi1 | apply zi2)) (by rfl) | exact yv_load1 tb rfl rfl rfl (by repeat (first | exact zi0 | apply zi1 | apply zi2)) (icell_get (by assumption)) | exact yv_load1 tb rfl rfl rfl (by repeat (first | exact zi0 | apply zi1 | apply zi2)) (rcell_get (fun _ => rfl) (by assumption) rfl)) rfl ?_
          refine LJ_q (yv_move (show _ = Value.int _ _ from rfl)) rfl ?_
          refine LJ_q (yv_neq rfl rfl) rfl ?_
          exact LJ_merge_end (show _ = Value.bool _ from rfl) (by repeat (first | exact Off.refl | apply Off.upd rfl | apply Off.havoc rfl | apply Off.updL rfl | apply Off.left rfl)) (by repeat (first | exact zs0 _ | exact zs1 _ | apply zs2 | apply zs3 | apply zs4 | apply zs5)) (by first | exact allR_self _ | exact fun r h => inR_self (by simp [h]))
         intro junk21
         exact LJ_merge_end (show _ = Value.bool _ from rfl) (by repeat (first | exact Off.refl | apply Off.upd rfl | apply Off.havoc rfl | apply Off.updL rfl | apply Off.left rfl)) (by repeat (first | exact zs0 _ | exact zs1 _ | apply zs2 | apply zs3 | apply zs4 | apply zs5)) (by first | exact allR_self _ | exact fun r h => inR_self (by simp [h]))
        intro junk4
        refine LJ_nil (seqK_normal ?_)
        refine CJ_cond (show _ = Value.bool _ from rfl) (fun hc8 => ?_) (fun hc8 => ?_)
        ·
         try simp only [zb1, zb2, zb3, zb4, zb5, zb6, zb7, zb8] at hc8
         refine CJ_seq (CJ_region ?_)
         refine LJ_q (yv_assign (show _ = Value.int _ _ from rfl)) rfl ?_
         refine LJ_nil (seqK_normal (CJ_ret (blockK_ret (seqK_ret (loopK_ret (blockK_ret (seqK_ret ?_)))))))
         refine retK_ret (L' := L) (R' := R) (res1 rfl (rv_tmp (show _ = Value.int _ _ from rfl))) ?hp ?hL ?hR
         case hp => exact ⟨by rw [doorsErr_at (by omega) hp0 (by omega) (hde.trans (by rw [if_pos (by omega)]))], rfl, rfl⟩
         case hL => exact (by repeat (first | exact zs0 _ | exact zs1 _ | apply zs2 | apply zs3 | apply zs4 | apply zs5))
         case hR => exact allR_self _
        ·
         try simp only [zb1, zb2, zb3, zb4, zb5, zb6, zb7, zb8] at hc8
         refine CJ_skip (blockK_normal (seqK_normal (CJ_region ?_)))
         refine LJ_q (yv_move (show _ = Value.int _ _ from rfl)) rfl ?_
         refine LJ_q (by first | exact yv_add64 rfl rfl (by omega) (by omega) | exact yv_addU rfl rfl (by omega) (by omega) | exact yv_add rfl rfl) rfl ?_
         refine LJ_q (yv_assign (show _ = Value.int _ _ from rfl)) rfl ?_
         refine LJ_nil ?_
         exact loopK_mk ⟨k0 + 1, FSR_next hp0 (by omega) (hde.trans (if_neg (by omega)))⟩ (by repeat (first | exact Off.refl | apply Off.upd rfl | apply Off.havoc rfl | apply Off.updL rfl | apply Off.left rfl)) (by repeat' (first | exact trivial | refine And.intro rfl ?_)) (by repeat (first | exact zs0 _ | exact zs1 _ | apply zs2 | apply zs3 | apply zs4 | apply zs5)) (allR_self _) (by dsimp only; omega)
   ·
    try simp only [zb1, zb2, zb3, zb4, zb5, zb6, zb7, zb8] at hc1
    have hn0 := FSR_none hp0 (by omega)
    refine CJ_exit (seqK_exit (loopK_exit (blockK_exit (seqK_normal (CJ_seq (CJ_region ?_))))))
    refine LJ_q (yv_assign (show _ = Value.int _ _ from rfl)) rfl ?_
    refine LJ_nil (seqK_normal (CJ_ret ?_))
    refine retK_ret (L' := L) (R' := R) (res1 rfl (rv_tmp (show _ = Value.int _ _ from rfl))) ?hp ?hL ?hR
    case hp => exact ⟨by rw [doorsErr, if_neg (by omega), hn0]; rfl, rfl, rfl⟩
    case hL => exact (by repeat (first | exact zs0 _ | exact zs1 _ | apply zs2 | apply zs3 | apply zs4 | apply zs5))
    case hR => exact allR_self _
end Go.Proofs.Ytimnnhdeicpenaa
