/-
  The checks of fans, and the reference's. By an AI agent; no person has read it.
-/
import Derived.Test.YtimnnhdeicpenaaPlan
set_option linter.unusedSimpArgs false
set_option linter.unusedVariables false
namespace Go.Proofs.Ytimnnhdeicpenaa
open Go.Aw Go
set_option maxRecDepth 20000
attribute [local irreducible] CJ LJ DJ Tri YV Gives seqK blockK loopK retK RV mergeK

def pointErr (l : List XPoint) (i : Nat) : Option Int :=
  match l[i]? with
  | none => none
  | some p => if p.flow < -1048576 ∨ 1048576 < p.flow ∨ p.pres < 0 ∨ 2199023255552 < p.pres then some 1
    else if i = 0 then none
    else match l[i - 1]? with
      | none => none
      | some q => if p.flow ≤ q.flow ∨ q.pres < p.pres then some 14 else none
/-- P7.1 -/
def fanErr (f : XFan) : Int :=
  if f.road < 0 then 4 else if f.curve.l.length < 1 ∨ 8 < f.curve.l.length then 2
  else ((List.range f.curve.l.length).findSome? (pointErr f.curve.l)).getD 0

theorem pointErr_1 {l : List XPoint} {k : Nat} {p : XPoint} (h : l[k]? = some p) (hr : p.flow < -1048576 ∨ 1048576 < p.flow ∨ p.pres < 0 ∨ 2199023255552 < p.pres) : pointErr l k = some 1 := by
  simp only [pointErr, h, if_pos hr]
theorem pointErr_14 {l : List XPoint} {k : Nat} {p q : XPoint} (h : l[k]? = some p) (hr : ¬ (p.flow < -1048576 ∨ 1048576 < p.flow ∨ p.pres < 0 ∨ 2199023255552 < p.pres)) (hk : k ≠ 0) (h' : l[k - 1]? = some q) (hb : p.flow ≤ q.flow ∨ q.pres < p.pres) : pointErr l k = some 14 := by
  simp only [pointErr, h, if_neg hr, if_neg hk, h', if_pos hb]
theorem pointErr_0 {l : List XPoint} {k : Nat} {p : XPoint} (h : l[k]? = some p) (hr : ¬ (p.flow < -1048576 ∨ 1048576 < p.flow ∨ p.pres < 0 ∨ 2199023255552 < p.pres)) (hk : k = 0) : pointErr l k = none := by
  simp only [pointErr, h, if_neg hr, if_pos hk]
theorem pointErr_n {l : List XPoint} {k : Nat} {p q : XPoint} (h : l[k]? = some p) (hr : ¬ (p.flow < -1048576 ∨ 1048576 < p.flow ∨ p.pres < 0 ∨ 2199023255552 < p.pres)) (hk : k ≠ 0) (h' : l[k - 1]? = some q) (hb : ¬ (p.flow ≤ q.flow ∨ q.pres < p.pres)) : pointErr l k = none := by
  simp only [pointErr, h, if_neg hr, if_neg hk, h', if_neg hb]

theorem fanCheck_tri (f : XFan) (L : List Blk) (R : List Sl) (hm : InR f.sl R) :
    Tri Try.prog 36 [f.val].toArray L R (fun v L' R' => v = .int .i64 (fanErr f) ∧ L = L' ∧ R = R') := by
  refine Tri_len Try.call36 hm fun hpn => ?_
  refine tri_enter 71 Try.call36 Try.func36 rfl rfl rfl ?_
  refine CJ_seq (CJ_region ?_)
  refine LJ_boxN rfl rfl ?_
  intro b1
  refine LJ_q (yv_assign (show _ = Value.int _ _ from rfl)) rfl ?_
  refine LJ_nil (seqK_normal (CJ_seq (CJ_seq (CJ_region ?_))))
  refine LJ_q (yv_field tb rfl rfl rfl) rfl ?_
  refine LJ_q (yv_load1 tb rfl rfl rfl (by repeat (first | exact zi0 | apply zi1 | apply zi2)) (by rfl)) rfl ?_
  refine LJ_q (yv_lss rfl rfl) rfl ?_
  refine LJ_nil (seqK_normal ?_)
  refine CJ_cond (show _ = Value.bool _ from rfl) (fun hc0 => ?_) (fun hc0 => ?_)
  ·
   try simp only [zb1, zb2, zb3, zb4, zb5, zb6, zb7, zb8] at hc0
   refine CJ_seq (CJ_region ?_)
   refine LJ_q (yv_assign (show _ = Value.int _ _ from rfl)) rfl ?_
   refine LJ_nil (seqK_normal (CJ_ret (seqK_ret ?_)))
   refine retK_ret (L' := L) (R' := R) (res1 rfl (rv_tmp (show _ = Value.int _ _ from rfl))) ?hp ?hL ?hR
   case hp => exact ⟨by rw [fanErr, if_pos (by omega)], rfl, rfl⟩
   case hL => exact (by repeat (first | exact zs0 _ | exact zs1 _ | apply zs2 | apply zs3 | apply zs4 | apply zs5))
   case hR => exact allR_self _
  ·
   try simp only [zb1, zb2, zb3, zb4, zb5, zb6, zb7, zb8] at hc0
   refine CJ_skip (seqK_normal (CJ_seq (CJ_seq (CJ_region ?_))))
   refine LJ_q (yv_field tb rfl rfl rfl) rfl ?_
   refine LJ_q (yv_load1 tb rfl rfl rfl (by repeat (first | exact zi0 | apply zi1 | apply zi2)) (by rfl)) rfl ?_
   refine LJ_q (yv_len tb rfl rfl rfl) rfl ?_
   refine LJ_q (yv_lss rfl rfl) rfl ?_
   refine LJ_q (yv_move (show _ = Value.bool _ from rfl)) rfl ?_
   apply LJ_or (G := [_, _, _, _]) (j := 4) (cj := 12) rfl rfl (by rfl) rfl (show _ = Value.bool _ from rfl) rfl
   ·
    intro hg5
    try simp only [zb1, zb2, zb3, zb4, zb5, zb6, zb7, zb8] at hg5
    refine LJ_q (yv_field tb rfl rfl rfl) rfl ?_
    refine LJ_q (yv_load1 tb rfl rfl rfl (by repeat (first | exact zi0 | apply zi1 | apply zi2)) (by rfl)) rfl ?_
    refine LJ_q (yv_len tb rfl rfl rfl) rfl ?_
    refine LJ_q (yv_gtr rfl rfl) rfl ?_
    exact LJ_merge_end (show _ = Value.bool _ from rfl) (by repeat (first | exact Off.refl | apply Off.upd rfl | apply Off.havoc rfl | apply Off.updL rfl | apply Off.left rfl)) (by repeat (first | exact zs0 _ | exact zs1 _ | apply zs2 | apply zs3 | apply zs4 | apply zs5)) (by first | exact allR_self _ | exact fun r h => inR_self (by simp [h]))
   intro junk5
   refine LJ_nil (seqK_normal ?_)
   refine CJ_cond (show _ = Value.bool _ from rfl) (fun hc1 => ?_) (fun hc1 => ?_)
   ·
    try simp only [zb1, zb2, zb3, zb4, zb5, zb6, zb7, zb8] at hc1
    refine CJ_seq (CJ_region ?_)
    refine LJ_q (yv_assign (show _ = Value.int _ _ from rfl)) rfl ?_
    refine LJ_nil (seqK_normal (CJ_ret (seqK_ret ?_)))
    refine retK_ret (L' := L) (R' := R) (res1 rfl (rv_tmp (show _ = Value.int _ _ from rfl))) ?hp ?hL ?hR
    case hp => exact ⟨by rw [fanErr, if_neg (by omega), if_pos (by omega)], rfl, rfl⟩
    case hL => exact (by repeat (first | exact zs0 _ | exact zs1 _ | apply zs2 | apply zs3 | apply zs4 | apply zs5))
    case hR => exact allR_self _
   ·
    try simp only [zb1, zb2, zb3, zb4, zb5, zb6, zb7, zb8] at hc1
    refine CJ_skip (seqK_normal (CJ_seq (CJ_seq (CJ_region ?_))))
    refine LJ_q (yv_field tb rfl rfl rfl) rfl ?_
    refine LJ_q (yv_load1 tb rfl rfl rfl (by repeat (first | exact zi0 | apply zi1 | apply zi2)) (by rfl)) rfl ?_
    refine LJ_q (yv_len tb rfl rfl rfl) rfl ?_
    refine LJ_q (yv_move (show _ = Value.int _ _ from rfl)) rfl ?_
    refine LJ_nil (seqK_normal (CJ_block ?_))
    refine CJ_forget [(1, Value.pointer _), (19, Value.slice _ _ _), (20, Value.int _ _), (21, Value.int _ _)] (by repeat' (first | exact trivial | refine And.intro rfl ?_)) fun tq0 => ?_
    refine CJ_loopS [2, 3, 4, 21, 22, 23, 24, 25, 26, 27, 28, 29, 30, 31, 32, 33, 34, 35, 36, 37, 38, 39, 40, 41, 42, 43, 44, 45, 46, 47, 48, 49, 50, 51, 52, 53, 54, 55, 56, 57, 58, 59, 60, 61, 62, 63, 64, 65, 66, 67, 68, 69, 70] (fun g : FSR (pointErr f.curve.l) (f.curve.l.length) => [(21, .int .i64 ((g.1 : Nat) : Int))]) (fun g => (f.curve.l.length) - g.1) ⟨0, FSR_zero _ _⟩ (by repeat' (first | exact trivial | refine And.intro rfl ?_)) ?_
    rintro ⟨k0, hk0, hp0⟩ junk
    try dsimp only
    refine CJ_seq (CJ_region ?_)
    refine LJ_q (yv_lss rfl rfl) rfl ?_
    refine LJ_nil (seqK_normal (CJ_seq ?_))
    refine CJ_cond (show _ = Value.bool _ from rfl) (fun hc2 => ?_) (fun hc2 => ?_)
    ·
     try simp only [zb1, zb2, zb3, zb4, zb5, zb6, zb7, zb8] at hc2
     obtain ⟨p, hp⟩ := get_some (l := f.curve.l) (k := k0) (by omega)
     refine CJ_skip (seqK_normal (CJ_seq (CJ_block (CJ_seq (CJ_region ?_)))))
     refine LJ_q (yv_move (show _ = Value.int _ _ from rfl)) rfl ?_
     refine LJ_q (by first | exact yv_index_ro tb rfl rfl rfl rfl (by first | assumption | exact zr (by simp)) rfl (by omega) | exact yv_index tb rfl rfl rfl rfl rfl (by omega)) rfl ?_
     refine LJ_q (by first | exact yv_loadN_ro (row := [_, _]) tb rfl rfl rfl (by first | assumption | exact zr (by simp)) (by assumption) (by rfl) (by rfl) | exact yv_loadN (row := [_, _]) tb rfl rfl rfl (by repeat (first | exact zi0 | apply zi1 | apply zi2)) (by rfl) (by rfl)) rfl ?_
     refine LJ_alloc tb rfl rfl ?_
     intro b4
     refine LJ_q (yv_assign (show _ = Value.int _ _ from rfl)) rfl ?_
     refine LJ_storeW tb rfl rfl rfl rfl (by repeat (first | apply zu0 | apply zu1 | apply zu2)) (by rfl) (by rfl) ?_
     refine LJ_nil (seqK_normal (CJ_seq (CJ_seq (CJ_region ?_))))
     refine LJ_q (yv_field tb rfl rfl rfl) rfl ?_
     refine LJ_q (yv_load1 tb rfl rfl rfl (by repeat (first | exact zi0 | apply zi1 | apply zi2)) (by rfl)) rfl ?_
     refine LJ_q (yv_lss rfl rfl) rfl ?_
     refine LJ_q (yv_move (show _ = Value.bool _ from rfl)) rfl ?_
     apply LJ_or (G := [_, _, _]) (j := 3) (cj := 29) rfl rfl (by rfl) rfl (show _ = Value.bool _ from rfl) rfl
     ·
      intro hg4
      try simp only [zb1, zb2, zb3, zb4, zb5, zb6, zb7, zb8] at hg4
      refine LJ_q (yv_field tb rfl rfl rfl) rfl ?_
      refine LJ_q (yv_load1 tb rfl rfl rfl (by repeat (first | exact zi0 | apply zi1 | apply zi2)) (by rfl)) rfl ?_
      refine LJ_q (yv_gtr rfl rfl) rfl ?_
      exact LJ_merge_end (show _ = Value.bool _ from rfl) (by repeat (first | exact Off.refl | apply Off.upd rfl | apply Off.havoc rfl | apply Off.updL rfl | apply Off.left rfl)) (by repeat (first | exact zs0 _ | exact zs1 _ | apply zs2 | apply zs3 | apply zs4 | apply zs5)) (by first | exact allR_self _ | exact fun r h => inR_self (by simp [h]))
     intro junk4
     refine LJ_q (yv_move (show _ = Value.bool _ from rfl)) rfl ?_
     apply LJ_or (G := [_, _, _]) (j := 8) (cj := 34) rfl rfl (by rfl) rfl (show _ = Value.bool _ from rfl) rfl
     ·
      intro hg9
      try simp only [zb1, zb2, zb3, zb4, zb5, zb6, zb7, zb8] at hg9
      refine LJ_q (yv_field tb rfl rfl rfl) rfl ?_
      refine LJ_q (yv_load1 tb rfl rfl rfl (by repeat (first | exact zi0 | apply zi1 | apply zi2)) (by rfl)) rfl ?_
      refine LJ_q (yv_lss rfl rfl) rfl ?_
      exact LJ_merge_end (show _ = Value.bool _ from rfl) (by repeat (first | exact Off.refl | apply Off.upd rfl | apply Off.havoc rfl | apply Off.updL rfl | apply Off.left rfl)) (by repeat (first | exact zs0 _ | exact zs1 _ | apply zs2 | apply zs3 | apply zs4 | apply zs5)) (by first | exact allR_self _ | exact fun r h => inR_self (by simp [h]))
     intro junk9
     refine LJ_q (yv_move (show _ = Value.bool _ from rfl)) rfl ?_
     apply LJ_or (G := [_, _, _]) (j := 13) (cj := 39) rfl rfl (by rfl) rfl (show _ = Value.bool _ from rfl) rfl
     ·
      intro hg14
      try simp only [zb1, zb2, zb3, zb4, zb5, zb6, zb7, zb8] at hg14
      refine LJ_q (yv_field tb rfl rfl rfl) rfl ?_
      refine LJ_q (yv_load1 tb rfl rfl rfl (by repeat (first | exact zi0 | apply zi1 | apply zi2)) (by rfl)) rfl ?_
      refine LJ_q (yv_gtr rfl rfl) rfl ?_
      exact LJ_merge_end (show _ = Value.bool _ from rfl) (by repeat (first | exact Off.refl | apply Off.upd rfl | apply Off.havoc rfl | apply Off.updL rfl | apply Off.left rfl)) (by repeat (first | exact zs0 _ | exact zs1 _ | apply zs2 | apply zs3 | apply zs4 | apply zs5)) (by first | exact allR_self _ | exact fun r h => inR_self (by simp [h]))
     intro junk14
     refine LJ_nil (seqK_normal ?_)
     refine CJ_cond (show _ = Value.bool _ from rfl) (fun hc3 => ?_) (fun hc3 => ?_)
     ·
      try simp only [zb1, zb2, zb3, zb4, zb5, zb6, zb7, zb8] at hc3
      refine CJ_seq (CJ_region ?_)
      refine LJ_q (yv_assign (show _ = Value.int _ _ from rfl)) rfl ?_
      refine LJ_nil (seqK_normal (CJ_ret (seqK_ret (blockK_ret (seqK_ret (loopK_ret (blockK_ret (seqK_ret ?_))))))))
      refine retK_ret (L' := L) (R' := R) (res1 rfl (rv_tmp (show _ = Value.int _ _ from rfl))) ?hp ?hL ?hR
      case hp => exact ⟨by rw [fanErr, if_neg (by omega), if_neg (by omega), FSR_some hp0 (by omega) (pointErr_1 hp (by omega))]; rfl, rfl, rfl⟩
      case hL => exact (by repeat (first | exact zs0 _ | exact zs1 _ | apply zs2 | apply zs3 | apply zs4 | apply zs5))
      case hR => exact allR_self _
     ·
      try simp only [zb1, zb2, zb3, zb4, zb5, zb6, zb7, zb8] at hc3
      refine CJ_skip (seqK_normal (CJ_seq ?_))
      refine CJ_drawn tb [0, 1, 2, 3, 4, 5, 6, 7, 8, 9, 10, 11, 12, 13, 14, 15, 16, 17, 18, 19, 20, 21, 22, 23, 24, 25] _ mixed (by kernel_rfl) (List.Sublist.refl _) ?_
      refine DJ_q (yv_move (show _ = Value.int _ _ from rfl)) rfl rfl rfl ?_
      refine DJ_q (yv_gtr rfl rfl) rfl rfl rfl ?_
      refine DJ_q (yv_move (show _ = Value.bool _ from rfl)) rfl rfl rfl ?_
      refine DJ_case (k := 46) (show _ = Value.bool _ from rfl) (fun hg2 => ?_) (fun hg2 => ?_)
      ·
       try simp only [zb1, zb2, zb3, zb4, zb5, zb6, zb7, zb8] at hg2
       obtain ⟨q, hq⟩ := get_some (l := f.curve.l) (k := k0 - 1) (by omega)
       refine DJ_q (yv_field tb rfl rfl rfl) rfl rfl rfl ?_
       refine DJ_q (yv_load1 tb rfl rfl rfl (by repeat (first | exact zi0 | apply zi1 | apply zi2)) (by rfl)) rfl rfl rfl ?_
       refine DJ_q (yv_field tb rfl rfl rfl) rfl rfl rfl ?_
       refine DJ_q (yv_load1 tb rfl rfl rfl (by repeat (first | exact zi0 | apply zi1 | apply zi2)) (by rfl)) rfl rfl rfl ?_
       refine DJ_q (yv_move (show _ = Value.int _ _ from rfl)) rfl rfl rfl ?_
       refine DJ_q (by first | exact yv_sub64 rfl rfl (by omega) (by omega) | exact yv_sub rfl rfl) rfl rfl rfl ?_
       refine DJ_q (by first | exact yv_index_ro tb rfl rfl rfl rfl (by first | assumption | exact zr (by simp)) (i := k0 - 1) (by first | rfl | omega | (simp; omega)) (by omega) | exact yv_index tb rfl rfl rfl rfl (i := k0 - 1) (by first | rfl | omega | (simp; omega)) (by omega)) rfl rfl rfl ?_
       refine DJ_q (yv_field_eo tb rfl rfl rfl) rfl rfl rfl ?_
       refine DJ_q (by first | exact yv_load1_ro tb rfl rfl rfl (by first | assumption | exact zr (by simp)) (by assumption) (by rfl) | exact yv_load1 tb rfl rfl rfl (by repeat (first | exact zi0 | apply zi1 | apply zi2)) (by rfl) | exact yv_load1 tb rfl rfl rfl (by repeat (first | exact zi0 | apply zi1 | apply zi2)) (icell_get (by assumption)) | exact yv_load1 tb rfl rfl rfl (by repeat (first | exact zi0 | apply zi1 | apply zi2)) (rcell_get (fun _ => rfl) (by assumption) rfl)) rfl rfl rfl ?_
       refine DJ_q (yv_leq rfl rfl) rfl rfl rfl ?_
       refine DJ_q (yv_move (show _ = Value.bool _ from rfl)) rfl rfl rfl ?_
       refine DJ_case (k := 57) (show _ = Value.bool _ from rfl) (fun hg13 => ?_) (fun hg13 => ?_)
       ·
        try simp only [zb1, zb2, zb3, zb4, zb5, zb6, zb7, zb8] at hg13
        refine DJ_skip rfl rfl rfl ?_
        refine DJ_skip rfl rfl rfl ?_
        refine DJ_skip rfl rfl rfl ?_
        refine DJ_skip rfl rfl rfl ?_
        refine DJ_skip rfl rfl rfl ?_
        refine DJ_skip rfl rfl rfl ?_
        refine DJ_skip rfl rfl rfl ?_
        refine DJ_skip rfl rfl rfl ?_
        refine DJ_skip rfl rfl rfl ?_
        refine DJ_skip rfl rfl rfl ?_
        refine DJ_q (by first | exact yv_pick_true rfl rfl | exact yv_pick_false rfl rfl | exact yv_pick rfl) rfl rfl rfl ?_
        refine DJ_q (by first | exact yv_pick_true rfl rfl | exact yv_pick_false rfl rfl | exact yv_pick rfl) rfl rfl rfl ?_
        refine DJ_nil (seqK_normal ?_)
        refine CJ_cond_true rfl ?_
        refine CJ_seq (CJ_region ?_)
        refine LJ_q (yv_assign (show _ = Value.int _ _ from rfl)) rfl ?_
        refine LJ_nil (seqK_normal (CJ_ret (blockK_ret (seqK_ret (loopK_ret (blockK_ret (seqK_ret ?_)))))))
        refine retK_ret (L' := L) (R' := R) (res1 rfl (rv_tmp (show _ = Value.int _ _ from rfl))) ?hp ?hL ?hR
        case hp => exact ⟨by rw [fanErr, if_neg (by omega), if_neg (by omega), FSR_some hp0 (by omega) (pointErr_14 hp (by omega) (by omega) hq (by omega))]; rfl, rfl, rfl⟩
        case hL => exact (by repeat (first | exact zs0 _ | exact zs1 _ | apply zs2 | apply zs3 | apply zs4 | apply zs5))
        case hR => exact allR_self _
       ·
        try simp only [zb1, zb2, zb3, zb4, zb5, zb6, zb7, zb8] at hg13
        refine DJ_q (yv_field tb rfl rfl rfl) rfl rfl rfl ?_
        refine DJ_q (yv_load1 tb rfl rfl rfl (by repeat (first | exact zi0 | apply zi1 | apply zi2)) (by rfl)) rfl rfl rfl ?_
        refine DJ_q (yv_field tb rfl rfl rfl) rfl rfl rfl ?_
        refine DJ_q (yv_load1 tb rfl rfl rfl (by repeat (first | exact zi0 | apply zi1 | apply zi2)) (by rfl)) rfl rfl rfl ?_
        refine DJ_q (yv_move (show _ = Value.int _ _ from rfl)) rfl rfl rfl ?_
        refine DJ_q (by first | exact yv_sub64 rfl rfl (by omega) (by omega) | exact yv_sub rfl rfl) rfl rfl rfl ?_
        refine DJ_q (by first | exact yv_index_ro tb rfl rfl rfl rfl (by first | assumption | exact zr (by simp)) (i := k0 - 1) (by first | rfl | omega | (simp; omega)) (by omega) | exact yv_index tb rfl rfl rfl rfl (i := k0 - 1) (by first | rfl | omega | (simp; omega)) (by omega)) rfl rfl rfl ?_
        refine DJ_q (yv_field_eo tb rfl rfl rfl) rfl rfl rfl ?_
        refine DJ_q (by first | exact yv_load1_ro tb rfl rfl rfl (by first | assumption | exact zr (by simp)) (by assumption) (by rfl) | exact yv_load1 tb rfl rfl rfl (by repeat (first | exact zi0 | apply zi1 | apply zi2)) (by rfl) | exact yv_load1 tb rfl rfl rfl (by repeat (first | exact zi0 | apply zi1 | apply zi2)) (icell_get (by assumption)) | exact yv_load1 tb rfl rfl rfl (by repeat (first | exact zi0 | apply zi1 | apply zi2)) (rcell_get (fun _ => rfl) (by assumption) rfl)) rfl rfl rfl ?_
        refine DJ_q (yv_gtr rfl rfl) rfl rfl rfl ?_
        refine DJ_q (by first | exact yv_pick_true rfl rfl | exact yv_pick_false rfl rfl | exact yv_pick rfl) rfl rfl rfl ?_
        refine DJ_q (by first | exact yv_pick_true rfl rfl | exact yv_pick_false rfl rfl | exact yv_pick rfl) rfl rfl rfl ?_
        refine DJ_nil (seqK_normal ?_)
        refine CJ_cond (show _ = Value.bool _ from rfl) (fun hc4 => ?_) (fun hc4 => ?_)
        ·
         try simp only [zb1, zb2, zb3, zb4, zb5, zb6, zb7, zb8] at hc4
         refine CJ_seq (CJ_region ?_)
         refine LJ_q (yv_assign (show _ = Value.int _ _ from rfl)) rfl ?_
         refine LJ_nil (seqK_normal (CJ_ret (blockK_ret (seqK_ret (loopK_ret (blockK_ret (seqK_ret ?_)))))))
         refine retK_ret (L' := L) (R' := R) (res1 rfl (rv_tmp (show _ = Value.int _ _ from rfl))) ?hp ?hL ?hR
         case hp => exact ⟨by rw [fanErr, if_neg (by omega), if_neg (by omega), FSR_some hp0 (by omega) (pointErr_14 hp (by omega) (by omega) hq (by omega))]; rfl, rfl, rfl⟩
         case hL => exact (by repeat (first | exact zs0 _ | exact zs1 _ | apply zs2 | apply zs3 | apply zs4 | apply zs5))
         case hR => exact allR_self _
        ·
         try simp only [zb1, zb2, zb3, zb4, zb5, zb6, zb7, zb8] at hc4
         refine CJ_skip (blockK_normal (seqK_normal (CJ_region ?_)))
         refine LJ_q (by first | exact yv_add64 rfl rfl (by omega) (by omega) | exact yv_addU rfl rfl (by omega) (by omega) | exact yv_add rfl rfl) rfl ?_
         refine LJ_q (yv_move (show _ = Value.int _ _ from rfl)) rfl ?_
         refine LJ_nil ?_
         exact loopK_mk ⟨k0 + 1, FSR_next hp0 (by omega) (by first | exact pointErr_0 hp (by omega) (by omega) | exact pointErr_n hp (by omega) (by omega) hq (by omega))⟩ (by repeat (first | exact Off.refl | apply Off.upd rfl | apply Off.havoc rfl | apply Off.updL rfl | apply Off.left rfl)) (by repeat' (first | exact trivial | refine And.intro rfl ?_)) (by repeat (first | exact zs0 _ | exact zs1 _ | apply zs2 | apply zs3 | apply zs4 | apply zs5)) (allR_self _) (by dsimp only; omega)
      ·
       try simp only [zb1, zb2, zb3, zb4, zb5, zb6, zb7, zb8] at hg2
       refine DJ_skip rfl rfl rfl ?_
       refine DJ_skip rfl rfl rfl ?_
       refine DJ_skip rfl rfl rfl ?_
       refine DJ_skip rfl rfl rfl ?_
       refine DJ_skip rfl rfl rfl ?_
       refine DJ_skip rfl rfl rfl ?_
       refine DJ_skip rfl rfl rfl ?_
       refine DJ_skip rfl rfl rfl ?_
       refine DJ_skip rfl rfl rfl ?_
       refine DJ_skip rfl rfl rfl ?_
       refine DJ_skip rfl rfl rfl ?_
       refine DJ_skip rfl rfl rfl ?_
       refine DJ_skip rfl rfl rfl ?_
       refine DJ_skip rfl rfl rfl ?_
       refine DJ_skip rfl rfl rfl ?_
       refine DJ_skip rfl rfl rfl ?_
       refine DJ_skip rfl rfl rfl ?_
       refine DJ_skip rfl rfl rfl ?_
       refine DJ_skip rfl rfl rfl ?_
       refine DJ_skip rfl rfl rfl ?_
       refine DJ_skip rfl rfl rfl ?_
       refine DJ_skip rfl rfl rfl ?_
       refine DJ_q (by first | exact yv_pick_true rfl rfl | exact yv_pick_false rfl rfl | exact yv_pick rfl) rfl rfl rfl ?_
       refine DJ_nil (seqK_normal ?_)
       refine CJ_cond_false rfl ?_
       refine CJ_skip (blockK_normal (seqK_normal (CJ_region ?_)))
       refine LJ_q (by first | exact yv_add64 rfl rfl (by omega) (by omega) | exact yv_addU rfl rfl (by omega) (by omega) | exact yv_add rfl rfl) rfl ?_
       refine LJ_q (yv_move (show _ = Value.int _ _ from rfl)) rfl ?_
       refine LJ_nil ?_
       exact loopK_mk ⟨k0 + 1, FSR_next hp0 (by omega) (by first | exact pointErr_0 hp (by omega) (by omega) | exact pointErr_n hp (by omega) (by omega) hq (by omega))⟩ (by repeat (first | exact Off.refl | apply Off.upd rfl | apply Off.havoc rfl | apply Off.updL rfl | apply Off.left rfl)) (by repeat' (first | exact trivial | refine And.intro rfl ?_)) (by repeat (first | exact zs0 _ | exact zs1 _ | apply zs2 | apply zs3 | apply zs4 | apply zs5)) (allR_self _) (by dsimp only; omega)
    ·
     try simp only [zb1, zb2, zb3, zb4, zb5, zb6, zb7, zb8] at hc2
     have hn0 := FSR_none hp0 (by omega)
     refine CJ_exit (seqK_exit (loopK_exit (blockK_exit (seqK_normal (CJ_seq (CJ_region ?_))))))
     refine LJ_q (yv_assign (show _ = Value.int _ _ from rfl)) rfl ?_
     refine LJ_nil (seqK_normal (CJ_ret ?_))
     refine retK_ret (L' := L) (R' := R) (res1 rfl (rv_tmp (show _ = Value.int _ _ from rfl))) ?hp ?hL ?hR
     case hp => exact ⟨by rw [fanErr, if_neg (by omega), if_neg (by omega), hn0]; rfl, rfl, rfl⟩
     case hL => exact (by repeat (first | exact zs0 _ | exact zs1 _ | apply zs2 | apply zs3 | apply zs4 | apply zs5))
     case hR => exact allR_self _

theorem ref07Check_tri (f : XFan) (L : List Blk) (R : List Sl) (hm : InR f.sl R) :
    Tri Try.prog 39 [f.val].toArray L R (fun v L' R' => v = .int .i64 (fanErr f) ∧ L = L' ∧ R = R') := by
  refine Tri_len Try.call39 hm fun hpn => ?_
  refine tri_enter 74 Try.call39 Try.func39 rfl rfl rfl ?_
  refine CJ_seq (CJ_region ?_)
  refine LJ_boxN rfl rfl ?_
  intro b1
  refine LJ_q (yv_assign (show _ = Value.int _ _ from rfl)) rfl ?_
  refine LJ_nil (seqK_normal (CJ_seq (CJ_seq (CJ_region ?_))))
  refine LJ_q (yv_field tb rfl rfl rfl) rfl ?_
  refine LJ_q (yv_load1 tb rfl rfl rfl (by repeat (first | exact zi0 | apply zi1 | apply zi2)) (by rfl)) rfl ?_
  refine LJ_q (yv_lss rfl rfl) rfl ?_
  refine LJ_nil (seqK_normal ?_)
  refine CJ_cond (show _ = Value.bool _ from rfl) (fun hc0 => ?_) (fun hc0 => ?_)
  ·
   try simp only [zb1, zb2, zb3, zb4, zb5, zb6, zb7, zb8] at hc0
   refine CJ_seq (CJ_region ?_)
   refine LJ_q (yv_assign (show _ = Value.int _ _ from rfl)) rfl ?_
   refine LJ_nil (seqK_normal (CJ_ret (seqK_ret ?_)))
   refine retK_ret (L' := L) (R' := R) (res1 rfl (rv_tmp (show _ = Value.int _ _ from rfl))) ?hp ?hL ?hR
   case hp => exact ⟨by rw [fanErr, if_pos (by omega)], rfl, rfl⟩
   case hL => exact (by repeat (first | exact zs0 _ | exact zs1 _ | apply zs2 | apply zs3 | apply zs4 | apply zs5))
   case hR => exact allR_self _
  ·
   try simp only [zb1, zb2, zb3, zb4, zb5, zb6, zb7, zb8] at hc0
   refine CJ_skip (seqK_normal (CJ_seq (CJ_seq (CJ_region ?_))))
   refine LJ_q (yv_field tb rfl rfl rfl) rfl ?_
   refine LJ_q (yv_load1 tb rfl rfl rfl (by repeat (first | exact zi0 | apply zi1 | apply zi2)) (by rfl)) rfl ?_
   refine LJ_q (yv_len tb rfl rfl rfl) rfl ?_
   refine LJ_q (yv_lss rfl rfl) rfl ?_
   refine LJ_q (yv_move (show _ = Value.bool _ from rfl)) rfl ?_
   apply LJ_or (G := [_, _, _, _]) (j := 4) (cj := 12) rfl rfl (by rfl) rfl (show _ = Value.bool _ from rfl) rfl
   ·
    intro hg5
    try simp only [zb1, zb2, zb3, zb4, zb5, zb6, zb7, zb8] at hg5
    refine LJ_q (yv_field tb rfl rfl rfl) rfl ?_
    refine LJ_q (yv_load1 tb rfl rfl rfl (by repeat (first | exact zi0 | apply zi1 | apply zi2)) (by rfl)) rfl ?_
    refine LJ_q (yv_len tb rfl rfl rfl) rfl ?_
    refine LJ_q (yv_gtr rfl rfl) rfl ?_
    exact LJ_merge_end (show _ = Value.bool _ from rfl) (by repeat (first | exact Off.refl | apply Off.upd rfl | apply Off.havoc rfl | apply Off.updL rfl | apply Off.left rfl)) (by repeat (first | exact zs0 _ | exact zs1 _ | apply zs2 | apply zs3 | apply zs4 | apply zs5)) (by first | exact allR_self _ | exact fun r h => inR_self (by simp [h]))
   intro junk5
   refine LJ_nil (seqK_normal ?_)
   refine CJ_cond (show _ = Value.bool _ from rfl) (fun hc1 => ?_) (fun hc1 => ?_)
   ·
    try simp only [zb1, zb2, zb3, zb4, zb5, zb6, zb7, zb8] at hc1
    refine CJ_seq (CJ_region ?_)
    refine LJ_q (yv_assign (show _ = Value.int _ _ from rfl)) rfl ?_
    refine LJ_nil (seqK_normal (CJ_ret (seqK_ret ?_)))
    refine retK_ret (L' := L) (R' := R) (res1 rfl (rv_tmp (show _ = Value.int _ _ from rfl))) ?hp ?hL ?hR
    case hp => exact ⟨by rw [fanErr, if_neg (by omega), if_pos (by omega)], rfl, rfl⟩
    case hL => exact (by repeat (first | exact zs0 _ | exact zs1 _ | apply zs2 | apply zs3 | apply zs4 | apply zs5))
    case hR => exact allR_self _
   ·
    try simp only [zb1, zb2, zb3, zb4, zb5, zb6, zb7, zb8] at hc1
    refine CJ_skip (seqK_normal (CJ_seq (CJ_seq (CJ_region ?_))))
    refine LJ_q (yv_assign (show _ = Value.int _ _ from rfl)) rfl ?_
    refine LJ_nil (seqK_normal (CJ_block ?_))
    refine CJ_forget [(1, Value.pointer _), (3, Value.int _ _)] (by repeat' (first | exact trivial | refine And.intro rfl ?_)) fun tq0 => ?_
    refine CJ_loopS [2, 3, 4, 18, 19, 20, 21, 22, 23, 24, 25, 26, 27, 28, 29, 30, 31, 32, 33, 34, 35, 36, 37, 38, 39, 40, 41, 42, 43, 44, 45, 46, 47, 48, 49, 50, 51, 52, 53, 54, 55, 56, 57, 58, 59, 60, 61, 62, 63, 64, 65, 66, 67, 68, 69, 70, 71, 72, 73] (fun g : FSR (pointErr f.curve.l) (f.curve.l.length) => [(3, .int .i64 ((g.1 : Nat) : Int))]) (fun g => (f.curve.l.length) - g.1) ⟨0, FSR_zero _ _⟩ (by repeat' (first | exact trivial | refine And.intro rfl ?_)) ?_
    rintro ⟨k0, hk0, hp0⟩ junk
    try dsimp only
    refine CJ_seq (CJ_seq (CJ_region ?_))
    refine LJ_q (yv_move (show _ = Value.int _ _ from rfl)) rfl ?_
    refine LJ_q (yv_field tb rfl rfl rfl) rfl ?_
    refine LJ_q (yv_load1 tb rfl rfl rfl (by repeat (first | exact zi0 | apply zi1 | apply zi2)) (by rfl)) rfl ?_
    refine LJ_q (yv_len tb rfl rfl rfl) rfl ?_
    refine LJ_q (yv_lss rfl rfl) rfl ?_
    refine LJ_nil (seqK_normal ?_)
    refine CJ_cond (show _ = Value.bool _ from rfl) (fun hc2 => ?_) (fun hc2 => ?_)
    ·
     try simp only [zb1, zb2, zb3, zb4, zb5, zb6, zb7, zb8] at hc2
     obtain ⟨p, hp⟩ := get_some (l := f.curve.l) (k := k0) (by omega)
     refine CJ_skip (seqK_normal (CJ_seq (CJ_block (CJ_seq (CJ_region ?_)))))
     refine LJ_q (yv_field tb rfl rfl rfl) rfl ?_
     refine LJ_q (yv_load1 tb rfl rfl rfl (by repeat (first | exact zi0 | apply zi1 | apply zi2)) (by rfl)) rfl ?_
     refine LJ_q (yv_move (show _ = Value.int _ _ from rfl)) rfl ?_
     refine LJ_q (by first | exact yv_index_ro tb rfl rfl rfl rfl (by first | assumption | exact zr (by simp)) rfl (by omega) | exact yv_index tb rfl rfl rfl rfl rfl (by omega)) rfl ?_
     refine LJ_q (by first | exact yv_loadN_ro (row := [_, _]) tb rfl rfl rfl (by first | assumption | exact zr (by simp)) (by assumption) (by rfl) (by rfl) | exact yv_loadN (row := [_, _]) tb rfl rfl rfl (by repeat (first | exact zi0 | apply zi1 | apply zi2)) (by rfl) (by rfl)) rfl ?_
     refine LJ_alloc tb rfl rfl ?_
     intro b4
     refine LJ_storeW tb rfl rfl rfl rfl (by repeat (first | apply zu0 | apply zu1 | apply zu2)) (by rfl) (by rfl) ?_
     refine LJ_nil (seqK_normal (CJ_seq (CJ_seq (CJ_region ?_))))
     refine LJ_q (yv_field tb rfl rfl rfl) rfl ?_
     refine LJ_q (yv_load1 tb rfl rfl rfl (by repeat (first | exact zi0 | apply zi1 | apply zi2)) (by rfl)) rfl ?_
     refine LJ_q (yv_lss rfl rfl) rfl ?_
     refine LJ_q (yv_move (show _ = Value.bool _ from rfl)) rfl ?_
     apply LJ_or (G := [_, _, _]) (j := 3) (cj := 33) rfl rfl (by rfl) rfl (show _ = Value.bool _ from rfl) rfl
     ·
      intro hg4
      try simp only [zb1, zb2, zb3, zb4, zb5, zb6, zb7, zb8] at hg4
      refine LJ_q (yv_field tb rfl rfl rfl) rfl ?_
      refine LJ_q (yv_load1 tb rfl rfl rfl (by repeat (first | exact zi0 | apply zi1 | apply zi2)) (by rfl)) rfl ?_
      refine LJ_q (yv_gtr rfl rfl) rfl ?_
      exact LJ_merge_end (show _ = Value.bool _ from rfl) (by repeat (first | exact Off.refl | apply Off.upd rfl | apply Off.havoc rfl | apply Off.updL rfl | apply Off.left rfl)) (by repeat (first | exact zs0 _ | exact zs1 _ | apply zs2 | apply zs3 | apply zs4 | apply zs5)) (by first | exact allR_self _ | exact fun r h => inR_self (by simp [h]))
     intro junk4
     refine LJ_q (yv_move (show _ = Value.bool _ from rfl)) rfl ?_
     apply LJ_or (G := [_, _, _]) (j := 8) (cj := 38) rfl rfl (by rfl) rfl (show _ = Value.bool _ from rfl) rfl
     ·
      intro hg9
      try simp only [zb1, zb2, zb3, zb4, zb5, zb6, zb7, zb8] at hg9
      refine LJ_q (yv_field tb rfl rfl rfl) rfl ?_
      refine LJ_q (yv_load1 tb rfl rfl rfl (by repeat (first | exact zi0 | apply zi1 | apply zi2)) (by rfl)) rfl ?_
      refine LJ_q (yv_lss rfl rfl) rfl ?_
      exact LJ_merge_end (show _ = Value.bool _ from rfl) (by repeat (first | exact Off.refl | apply Off.upd rfl | apply Off.havoc rfl | apply Off.updL rfl | apply Off.left rfl)) (by repeat (first | exact zs0 _ | exact zs1 _ | apply zs2 | apply zs3 | apply zs4 | apply zs5)) (by first | exact allR_self _ | exact fun r h => inR_self (by simp [h]))
     intro junk9
     refine LJ_q (yv_move (show _ = Value.bool _ from rfl)) rfl ?_
     apply LJ_or (G := [_, _, _]) (j := 13) (cj := 43) rfl rfl (by rfl) rfl (show _ = Value.bool _ from rfl) rfl
     ·
      intro hg14
      try simp only [zb1, zb2, zb3, zb4, zb5, zb6, zb7, zb8] at hg14
      refine LJ_q (yv_field tb rfl rfl rfl) rfl ?_
      refine LJ_q (yv_load1 tb rfl rfl rfl (by repeat (first | exact zi0 | apply zi1 | apply zi2)) (by rfl)) rfl ?_
      refine LJ_q (yv_gtr rfl rfl) rfl ?_
      exact LJ_merge_end (show _ = Value.bool _ from rfl) (by repeat (first | exact Off.refl | apply Off.upd rfl | apply Off.havoc rfl | apply Off.updL rfl | apply Off.left rfl)) (by repeat (first | exact zs0 _ | exact zs1 _ | apply zs2 | apply zs3 | apply zs4 | apply zs5)) (by first | exact allR_self _ | exact fun r h => inR_self (by simp [h]))
     intro junk14
     refine LJ_nil (seqK_normal ?_)
     refine CJ_cond (show _ = Value.bool _ from rfl) (fun hc3 => ?_) (fun hc3 => ?_)
     ·
      try simp only [zb1, zb2, zb3, zb4, zb5, zb6, zb7, zb8] at hc3
      refine CJ_seq (CJ_region ?_)
      refine LJ_q (yv_assign (show _ = Value.int _ _ from rfl)) rfl ?_
      refine LJ_nil (seqK_normal (CJ_ret (seqK_ret (blockK_ret (seqK_ret (loopK_ret (blockK_ret (seqK_ret ?_))))))))
      refine retK_ret (L' := L) (R' := R) (res1 rfl (rv_tmp (show _ = Value.int _ _ from rfl))) ?hp ?hL ?hR
      case hp => exact ⟨by rw [fanErr, if_neg (by omega), if_neg (by omega), FSR_some hp0 (by omega) (pointErr_1 hp (by omega))]; rfl, rfl, rfl⟩
      case hL => exact (by repeat (first | exact zs0 _ | exact zs1 _ | apply zs2 | apply zs3 | apply zs4 | apply zs5))
      case hR => exact allR_self _
     ·
      try simp only [zb1, zb2, zb3, zb4, zb5, zb6, zb7, zb8] at hc3
      refine CJ_skip (seqK_normal (CJ_seq ?_))
      refine CJ_drawn tb [0, 1, 2, 3, 4, 5, 6, 7, 8, 9, 10, 11, 12, 13, 14, 15, 16, 17, 18, 19, 20, 21, 22, 23, 24, 25] _ mixed (by kernel_rfl) (List.Sublist.refl _) ?_
      refine DJ_q (yv_move (show _ = Value.int _ _ from rfl)) rfl rfl rfl ?_
      refine DJ_q (yv_gtr rfl rfl) rfl rfl rfl ?_
      refine DJ_q (yv_move (show _ = Value.bool _ from rfl)) rfl rfl rfl ?_
      refine DJ_case (k := 50) (show _ = Value.bool _ from rfl) (fun hg2 => ?_) (fun hg2 => ?_)
      ·
       try simp only [zb1, zb2, zb3, zb4, zb5, zb6, zb7, zb8] at hg2
       obtain ⟨q, hq⟩ := get_some (l := f.curve.l) (k := k0 - 1) (by omega)
       refine DJ_q (yv_field tb rfl rfl rfl) rfl rfl rfl ?_
       refine DJ_q (yv_load1 tb rfl rfl rfl (by repeat (first | exact zi0 | apply zi1 | apply zi2)) (by rfl)) rfl rfl rfl ?_
       refine DJ_q (yv_field tb rfl rfl rfl) rfl rfl rfl ?_
       refine DJ_q (yv_load1 tb rfl rfl rfl (by repeat (first | exact zi0 | apply zi1 | apply zi2)) (by rfl)) rfl rfl rfl ?_
       refine DJ_q (yv_move (show _ = Value.int _ _ from rfl)) rfl rfl rfl ?_
       refine DJ_q (by first | exact yv_sub64 rfl rfl (by omega) (by omega) | exact yv_sub rfl rfl) rfl rfl rfl ?_
       refine DJ_q (by first | exact yv_index_ro tb rfl rfl rfl rfl (by first | assumption | exact zr (by simp)) (i := k0 - 1) (by first | rfl | omega | (simp; omega)) (by omega) | exact yv_index tb rfl rfl rfl rfl (i := k0 - 1) (by first | rfl | omega | (simp; omega)) (by omega)) rfl rfl rfl ?_
       refine DJ_q (yv_field_eo tb rfl rfl rfl) rfl rfl rfl ?_
       refine DJ_q (by first | exact yv_load1_ro tb rfl rfl rfl (by first | assumption | exact zr (by simp)) (by assumption) (by rfl) | exact yv_load1 tb rfl rfl rfl (by repeat (first | exact zi0 | apply zi1 | apply zi2)) (by rfl) | exact yv_load1 tb rfl rfl rfl (by repeat (first | exact zi0 | apply zi1 | apply zi2)) (icell_get (by assumption)) | exact yv_load1 tb rfl rfl rfl (by repeat (first | exact zi0 | apply zi1 | apply zi2)) (rcell_get (fun _ => rfl) (by assumption) rfl)) rfl rfl rfl ?_
       refine DJ_q (yv_leq rfl rfl) rfl rfl rfl ?_
       refine DJ_q (yv_move (show _ = Value.bool _ from rfl)) rfl rfl rfl ?_
       refine DJ_case (k := 61) (show _ = Value.bool _ from rfl) (fun hg13 => ?_) (fun hg13 => ?_)
       ·
        try simp only [zb1, zb2, zb3, zb4, zb5, zb6, zb7, zb8] at hg13
        refine DJ_skip rfl rfl rfl ?_
        refine DJ_skip rfl rfl rfl ?_
        refine DJ_skip rfl rfl rfl ?_
        refine DJ_skip rfl rfl rfl ?_
        refine DJ_skip rfl rfl rfl ?_
        refine DJ_skip rfl rfl rfl ?_
        refine DJ_skip rfl rfl rfl ?_
        refine DJ_skip rfl rfl rfl ?_
        refine DJ_skip rfl rfl rfl ?_
        refine DJ_skip rfl rfl rfl ?_
        refine DJ_q (by first | exact yv_pick_true rfl rfl | exact yv_pick_false rfl rfl | exact yv_pick rfl) rfl rfl rfl ?_
        refine DJ_q (by first | exact yv_pick_true rfl rfl | exact yv_pick_false rfl rfl | exact yv_pick rfl) rfl rfl rfl ?_
        refine DJ_nil (seqK_normal ?_)
        refine CJ_cond_true rfl ?_
        refine CJ_seq (CJ_region ?_)
        refine LJ_q (yv_assign (show _ = Value.int _ _ from rfl)) rfl ?_
        refine LJ_nil (seqK_normal (CJ_ret (blockK_ret (seqK_ret (loopK_ret (blockK_ret (seqK_ret ?_)))))))
        refine retK_ret (L' := L) (R' := R) (res1 rfl (rv_tmp (show _ = Value.int _ _ from rfl))) ?hp ?hL ?hR
        case hp => exact ⟨by rw [fanErr, if_neg (by omega), if_neg (by omega), FSR_some hp0 (by omega) (pointErr_14 hp (by omega) (by omega) hq (by omega))]; rfl, rfl, rfl⟩
        case hL => exact (by repeat (first | exact zs0 _ | exact zs1 _ | apply zs2 | apply zs3 | apply zs4 | apply zs5))
        case hR => exact allR_self _
       ·
        try simp only [zb1, zb2, zb3, zb4, zb5, zb6, zb7, zb8] at hg13
        refine DJ_q (yv_field tb rfl rfl rfl) rfl rfl rfl ?_
        refine DJ_q (yv_load1 tb rfl rfl rfl (by repeat (first | exact zi0 | apply zi1 | apply zi2)) (by rfl)) rfl rfl rfl ?_
        refine DJ_q (yv_field tb rfl rfl rfl) rfl rfl rfl ?_
        refine DJ_q (yv_load1 tb rfl rfl rfl (by repeat (first | exact zi0 | apply zi1 | apply zi2)) (by rfl)) rfl rfl rfl ?_
        refine DJ_q (yv_move (show _ = Value.int _ _ from rfl)) rfl rfl rfl ?_
        refine DJ_q (by first | exact yv_sub64 rfl rfl (by omega) (by omega) | exact yv_sub rfl rfl) rfl rfl rfl ?_
        refine DJ_q (by first | exact yv_index_ro tb rfl rfl rfl rfl (by first | assumption | exact zr (by simp)) (i := k0 - 1) (by first | rfl | omega | (simp; omega)) (by omega) | exact yv_index tb rfl rfl rfl rfl (i := k0 - 1) (by first | rfl | omega | (simp; omega)) (by omega)) rfl rfl rfl ?_
        refine DJ_q (yv_field_eo tb rfl rfl rfl) rfl rfl rfl ?_
        refine DJ_q (by first | exact yv_load1_ro tb rfl rfl rfl (by first | assumption | exact zr (by simp)) (by assumption) (by rfl) | exact yv_load1 tb rfl rfl rfl (by repeat (first | exact zi0 | apply zi1 | apply zi2)) (by rfl) | exact yv_load1 tb rfl rfl rfl (by repeat (first | exact zi0 | apply zi1 | apply zi2)) (icell_get (by assumption)) | exact yv_load1 tb rfl rfl rfl (by repeat (first | exact zi0 | apply zi1 | apply zi2)) (rcell_get (fun _ => rfl) (by assumption) rfl)) rfl rfl rfl ?_
        refine DJ_q (yv_gtr rfl rfl) rfl rfl rfl ?_
        refine DJ_q (by first | exact yv_pick_true rfl rfl | exact yv_pick_false rfl rfl | exact yv_pick rfl) rfl rfl rfl ?_
        refine DJ_q (by first | exact yv_pick_true rfl rfl | exact yv_pick_false rfl rfl | exact yv_pick rfl) rfl rfl rfl ?_
        refine DJ_nil (seqK_normal ?_)
        refine CJ_cond (show _ = Value.bool _ from rfl) (fun hc4 => ?_) (fun hc4 => ?_)
        ·
         try simp only [zb1, zb2, zb3, zb4, zb5, zb6, zb7, zb8] at hc4
         refine CJ_seq (CJ_region ?_)
         refine LJ_q (yv_assign (show _ = Value.int _ _ from rfl)) rfl ?_
         refine LJ_nil (seqK_normal (CJ_ret (blockK_ret (seqK_ret (loopK_ret (blockK_ret (seqK_ret ?_)))))))
         refine retK_ret (L' := L) (R' := R) (res1 rfl (rv_tmp (show _ = Value.int _ _ from rfl))) ?hp ?hL ?hR
         case hp => exact ⟨by rw [fanErr, if_neg (by omega), if_neg (by omega), FSR_some hp0 (by omega) (pointErr_14 hp (by omega) (by omega) hq (by omega))]; rfl, rfl, rfl⟩
         case hL => exact (by repeat (first | exact zs0 _ | exact zs1 _ | apply zs2 | apply zs3 | apply zs4 | apply zs5))
         case hR => exact allR_self _
        ·
         try simp only [zb1, zb2, zb3, zb4, zb5, zb6, zb7, zb8] at hc4
         refine CJ_skip (blockK_normal (seqK_normal (CJ_region ?_)))
         refine LJ_q (yv_move (show _ = Value.int _ _ from rfl)) rfl ?_
         refine LJ_q (by first | exact yv_add64 rfl rfl (by omega) (by omega) | exact yv_addU rfl rfl (by omega) (by omega) | exact yv_add rfl rfl) rfl ?_
         refine LJ_q (yv_assign (show _ = Value.int _ _ from rfl)) rfl ?_
         refine LJ_nil ?_
         exact loopK_mk ⟨k0 + 1, FSR_next hp0 (by omega) (by first | exact pointErr_0 hp (by omega) (by omega) | exact pointErr_n hp (by omega) (by omega) hq (by omega))⟩ (by repeat (first | exact Off.refl | apply Off.upd rfl | apply Off.havoc rfl | apply Off.updL rfl | apply Off.left rfl)) (by repeat' (first | exact trivial | refine And.intro rfl ?_)) (by repeat (first | exact zs0 _ | exact zs1 _ | apply zs2 | apply zs3 | apply zs4 | apply zs5)) (allR_self _) (by dsimp only; omega)
      ·
       try simp only [zb1, zb2, zb3, zb4, zb5, zb6, zb7, zb8] at hg2
       refine DJ_skip rfl rfl rfl ?_
       refine DJ_skip rfl rfl rfl ?_
       refine DJ_skip rfl rfl rfl ?_
       refine DJ_skip rfl rfl rfl ?_
       refine DJ_skip rfl rfl rfl ?_
       refine DJ_skip rfl rfl rfl ?_
       refine DJ_skip rfl rfl rfl ?_
       refine DJ_skip rfl rfl rfl ?_
       refine DJ_skip rfl rfl rfl ?_
       refine DJ_skip rfl rfl rfl ?_
       refine DJ_skip rfl rfl rfl ?_
       refine DJ_skip rfl rfl rfl ?_
       refine DJ_skip rfl rfl rfl ?_
       refine DJ_skip rfl rfl rfl ?_
       refine DJ_skip rfl rfl rfl ?_
       refine DJ_skip rfl rfl rfl ?_
       refine DJ_skip rfl rfl rfl ?_
       refine DJ_skip rfl rfl rfl ?_
       refine DJ_skip rfl rfl rfl ?_
       refine DJ_skip rfl rfl rfl ?_
       refine DJ_skip rfl rfl rfl ?_
       refine DJ_skip rfl rfl rfl ?_
       refine DJ_q (by first | exact yv_pick_true rfl rfl | exact yv_pick_false rfl rfl | exact yv_pick rfl) rfl rfl rfl ?_
       refine DJ_nil (seqK_normal ?_)
       refine CJ_cond_false rfl ?_
       refine CJ_skip (blockK_normal (seqK_normal (CJ_region ?_)))
       refine LJ_q (yv_move (show _ = Value.int _ _ from rfl)) rfl ?_
       refine LJ_q (by first | exact yv_add64 rfl rfl (by omega) (by omega) | exact yv_addU rfl rfl (by omega) (by omega) | exact yv_add rfl rfl) rfl ?_
       refine LJ_q (yv_assign (show _ = Value.int _ _ from rfl)) rfl ?_
       refine LJ_nil ?_
       exact loopK_mk ⟨k0 + 1, FSR_next hp0 (by omega) (by first | exact pointErr_0 hp (by omega) (by omega) | exact pointErr_n hp (by omega) (by omega) hq (by omega))⟩ (by repeat (first | exact Off.refl | apply Off.upd rfl | apply Off.havoc rfl | apply Off.updL rfl | apply Off.left rfl)) (by repeat' (first | exact trivial | refine And.intro rfl ?_)) (by repeat (first | exact zs0 _ | exact zs1 _ | apply zs2 | apply zs3 | apply zs4 | apply zs5)) (allR_self _) (by dsimp only; omega)
    ·
     try simp only [zb1, zb2, zb3, zb4, zb5, zb6, zb7, zb8] at hc2
     have hn0 := FSR_none hp0 (by omega)
     refine CJ_exit (seqK_exit (loopK_exit (blockK_exit (seqK_normal (CJ_seq (CJ_region ?_))))))
     refine LJ_q (yv_assign (show _ = Value.int _ _ from rfl)) rfl ?_
     refine LJ_nil (seqK_normal (CJ_ret ?_))
     refine retK_ret (L' := L) (R' := R) (res1 rfl (rv_tmp (show _ = Value.int _ _ from rfl))) ?hp ?hL ?hR
     case hp => exact ⟨by rw [fanErr, if_neg (by omega), if_neg (by omega), hn0]; rfl, rfl, rfl⟩
     case hL => exact (by repeat (first | exact zs0 _ | exact zs1 _ | apply zs2 | apply zs3 | apply zs4 | apply zs5))
     case hR => exact allR_self _
end Go.Proofs.Ytimnnhdeicpenaa
