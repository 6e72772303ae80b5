/-
  The reference's Drop and Flow. By an AI agent; no person has read it.
-/
import Derived.Test.YtimnnhdeicpenaaInner
set_option linter.unusedSimpArgs false
set_option linter.unusedVariables false
namespace Go.Proofs.Ytimnnhdeicpenaa
open Go.Aw Go
set_option maxRecDepth 20000
attribute [local irreducible] CJ LJ DJ Tri YV Gives seqK blockK loopK retK RV mergeK

def openB (a : XAir) (s : XSetting) (r : Int) : Bool :=
  ((rightB a s && decide (0 ≤ r)) && decide (r < (a.mine.roads.l.length : Int))) && !(a.mine.roads.l.getD r.toNat default).closed
/-- P9.2 -/
def dropS (a : XAir) (s : XSetting) (r q : Int) : XSpan := if openB a s r = false ∨ q < -1048577 ∨ 1048577 < q then ⟨0, 0⟩ else innerS a s r q
/-- P9.3 -/
def flowS (a : XAir) (s : XSetting) (r p : Int) : XSpan := if openB a s r = false then ⟨0, 0⟩ else ⟨flowLow (innerS a s r) p, flowHigh (innerS a s r) p⟩

theorem open_of {a : XAir} {s : XSetting} {r : Int} (h : openB a s r = true) : AirOk a ∧ FitOk a s ∧ (0 ≤ r ∧ r < a.mine.roads.l.length) ∧ (a.mine.roads.l.getD r.toNat default).closed = false := by
  simp only [openB, Bool.and_eq_true, decide_eq_true_eq, Bool.not_eq_true'] at h
  obtain ⟨⟨⟨h1, h2⟩, h3⟩, h4⟩ := h
  exact ⟨(right_of h1).1, (right_of h1).2, ⟨h2, h3⟩, h4⟩

theorem open_tri (a : XAir) (s : XSetting) (r : Int) (L : List Blk) (R : List Sl) (hm : AirR a R) (hs : SetR s R) :
    Tri Try.prog 44 [a.val, s.val, .int .i64 r].toArray L R (fun v L' R' => v = .bool (openB a s r) ∧ L = L' ∧ R = R') := by
  have hmr := hm.roads
  refine tri_enter 32 Try.call44 Try.func44 rfl rfl rfl ?_
  refine CJ_seq (CJ_region ?_)
  refine LJ_boxN rfl rfl ?_
  intro b3
  refine LJ_boxN rfl rfl ?_
  intro b4
  refine LJ_q (yv_assign (show _ = Value.bool _ from rfl)) rfl ?_
  refine LJ_nil (seqK_normal (CJ_seq (CJ_region ?_)))
  refine LJ_q (yv_loadN (row := [_, _, _, _]) tb rfl rfl rfl (by repeat (first | exact zi0 | apply zi1 | apply zi2)) (by rfl) (by rfl)) rfl ?_
  refine LJ_q (yv_loadN (row := [_, _]) tb rfl rfl rfl (by repeat (first | exact zi0 | apply zi1 | apply zi2)) (by rfl) (by rfl)) rfl ?_
  refine LJ_call rfl (ref09Right_tri a s _ _ hm hs) rfl ?_
  rintro v L' R' ⟨rfl, rfl, rfl⟩
  refine LJ_q (yv_move (show _ = Value.bool _ from rfl)) rfl ?_
  apply LJ_and (G := [_, _]) (j := 3) (cj := 10) rfl rfl (by rfl) rfl (show _ = Value.bool _ from rfl) rfl
  ·
   intro hg4
   try simp only [zb1, zb2, zb3, zb4, zb5, zb6, zb7, zb8] at hg4
   refine LJ_q (yv_move (show _ = Value.int _ _ from rfl)) rfl ?_
   refine LJ_q (yv_geq rfl rfl) rfl ?_
   exact LJ_merge_end (show _ = Value.bool _ from rfl) (by repeat (first | exact Off.refl | apply Off.upd rfl | apply Off.havoc rfl | apply Off.updL rfl | apply Off.left rfl)) (by repeat (first | exact zs0 _ | exact zs1 _ | apply zs2 | apply zs3 | apply zs4 | apply zs5)) (by first | exact allR_self _ | exact fun r h => inR_self (by simp [h]))
  intro junk4
  refine LJ_q (yv_move (show _ = Value.bool _ from rfl)) rfl ?_
  apply LJ_and (G := [_, _, _, _, _, _]) (j := 7) (cj := 14) rfl rfl (by rfl) rfl (show _ = Value.bool _ from rfl) rfl
  ·
   intro hg8
   try simp only [zb1, zb2, zb3, zb4, zb5, zb6, zb7, zb8] at hg8
   refine LJ_q (yv_move (show _ = Value.int _ _ from rfl)) rfl ?_
   refine LJ_q (yv_field tb rfl rfl rfl) rfl ?_
   refine LJ_q (yv_field tb rfl rfl rfl) rfl ?_
   refine LJ_q (yv_load1 tb rfl rfl rfl (by repeat (first | exact zi0 | apply zi1 | apply zi2)) (by rfl)) rfl ?_
   refine LJ_q (yv_len tb rfl rfl rfl) rfl ?_
   refine LJ_q (yv_lss rfl rfl) rfl ?_
   exact LJ_merge_end (show _ = Value.bool _ from rfl) (by repeat (first | exact Off.refl | apply Off.upd rfl | apply Off.havoc rfl | apply Off.updL rfl | apply Off.left rfl)) (by repeat (first | exact zs0 _ | exact zs1 _ | apply zs2 | apply zs3 | apply zs4 | apply zs5)) (by first | exact allR_self _ | exact fun r h => inR_self (by simp [h]))
  intro junk8
  refine LJ_q (yv_move (show _ = Value.bool _ from rfl)) rfl ?_
  apply LJ_and (G := [_, _, _, _, _, _, _, _]) (j := 15) (cj := 22) rfl rfl (by rfl) rfl (show _ = Value.bool _ from rfl) rfl
  ·
   intro hg16
   try simp only [zb1, zb2, zb3, zb4, zb5, zb6, zb7, zb8] at hg16
   have hro := get_D (l := a.mine.roads.l) (k := r.toNat) default (by omega)
   refine LJ_q (yv_field tb rfl rfl rfl) rfl ?_
   refine LJ_q (yv_field tb rfl rfl rfl) rfl ?_
   refine LJ_q (yv_load1 tb rfl rfl rfl (by repeat (first | exact zi0 | apply zi1 | apply zi2)) (by rfl)) rfl ?_
   refine LJ_q (yv_move (show _ = Value.int _ _ from rfl)) rfl ?_
   refine LJ_q (by first | exact yv_index_ro tb rfl rfl rfl rfl (by first | assumption | exact zr (by simp)) (i := r.toNat) (by first | rfl | omega | (simp; omega)) (by omega) | exact yv_index tb rfl rfl rfl rfl (i := r.toNat) (by first | rfl | omega | (simp; omega)) (by omega)) rfl ?_
   refine LJ_q (yv_field_eo tb rfl rfl rfl) rfl ?_
   refine LJ_q (by first | exact yv_load1_ro tb rfl rfl rfl (by first | assumption | exact zr (by simp)) (by assumption) (by rfl) | exact yv_load1 tb rfl rfl rfl (by repeat (first | exact zi0 | apply zi1 | apply zi2)) (by rfl) | exact yv_load1 tb rfl rfl rfl (by repeat (first | exact zi0 | apply zi1 | apply zi2)) (icell_get (by assumption)) | exact yv_load1 tb rfl rfl rfl (by repeat (first | exact zi0 | apply zi1 | apply zi2)) (rcell_get (fun _ => rfl) (by assumption) rfl)) rfl ?_
   refine LJ_q (yv_not rfl) rfl ?_
   exact LJ_merge_end (show _ = Value.bool _ from rfl) (by repeat (first | exact Off.refl | apply Off.upd rfl | apply Off.havoc rfl | apply Off.updL rfl | apply Off.left rfl)) (by repeat (first | exact zs0 _ | exact zs1 _ | apply zs2 | apply zs3 | apply zs4 | apply zs5)) (by first | exact allR_self _ | exact fun r h => inR_self (by simp [h]))
  intro junk16
  refine LJ_q (yv_assign (show _ = Value.bool _ from rfl)) rfl ?_
  refine LJ_nil (seqK_normal (CJ_ret ?_))
  refine retK_ret (L' := L) (R' := R) (res1 rfl (rv_tmp (show _ = Value.bool _ from rfl))) ?hp ?hL ?hR
  case hp => exact ⟨rfl, rfl, rfl⟩
  case hL => exact (by repeat (first | exact zs0 _ | exact zs1 _ | apply zs2 | apply zs3 | apply zs4 | apply zs5))
  case hR => exact allR_self _

theorem ref09Drop_tri (a : XAir) (s : XSetting) (r q : Int) (L : List Blk) (R : List Sl) (hm : AirR a R) (hs : SetR s R) :
    Tri Try.prog 24 [a.val, s.val, .int .i64 r, .int .i64 q].toArray L R (fun v L' R' => v = (dropS a s r q).val ∧ L = L' ∧ R = R') := by
  refine tri_enter 28 Try.call24 Try.func24 rfl rfl rfl ?_
  refine CJ_seq (CJ_region ?_)
  refine LJ_boxN rfl rfl ?_
  intro b4
  refine LJ_boxN rfl rfl ?_
  intro b5
  refine LJ_alloc tb rfl rfl ?_
  intro b8
  refine LJ_nil (seqK_normal (CJ_seq (CJ_seq (CJ_region ?_))))
  refine LJ_q (yv_loadN (row := [_, _, _, _]) tb rfl rfl rfl (by repeat (first | exact zi0 | apply zi1 | apply zi2)) (by rfl) (by rfl)) rfl ?_
  refine LJ_q (yv_loadN (row := [_, _]) tb rfl rfl rfl (by repeat (first | exact zi0 | apply zi1 | apply zi2)) (by rfl) (by rfl)) rfl ?_
  refine LJ_q (yv_move (show _ = Value.int _ _ from rfl)) rfl ?_
  refine LJ_call rfl (open_tri a s r _ _ hm hs) rfl ?_
  rintro v L' R' ⟨rfl, rfl, rfl⟩
  refine LJ_q (yv_not rfl) rfl ?_
  refine LJ_q (yv_move (show _ = Value.bool _ from rfl)) rfl ?_
  apply LJ_or (G := [_, _]) (j := 5) (cj := 14) rfl rfl (by rfl) rfl (show _ = Value.bool _ from rfl) rfl
  ·
   intro hg6
   try simp only [zb1, zb2, zb3, zb4, zb5, zb6, zb7, zb8] at hg6
   refine LJ_q (yv_move (show _ = Value.int _ _ from rfl)) rfl ?_
   refine LJ_q (yv_lss rfl rfl) rfl ?_
   exact LJ_merge_end (show _ = Value.bool _ from rfl) (by repeat (first | exact Off.refl | apply Off.upd rfl | apply Off.havoc rfl | apply Off.updL rfl | apply Off.left rfl)) (by repeat (first | exact zs0 _ | exact zs1 _ | apply zs2 | apply zs3 | apply zs4 | apply zs5)) (by first | exact allR_self _ | exact fun r h => inR_self (by simp [h]))
  intro junk6
  refine LJ_q (yv_move (show _ = Value.bool _ from rfl)) rfl ?_
  apply LJ_or (G := [_, _]) (j := 9) (cj := 18) rfl rfl (by rfl) rfl (show _ = Value.bool _ from rfl) rfl
  ·
   intro hg10
   try simp only [zb1, zb2, zb3, zb4, zb5, zb6, zb7, zb8] at hg10
   refine LJ_q (yv_move (show _ = Value.int _ _ from rfl)) rfl ?_
   refine LJ_q (yv_gtr rfl rfl) rfl ?_
   exact LJ_merge_end (show _ = Value.bool _ from rfl) (by repeat (first | exact Off.refl | apply Off.upd rfl | apply Off.havoc rfl | apply Off.updL rfl | apply Off.left rfl)) (by repeat (first | exact zs0 _ | exact zs1 _ | apply zs2 | apply zs3 | apply zs4 | apply zs5)) (by first | exact allR_self _ | exact fun r h => inR_self (by simp [h]))
  intro junk10
  refine LJ_nil (seqK_normal ?_)
  refine CJ_cond (show _ = Value.bool _ from rfl) (fun hc0 => ?_) (fun hc0 => ?_)
  ·
   try simp only [zb1, zb2, zb3, zb4, zb5, zb6, zb7, zb8] at hc0
   refine CJ_seq (CJ_region ?_)
   refine LJ_q (yv_build (qs := []) (out := [_, _]) tb rfl rfl rfl rfl) rfl ?_
   refine LJ_storeW tb rfl rfl rfl rfl (by repeat (first | apply zu0 | apply zu1 | apply zu2)) (by rfl) (by rfl) ?_
   refine LJ_nil (seqK_normal (CJ_ret (seqK_ret ?_)))
   refine retK_ret (L' := L) (R' := R) (res1 rfl (rv_cell (row := [_, _]) tb rfl rfl rfl (by repeat (first | exact zi0 | apply zi1 | apply zi2)) (by rfl) (by rfl))) ?hp ?hL ?hR
   case hp => exact ⟨by rw [dropS, if_pos (by simpa [or_assoc] using hc0)], rfl, rfl⟩
   case hL => exact (by repeat (first | exact zs0 _ | exact zs1 _ | apply zs2 | apply zs3 | apply zs4 | apply zs5))
   case hR => exact allR_self _
  ·
   try simp only [zb1, zb2, zb3, zb4, zb5, zb6, zb7, zb8] at hc0
   obtain ⟨ha, hf, hr, hcl⟩ := open_of (by simpa using hc0.1.1)
   refine CJ_skip (seqK_normal (CJ_seq (CJ_region ?_)))
   refine LJ_q (yv_loadN (row := [_, _, _, _]) tb rfl rfl rfl (by repeat (first | exact zi0 | apply zi1 | apply zi2)) (by rfl) (by rfl)) rfl ?_
   refine LJ_q (yv_loadN (row := [_, _]) tb rfl rfl rfl (by repeat (first | exact zi0 | apply zi1 | apply zi2)) (by rfl) (by rfl)) rfl ?_
   refine LJ_q (yv_move (show _ = Value.int _ _ from rfl)) rfl ?_
   refine LJ_q (yv_move (show _ = Value.int _ _ from rfl)) rfl ?_
   refine LJ_call rfl (inner09_tri a s r q _ _ hm hs ha hf hr (by omega)) rfl ?_
   rintro v L' R' ⟨rfl, rfl, rfl⟩
   refine LJ_storeW tb rfl rfl rfl rfl (by repeat (first | apply zu0 | apply zu1 | apply zu2)) (by rfl) (by rfl) ?_
   refine LJ_nil (seqK_normal (CJ_ret ?_))
   refine retK_ret (L' := L) (R' := R) (res1 rfl (rv_cell (row := [_, _]) tb rfl rfl rfl (by repeat (first | exact zi0 | apply zi1 | apply zi2)) (by rfl) (by rfl))) ?hp ?hL ?hR
   case hp => exact ⟨by rw [dropS, if_neg (by simpa [and_assoc] using hc0)], rfl, rfl⟩
   case hL => exact (by repeat (first | exact zs0 _ | exact zs1 _ | apply zs2 | apply zs3 | apply zs4 | apply zs5))
   case hR => exact allR_self _

theorem lowest_tri (a : XAir) (s : XSetting) (r pr : Int) (L : List Blk) (R : List Sl) (hm : AirR a R) (hs : SetR s R) (ha : AirOk a) (hf : FitOk a s) (hr : 0 ≤ r ∧ r < a.mine.roads.l.length) :
    Tri Try.prog 48 [a.val, s.val, .int .i64 r, .int .i64 pr].toArray L R (fun v L' R' => v = .int .i64 (flowLow (innerS a s r) pr) ∧ L = L' ∧ R = R') := by
  refine tri_enter 34 Try.call48 Try.func48 rfl rfl rfl ?_
  refine CJ_seq (CJ_region ?_)
  refine LJ_boxN rfl rfl ?_
  intro b4
  refine LJ_boxN rfl rfl ?_
  intro b5
  refine LJ_q (yv_assign (show _ = Value.int _ _ from rfl)) rfl ?_
  refine LJ_nil (seqK_normal (CJ_seq (CJ_region ?_)))
  refine LJ_q (yv_assign (show _ = Value.int _ _ from rfl)) rfl ?_
  refine LJ_q (yv_assign (show _ = Value.int _ _ from rfl)) rfl ?_
  refine LJ_nil (seqK_normal (CJ_seq (CJ_block ?_)))
  refine CJ_forget [(2, Value.int _ _), (3, Value.int _ _), (4, Value.pointer _), (5, Value.pointer _), (9, Value.int _ _), (10, Value.int _ _)] (by repeat' (first | exact trivial | refine And.intro rfl ?_)) fun tq0 => ?_
  refine CJ_loopS [9, 10, 11, 12, 13, 14, 15, 16, 17, 18, 19, 20, 21, 22, 23, 24, 25, 26, 27, 28, 29, 30, 31, 32] (fun g : {g : Int × Int // -1048577 ≤ g.1 ∧ g.1 ≤ g.2 ∧ g.2 ≤ 1048576 ∧ flowLow (innerS a s r) pr = lowS (fun q => (innerS a s r q).high) pr g.1 g.2} => [(9, .int .i64 g.1.1), (10, .int .i64 g.1.2)]) (fun g => (g.1.2 - g.1.1).toNat) (⟨(-1048577, 1048576), by omega, by omega, by omega, rfl⟩) (by repeat' (first | exact trivial | refine And.intro rfl ?_)) ?_
  rintro ⟨⟨lo, hi⟩, h1, h2, h3, h4⟩ junk
  try dsimp only
  refine CJ_seq (CJ_seq (CJ_region ?_))
  refine LJ_q (yv_move (show _ = Value.int _ _ from rfl)) rfl ?_
  refine LJ_q (yv_move (show _ = Value.int _ _ from rfl)) rfl ?_
  refine LJ_q (yv_lss rfl rfl) rfl ?_
  refine LJ_nil (seqK_normal ?_)
  refine CJ_cond (show _ = Value.bool _ from rfl) (fun hc0 => ?_) (fun hc0 => ?_)
  ·
   try simp only [zb1, zb2, zb3, zb4, zb5, zb6, zb7, zb8] at hc0
   dsimp only at h1 h2 h3 h4 hc0
   have he := half_eq (x := hi - lo + 1) (by omega)
   refine CJ_skip (seqK_normal (CJ_block (CJ_seq (CJ_region ?_))))
   refine LJ_q (yv_move (show _ = Value.int _ _ from rfl)) rfl ?_
   refine LJ_q (yv_move (show _ = Value.int _ _ from rfl)) rfl ?_
   refine LJ_q (yv_move (show _ = Value.int _ _ from rfl)) rfl ?_
   refine LJ_q (by first | exact yv_sub64 rfl rfl (by omega) (by omega) | exact yv_sub rfl rfl) rfl ?_
   refine LJ_q (by first | exact yv_add64 rfl rfl (by omega) (by omega) | exact yv_addU rfl rfl (by omega) (by omega) | exact yv_add rfl rfl) rfl ?_
   refine LJ_q (by first | exact yv_quo64 rfl rfl (by omega) (by omega) (by omega) | exact yv_quoU rfl rfl (by omega) (by omega) (by omega) | exact yv_quo rfl rfl (by omega)) rfl ?_
   refine LJ_q (by first | exact yv_add64 rfl rfl (by omega) (by omega) | exact yv_addU rfl rfl (by omega) (by omega) | exact yv_add rfl rfl) rfl ?_
   refine LJ_q (yv_assign (show _ = Value.int _ _ from rfl)) rfl ?_
   refine LJ_nil (seqK_normal (CJ_seq (CJ_region ?_)))
   refine LJ_q (yv_loadN (row := [_, _, _, _]) tb rfl rfl rfl (by repeat (first | exact zi0 | apply zi1 | apply zi2)) (by rfl) (by rfl)) rfl ?_
   refine LJ_q (yv_loadN (row := [_, _]) tb rfl rfl rfl (by repeat (first | exact zi0 | apply zi1 | apply zi2)) (by rfl) (by rfl)) rfl ?_
   refine LJ_q (yv_move (show _ = Value.int _ _ from rfl)) rfl ?_
   refine LJ_q (yv_move (show _ = Value.int _ _ from rfl)) rfl ?_
   refine LJ_call rfl (inner09_tri a s r (lo + (hi - lo + 1).tdiv 2) _ _ hm hs ha hf hr (by omega)) rfl ?_
   rintro v L' R' ⟨rfl, rfl, rfl⟩
   refine LJ_q (yv_fieldv (e := 3) tb rfl (by kernel_rfl) rfl rfl rfl rfl rfl) rfl ?_
   refine LJ_q (yv_move (show _ = Value.int _ _ from rfl)) rfl ?_
   refine LJ_q (yv_leq rfl rfl) rfl ?_
   refine LJ_nil (seqK_normal ?_)
   refine CJ_cond (show _ = Value.bool _ from rfl) (fun hc1 => ?_) (fun hc1 => ?_)
   ·
    try simp only [zb1, zb2, zb3, zb4, zb5, zb6, zb7, zb8] at hc1
    have e := h4.trans (lowS_le hc0 hc1)
    refine CJ_region ?_
    refine LJ_q (yv_move (show _ = Value.int _ _ from rfl)) rfl ?_
    refine LJ_q (yv_assign (show _ = Value.int _ _ from rfl)) rfl ?_
    refine LJ_nil (blockK_normal ?_)
    exact loopK_mk ⟨(_, _), by dsimp only; omega, by dsimp only; omega, by dsimp only; omega, e⟩ (by repeat (first | exact Off.refl | apply Off.upd rfl | apply Off.havoc rfl | apply Off.updL rfl | apply Off.left rfl)) ⟨rfl, rfl, trivial⟩ (by repeat (first | exact zs0 _ | exact zs1 _ | apply zs2 | apply zs3 | apply zs4 | apply zs5)) (allR_self _) (by dsimp only; omega)
   ·
    try simp only [zb1, zb2, zb3, zb4, zb5, zb6, zb7, zb8] at hc1
    have e := h4.trans (lowS_gt hc0 hc1)
    refine CJ_region ?_
    refine LJ_q (yv_move (show _ = Value.int _ _ from rfl)) rfl ?_
    refine LJ_q (by first | exact yv_sub64 rfl rfl (by omega) (by omega) | exact yv_sub rfl rfl) rfl ?_
    refine LJ_q (yv_assign (show _ = Value.int _ _ from rfl)) rfl ?_
    refine LJ_nil (blockK_normal ?_)
    exact loopK_mk ⟨(_, _), by dsimp only; omega, by dsimp only; omega, by dsimp only; omega, e⟩ (by repeat (first | exact Off.refl | apply Off.upd rfl | apply Off.havoc rfl | apply Off.updL rfl | apply Off.left rfl)) ⟨rfl, rfl, trivial⟩ (by repeat (first | exact zs0 _ | exact zs1 _ | apply zs2 | apply zs3 | apply zs4 | apply zs5)) (allR_self _) (by dsimp only; omega)
  ·
   try simp only [zb1, zb2, zb3, zb4, zb5, zb6, zb7, zb8] at hc0
   dsimp only at h1 h2 h3 h4 hc0
   refine CJ_exit (seqK_exit (loopK_exit (blockK_exit (seqK_normal (CJ_seq (CJ_region ?_))))))
   refine LJ_q (yv_move (show _ = Value.int _ _ from rfl)) rfl ?_
   refine LJ_q (yv_assign (show _ = Value.int _ _ from rfl)) rfl ?_
   refine LJ_nil (seqK_normal (CJ_ret ?_))
   refine retK_ret (L' := L) (R' := R) (res1 rfl (rv_tmp (show _ = Value.int _ _ from rfl))) ?hp ?hL ?hR
   case hp => exact ⟨by rw [h4, lowS_end hc0], rfl, rfl⟩
   case hL => exact (by repeat (first | exact zs0 _ | exact zs1 _ | apply zs2 | apply zs3 | apply zs4 | apply zs5))
   case hR => exact allR_self _

theorem highest_tri (a : XAir) (s : XSetting) (r pr : Int) (L : List Blk) (R : List Sl) (hm : AirR a R) (hs : SetR s R) (ha : AirOk a) (hf : FitOk a s) (hr : 0 ≤ r ∧ r < a.mine.roads.l.length) :
    Tri Try.prog 49 [a.val, s.val, .int .i64 r, .int .i64 pr].toArray L R (fun v L' R' => v = .int .i64 (flowHigh (innerS a s r) pr) ∧ L = L' ∧ R = R') := by
  refine tri_enter 33 Try.call49 Try.func49 rfl rfl rfl ?_
  refine CJ_seq (CJ_region ?_)
  refine LJ_boxN rfl rfl ?_
  intro b4
  refine LJ_boxN rfl rfl ?_
  intro b5
  refine LJ_q (yv_assign (show _ = Value.int _ _ from rfl)) rfl ?_
  refine LJ_nil (seqK_normal (CJ_seq (CJ_region ?_)))
  refine LJ_q (yv_assign (show _ = Value.int _ _ from rfl)) rfl ?_
  refine LJ_q (yv_assign (show _ = Value.int _ _ from rfl)) rfl ?_
  refine LJ_nil (seqK_normal (CJ_seq (CJ_block ?_)))
  refine CJ_forget [(2, Value.int _ _), (3, Value.int _ _), (4, Value.pointer _), (5, Value.pointer _), (9, Value.int _ _), (10, Value.int _ _)] (by repeat' (first | exact trivial | refine And.intro rfl ?_)) fun tq0 => ?_
  refine CJ_loopS [9, 10, 11, 12, 13, 14, 15, 16, 17, 18, 19, 20, 21, 22, 23, 24, 25, 26, 27, 28, 29, 30, 31] (fun g : {g : Int × Int // -1048576 ≤ g.1 ∧ g.1 ≤ g.2 ∧ g.2 ≤ 1048577 ∧ flowHigh (innerS a s r) pr = highS (fun q => (innerS a s r q).low) pr g.1 g.2} => [(9, .int .i64 g.1.1), (10, .int .i64 g.1.2)]) (fun g => (g.1.2 - g.1.1).toNat) (⟨(-1048576, 1048577), by omega, by omega, by omega, rfl⟩) (by repeat' (first | exact trivial | refine And.intro rfl ?_)) ?_
  rintro ⟨⟨lo, hi⟩, h1, h2, h3, h4⟩ junk
  try dsimp only
  refine CJ_seq (CJ_seq (CJ_region ?_))
  refine LJ_q (yv_move (show _ = Value.int _ _ from rfl)) rfl ?_
  refine LJ_q (yv_move (show _ = Value.int _ _ from rfl)) rfl ?_
  refine LJ_q (yv_lss rfl rfl) rfl ?_
  refine LJ_nil (seqK_normal ?_)
  refine CJ_cond (show _ = Value.bool _ from rfl) (fun hc0 => ?_) (fun hc0 => ?_)
  ·
   try simp only [zb1, zb2, zb3, zb4, zb5, zb6, zb7, zb8] at hc0
   dsimp only at h1 h2 h3 h4 hc0
   have he := half_eq (x := hi - lo) (by omega)
   refine CJ_skip (seqK_normal (CJ_block (CJ_seq (CJ_region ?_))))
   refine LJ_q (yv_move (show _ = Value.int _ _ from rfl)) rfl ?_
   refine LJ_q (yv_move (show _ = Value.int _ _ from rfl)) rfl ?_
   refine LJ_q (yv_move (show _ = Value.int _ _ from rfl)) rfl ?_
   refine LJ_q (by first | exact yv_sub64 rfl rfl (by omega) (by omega) | exact yv_sub rfl rfl) rfl ?_
   refine LJ_q (by first | exact yv_quo64 rfl rfl (by omega) (by omega) (by omega) | exact yv_quoU rfl rfl (by omega) (by omega) (by omega) | exact yv_quo rfl rfl (by omega)) rfl ?_
   refine LJ_q (by first | exact yv_add64 rfl rfl (by omega) (by omega) | exact yv_addU rfl rfl (by omega) (by omega) | exact yv_add rfl rfl) rfl ?_
   refine LJ_q (yv_assign (show _ = Value.int _ _ from rfl)) rfl ?_
   refine LJ_nil (seqK_normal (CJ_seq (CJ_region ?_)))
   refine LJ_q (yv_loadN (row := [_, _, _, _]) tb rfl rfl rfl (by repeat (first | exact zi0 | apply zi1 | apply zi2)) (by rfl) (by rfl)) rfl ?_
   refine LJ_q (yv_loadN (row := [_, _]) tb rfl rfl rfl (by repeat (first | exact zi0 | apply zi1 | apply zi2)) (by rfl) (by rfl)) rfl ?_
   refine LJ_q (yv_move (show _ = Value.int _ _ from rfl)) rfl ?_
   refine LJ_q (yv_move (show _ = Value.int _ _ from rfl)) rfl ?_
   refine LJ_call rfl (inner09_tri a s r (lo + (hi - lo).tdiv 2) _ _ hm hs ha hf hr (by omega)) rfl ?_
   rintro v L' R' ⟨rfl, rfl, rfl⟩
   refine LJ_q (yv_fieldv (e := 3) tb rfl (by kernel_rfl) rfl rfl rfl rfl rfl) rfl ?_
   refine LJ_q (yv_move (show _ = Value.int _ _ from rfl)) rfl ?_
   refine LJ_q (yv_geq rfl rfl) rfl ?_
   refine LJ_nil (seqK_normal ?_)
   refine CJ_cond (show _ = Value.bool _ from rfl) (fun hc1 => ?_) (fun hc1 => ?_)
   ·
    try simp only [zb1, zb2, zb3, zb4, zb5, zb6, zb7, zb8] at hc1
    have e := h4.trans (highS_ge hc0 hc1)
    refine CJ_region ?_
    refine LJ_q (yv_move (show _ = Value.int _ _ from rfl)) rfl ?_
    refine LJ_q (yv_assign (show _ = Value.int _ _ from rfl)) rfl ?_
    refine LJ_nil (blockK_normal ?_)
    exact loopK_mk ⟨(_, _), by dsimp only; omega, by dsimp only; omega, by dsimp only; omega, e⟩ (by repeat (first | exact Off.refl | apply Off.upd rfl | apply Off.havoc rfl | apply Off.updL rfl | apply Off.left rfl)) ⟨rfl, rfl, trivial⟩ (by repeat (first | exact zs0 _ | exact zs1 _ | apply zs2 | apply zs3 | apply zs4 | apply zs5)) (allR_self _) (by dsimp only; omega)
   ·
    try simp only [zb1, zb2, zb3, zb4, zb5, zb6, zb7, zb8] at hc1
    have e := h4.trans (highS_lt hc0 hc1)
    refine CJ_region ?_
    refine LJ_q (yv_move (show _ = Value.int _ _ from rfl)) rfl ?_
    refine LJ_q (by first | exact yv_add64 rfl rfl (by omega) (by omega) | exact yv_addU rfl rfl (by omega) (by omega) | exact yv_add rfl rfl) rfl ?_
    refine LJ_q (yv_assign (show _ = Value.int _ _ from rfl)) rfl ?_
    refine LJ_nil (blockK_normal ?_)
    exact loopK_mk ⟨(_, _), by dsimp only; omega, by dsimp only; omega, by dsimp only; omega, e⟩ (by repeat (first | exact Off.refl | apply Off.upd rfl | apply Off.havoc rfl | apply Off.updL rfl | apply Off.left rfl)) ⟨rfl, rfl, trivial⟩ (by repeat (first | exact zs0 _ | exact zs1 _ | apply zs2 | apply zs3 | apply zs4 | apply zs5)) (allR_self _) (by dsimp only; omega)
  ·
   try simp only [zb1, zb2, zb3, zb4, zb5, zb6, zb7, zb8] at hc0
   dsimp only at h1 h2 h3 h4 hc0
   refine CJ_exit (seqK_exit (loopK_exit (blockK_exit (seqK_normal (CJ_seq (CJ_region ?_))))))
   refine LJ_q (yv_move (show _ = Value.int _ _ from rfl)) rfl ?_
   refine LJ_q (yv_assign (show _ = Value.int _ _ from rfl)) rfl ?_
   refine LJ_nil (seqK_normal (CJ_ret ?_))
   refine retK_ret (L' := L) (R' := R) (res1 rfl (rv_tmp (show _ = Value.int _ _ from rfl))) ?hp ?hL ?hR
   case hp => exact ⟨by rw [h4, highS_end hc0], rfl, rfl⟩
   case hL => exact (by repeat (first | exact zs0 _ | exact zs1 _ | apply zs2 | apply zs3 | apply zs4 | apply zs5))
   case hR => exact allR_self _

theorem ref09Flow_tri (a : XAir) (s : XSetting) (r pr : Int) (L : List Blk) (R : List Sl) (hm : AirR a R) (hs : SetR s R) :
    Tri Try.prog 26 [a.val, s.val, .int .i64 r, .int .i64 pr].toArray L R (fun v L' R' => v = (flowS a s r pr).val ∧ L = L' ∧ R = R') := by
  refine tri_enter 26 Try.call26 Try.func26 rfl rfl rfl ?_
  refine CJ_seq (CJ_region ?_)
  refine LJ_boxN rfl rfl ?_
  intro b4
  refine LJ_boxN rfl rfl ?_
  intro b5
  refine LJ_alloc tb rfl rfl ?_
  intro b8
  refine LJ_nil (seqK_normal (CJ_seq (CJ_seq (CJ_region ?_))))
  refine LJ_q (yv_loadN (row := [_, _, _, _]) tb rfl rfl rfl (by repeat (first | exact zi0 | apply zi1 | apply zi2)) (by rfl) (by rfl)) rfl ?_
  refine LJ_q (yv_loadN (row := [_, _]) tb rfl rfl rfl (by repeat (first | exact zi0 | apply zi1 | apply zi2)) (by rfl) (by rfl)) rfl ?_
  refine LJ_q (yv_move (show _ = Value.int _ _ from rfl)) rfl ?_
  refine LJ_call rfl (open_tri a s r _ _ hm hs) rfl ?_
  rintro v L' R' ⟨rfl, rfl, rfl⟩
  refine LJ_q (yv_not rfl) rfl ?_
  refine LJ_nil (seqK_normal ?_)
  refine CJ_cond (show _ = Value.bool _ from rfl) (fun hc0 => ?_) (fun hc0 => ?_)
  ·
   try simp only [zb1, zb2, zb3, zb4, zb5, zb6, zb7, zb8] at hc0
   refine CJ_seq (CJ_region ?_)
   refine LJ_q (yv_build (qs := []) (out := [_, _]) tb rfl rfl rfl rfl) rfl ?_
   refine LJ_storeW tb rfl rfl rfl rfl (by repeat (first | apply zu0 | apply zu1 | apply zu2)) (by rfl) (by rfl) ?_
   refine LJ_nil (seqK_normal (CJ_ret (seqK_ret ?_)))
   refine retK_ret (L' := L) (R' := R) (res1 rfl (rv_cell (row := [_, _]) tb rfl rfl rfl (by repeat (first | exact zi0 | apply zi1 | apply zi2)) (by rfl) (by rfl))) ?hp ?hL ?hR
   case hp => exact ⟨by rw [flowS, if_pos hc0], rfl, rfl⟩
   case hL => exact (by repeat (first | exact zs0 _ | exact zs1 _ | apply zs2 | apply zs3 | apply zs4 | apply zs5))
   case hR => exact allR_self _
  ·
   try simp only [zb1, zb2, zb3, zb4, zb5, zb6, zb7, zb8] at hc0
   obtain ⟨ha, hf, hr, hcl⟩ := open_of (by simpa using hc0)
   refine CJ_skip (seqK_normal (CJ_seq ?_))
   refine CJ_drawn2 tb [] [0, 1, 2, 3, 5, 6, 7, 8, 4, 9, 10] [11] (_) _ mixed (by kernel_rfl) (by repeat (first | exact zs0 _ | exact zs1 _ | apply zs2 | apply zs3 | apply zs4 | apply zs5)) (by (repeat (first | apply List.Sublist.cons (a := Blk.mk b8 _ _) | apply List.Sublist.cons_cons)); exact List.Sublist.refl _) ?_
   refine DJ3_q (yv_loadN (row := [_, _, _, _]) tb rfl rfl rfl (by repeat (first | exact zi0 | apply zi1 | apply zi2)) (by rfl) (by rfl)) rfl rfl rfl rfl ?_
   refine DJ3_q (yv_loadN (row := [_, _]) tb rfl rfl rfl (by repeat (first | exact zi0 | apply zi1 | apply zi2)) (by rfl) (by rfl)) rfl rfl rfl rfl ?_
   refine DJ3_q (yv_move (show _ = Value.int _ _ from rfl)) rfl rfl rfl rfl ?_
   refine DJ3_q (yv_move (show _ = Value.int _ _ from rfl)) rfl rfl rfl rfl ?_
   refine DJ3_q (yv_loadN (row := [_, _, _, _]) tb rfl rfl rfl (by repeat (first | exact zi0 | apply zi1 | apply zi2)) (by rfl) (by rfl)) rfl rfl rfl rfl ?_
   refine DJ3_q (yv_loadN (row := [_, _]) tb rfl rfl rfl (by repeat (first | exact zi0 | apply zi1 | apply zi2)) (by rfl) (by rfl)) rfl rfl rfl rfl ?_
   refine DJ3_q (yv_move (show _ = Value.int _ _ from rfl)) rfl rfl rfl rfl ?_
   refine DJ3_q (yv_move (show _ = Value.int _ _ from rfl)) rfl rfl rfl rfl ?_
   refine DJ3_call rfl (lowest_tri a s r pr _ _ hm hs ha hf hr) rfl rfl ?_
   rintro v L' R' ⟨rfl, rfl, rfl⟩
   refine ⟨(by repeat (first | exact zs0 _ | exact zs1 _ | apply zs2 | apply zs3 | apply zs4 | apply zs5)), (by first | exact allR_self _ | exact (fun r h => inR_self (by simp [h]))), ?_⟩
   refine DJ3_call rfl (highest_tri a s r pr _ _ hm hs ha hf hr) rfl rfl ?_
   rintro v L' R' ⟨rfl, rfl, rfl⟩
   refine ⟨(by repeat (first | exact zs0 _ | exact zs1 _ | apply zs2 | apply zs3 | apply zs4 | apply zs5)), (by first | exact allR_self _ | exact (fun r h => inR_self (by simp [h]))), ?_⟩
   refine DJ3_q (yv_build (qs := [(0, (Value.int _ _).cells.toList), (1, (Value.int _ _).cells.toList)]) (out := [_, _]) tb rfl rfl rfl rfl) rfl rfl rfl rfl ?_
   refine DJ3_phase ?_
   refine DJ_storeW rfl rfl rfl rfl (by repeat (first | apply zu0 | apply zu1 | apply zu2)) (by rfl) (by rfl) (by repeat (first | exact zs0 _ | exact zs1 _ | apply zs2 | apply zs3 | apply zs4 | apply zs5)) ?_
   refine DJ_nil (seqK_normal (CJ_ret ?_))
   refine retK_ret (L' := L) (R' := R) (res1 rfl (rv_cell (row := [_, _]) tb rfl rfl rfl (by repeat (first | exact zi0 | apply zi1 | apply zi2)) (by rfl) (by rfl))) ?hp ?hL ?hR
   case hp => exact ⟨by rw [flowS, if_neg (by simpa using hc0)], rfl, rfl⟩
   case hL => exact (by repeat (first | exact zs0 _ | exact zs1 _ | apply zs2 | apply zs3 | apply zs4 | apply zs5))
   case hR => exact allR_self _
end Go.Proofs.Ytimnnhdeicpenaa
