/-
  The flow at a difference of pressure: the searches. By an AI agent; no person has read it.
-/
import Derived.Test.YtimnnhdeicpenaaPipe
set_option linter.unusedSimpArgs false
set_option linter.unusedVariables false
namespace Go.Proofs.Ytimnnhdeicpenaa
open Go.Aw Go
set_option maxRecDepth 20000
attribute [local irreducible] CJ LJ DJ Tri YV Gives seqK blockK loopK retK RV mergeK

theorem half_eq {x : Int} (h : 0 ≤ x) : x.tdiv 2 = x / 2 := Int.tdiv_eq_ediv_of_nonneg h

/-- the greatest number at which f is at most pr, if f rises -/
def lowS (f : Int → Int) (pr lo hi : Int) : Int :=
  if h : lo < hi then (if f (lo + (hi - lo + 1).tdiv 2) ≤ pr then lowS f pr (lo + (hi - lo + 1).tdiv 2) hi else lowS f pr lo (lo + (hi - lo + 1).tdiv 2 - 1)) else lo
termination_by (hi - lo).toNat
decreasing_by all_goals (have := half_eq (x := hi - lo + 1) (by omega); omega)
/-- the least number at which f is at least pr, if f rises -/
def highS (f : Int → Int) (pr lo hi : Int) : Int :=
  if h : lo < hi then (if pr ≤ f (lo + (hi - lo).tdiv 2) then highS f pr lo (lo + (hi - lo).tdiv 2) else highS f pr (lo + (hi - lo).tdiv 2 + 1) hi) else lo
termination_by (hi - lo).toNat
decreasing_by all_goals (have := half_eq (x := hi - lo) (by omega); omega)

theorem lowS_le {f : Int → Int} {pr lo hi : Int} (h : lo < hi) (hf : f (lo + (hi - lo + 1).tdiv 2) ≤ pr) : lowS f pr lo hi = lowS f pr (lo + (hi - lo + 1).tdiv 2) hi := by rw [lowS, dif_pos h, if_pos hf]
theorem lowS_gt {f : Int → Int} {pr lo hi : Int} (h : lo < hi) (hf : ¬ f (lo + (hi - lo + 1).tdiv 2) ≤ pr) : lowS f pr lo hi = lowS f pr lo (lo + (hi - lo + 1).tdiv 2 - 1) := by rw [lowS, dif_pos h, if_neg hf]
theorem lowS_end {f : Int → Int} {pr lo hi : Int} (h : ¬ lo < hi) : lowS f pr lo hi = lo := by rw [lowS, dif_neg h]
theorem highS_ge {f : Int → Int} {pr lo hi : Int} (h : lo < hi) (hf : pr ≤ f (lo + (hi - lo).tdiv 2)) : highS f pr lo hi = highS f pr lo (lo + (hi - lo).tdiv 2) := by rw [highS, dif_pos h, if_pos hf]
theorem highS_lt {f : Int → Int} {pr lo hi : Int} (h : lo < hi) (hf : ¬ pr ≤ f (lo + (hi - lo).tdiv 2)) : highS f pr lo hi = highS f pr (lo + (hi - lo).tdiv 2 + 1) hi := by rw [highS, dif_pos h, if_neg hf]
theorem highS_end {f : Int → Int} {pr lo hi : Int} (h : ¬ lo < hi) : highS f pr lo hi = lo := by rw [highS, dif_neg h]

def flowLow (f : Int → XSpan) (pr : Int) : Int := lowS (fun q => (f q).high) pr (-1048577) 1048576
def flowHigh (f : Int → XSpan) (pr : Int) : Int := highS (fun q => (f q).low) pr (-1048576) 1048577

theorem flowLow_tri (p : XPipe) (pr : Int) (L : List Blk) (R : List Sl) (hm : InR p.sl R) (hp : PipeOk p) :
    Tri Try.prog 46 [p.val, .int .i64 pr].toArray L R (fun v L' R' => v = .int .i64 (flowLow (dropP p) pr) ∧ L = L' ∧ R = R') := by
  refine tri_enter 28 Try.call46 Try.func46 rfl rfl rfl ?_
  refine CJ_seq (CJ_region ?_)
  refine LJ_boxN rfl rfl ?_
  intro b2
  refine LJ_q (yv_assign (show _ = Value.int _ _ from rfl)) rfl ?_
  refine LJ_nil (seqK_normal (CJ_seq (CJ_region ?_)))
  refine LJ_q (yv_assign (show _ = Value.int _ _ from rfl)) rfl ?_
  refine LJ_q (yv_assign (show _ = Value.int _ _ from rfl)) rfl ?_
  refine LJ_nil (seqK_normal (CJ_seq (CJ_block ?_)))
  refine CJ_forget [(1, Value.int _ _), (2, Value.pointer _), (5, Value.int _ _), (6, Value.int _ _)] (by repeat' (first | exact trivial | refine And.intro rfl ?_)) fun tq0 => ?_
  refine CJ_loopS [5, 6, 7, 8, 9, 10, 11, 12, 13, 14, 15, 16, 17, 18, 19, 20, 21, 22, 23, 24, 25, 26] (fun g : {g : Int × Int // -1048577 ≤ g.1 ∧ g.1 ≤ g.2 ∧ g.2 ≤ 1048576 ∧ flowLow (dropP p) pr = lowS (fun q => (dropP p q).high) pr g.1 g.2} => [(5, .int .i64 g.1.1), (6, .int .i64 g.1.2)]) (fun g => (g.1.2 - g.1.1).toNat) (⟨(-1048577, 1048576), by omega, by omega, by omega, rfl⟩) (by repeat' (first | exact trivial | refine And.intro rfl ?_)) ?_
  rintro ⟨⟨lo, hi⟩, h1, h2, h3, h4⟩ junk
  try dsimp only
  refine CJ_seq (CJ_seq (CJ_region ?_))
  refine LJ_q (yv_move (show _ = Value.int _ _ from rfl)) rfl ?_
  refine LJ_q (yv_move (show _ = Value.int _ _ from rfl)) rfl ?_
  refine LJ_q (yv_lss rfl rfl) rfl ?_
  refine LJ_nil (seqK_normal ?_)
  refine CJ_cond (show _ = Value.bool _ from rfl) (fun hc0 => ?_) (fun hc0 => ?_)
  ·
   try simp only [zb1, zb2, zb3, zb4, zb5, zb6, zb7, zb8] at hc0
   dsimp only at h1 h2 h3 h4 hc0
   have he := half_eq (x := hi - lo + 1) (by omega)
   refine CJ_skip (seqK_normal (CJ_block (CJ_seq (CJ_region ?_))))
   refine LJ_q (yv_move (show _ = Value.int _ _ from rfl)) rfl ?_
   refine LJ_q (yv_move (show _ = Value.int _ _ from rfl)) rfl ?_
   refine LJ_q (yv_move (show _ = Value.int _ _ from rfl)) rfl ?_
   refine LJ_q (by first | exact yv_sub64 rfl rfl (by omega) (by omega) | exact yv_sub rfl rfl) rfl ?_
   refine LJ_q (by first | exact yv_add64 rfl rfl (by omega) (by omega) | exact yv_addU rfl rfl (by omega) (by omega) | exact yv_add rfl rfl) rfl ?_
   refine LJ_q (by first | exact yv_quo64 rfl rfl (by omega) (by omega) (by omega) | exact yv_quoU rfl rfl (by omega) (by omega) (by omega) | exact yv_quo rfl rfl (by omega)) rfl ?_
   refine LJ_q (by first | exact yv_add64 rfl rfl (by omega) (by omega) | exact yv_addU rfl rfl (by omega) (by omega) | exact yv_add rfl rfl) rfl ?_
   refine LJ_q (yv_assign (show _ = Value.int _ _ from rfl)) rfl ?_
   refine LJ_nil (seqK_normal (CJ_seq (CJ_region ?_)))
   refine LJ_q (yv_loadN (row := [_, _, _, _, _, _, _, _, _, _, _, _]) tb rfl rfl rfl (by repeat (first | exact zi0 | apply zi1 | apply zi2)) (by rfl) (by rfl)) rfl ?_
   refine LJ_q (yv_move (show _ = Value.int _ _ from rfl)) rfl ?_
   refine LJ_call rfl (drop_tri p (lo + (hi - lo + 1).tdiv 2) _ _ hm hp (by omega)) rfl ?_
   rintro v L' R' ⟨rfl, rfl, rfl⟩
   refine LJ_q (yv_fieldv (e := 3) tb rfl (by kernel_rfl) rfl rfl rfl rfl rfl) rfl ?_
   refine LJ_q (yv_move (show _ = Value.int _ _ from rfl)) rfl ?_
   refine LJ_q (yv_leq rfl rfl) rfl ?_
   refine LJ_nil (seqK_normal ?_)
   refine CJ_cond (show _ = Value.bool _ from rfl) (fun hc1 => ?_) (fun hc1 => ?_)
   ·
    try simp only [zb1, zb2, zb3, zb4, zb5, zb6, zb7, zb8] at hc1
    have e := h4.trans (lowS_le hc0 hc1)
    refine CJ_region ?_
    refine LJ_q (yv_move (show _ = Value.int _ _ from rfl)) rfl ?_
    refine LJ_q (yv_assign (show _ = Value.int _ _ from rfl)) rfl ?_
    refine LJ_nil (blockK_normal ?_)
    exact loopK_mk ⟨(_, _), by dsimp only; omega, by dsimp only; omega, by dsimp only; omega, e⟩ (by repeat (first | exact Off.refl | apply Off.upd rfl | apply Off.havoc rfl | apply Off.updL rfl | apply Off.left rfl)) ⟨rfl, rfl, trivial⟩ (by repeat (first | exact zs0 _ | exact zs1 _ | apply zs2 | apply zs3 | apply zs4 | apply zs5)) (allR_self _) (by dsimp only; omega)
   ·
    try simp only [zb1, zb2, zb3, zb4, zb5, zb6, zb7, zb8] at hc1
    have e := h4.trans (lowS_gt hc0 hc1)
    refine CJ_region ?_
    refine LJ_q (yv_move (show _ = Value.int _ _ from rfl)) rfl ?_
    refine LJ_q (by first | exact yv_sub64 rfl rfl (by omega) (by omega) | exact yv_sub rfl rfl) rfl ?_
    refine LJ_q (yv_assign (show _ = Value.int _ _ from rfl)) rfl ?_
    refine LJ_nil (blockK_normal ?_)
    exact loopK_mk ⟨(_, _), by dsimp only; omega, by dsimp only; omega, by dsimp only; omega, e⟩ (by repeat (first | exact Off.refl | apply Off.upd rfl | apply Off.havoc rfl | apply Off.updL rfl | apply Off.left rfl)) ⟨rfl, rfl, trivial⟩ (by repeat (first | exact zs0 _ | exact zs1 _ | apply zs2 | apply zs3 | apply zs4 | apply zs5)) (allR_self _) (by dsimp only; omega)
  ·
   try simp only [zb1, zb2, zb3, zb4, zb5, zb6, zb7, zb8] at hc0
   dsimp only at h1 h2 h3 h4 hc0
   refine CJ_exit (seqK_exit (loopK_exit (blockK_exit (seqK_normal (CJ_seq (CJ_region ?_))))))
   refine LJ_q (yv_move (show _ = Value.int _ _ from rfl)) rfl ?_
   refine LJ_q (yv_assign (show _ = Value.int _ _ from rfl)) rfl ?_
   refine LJ_nil (seqK_normal (CJ_ret ?_))
   refine retK_ret (L' := L) (R' := R) (res1 rfl (rv_tmp (show _ = Value.int _ _ from rfl))) ?hp ?hL ?hR
   case hp => exact ⟨by rw [h4, lowS_end hc0], rfl, rfl⟩
   case hL => exact (by repeat (first | exact zs0 _ | exact zs1 _ | apply zs2 | apply zs3 | apply zs4 | apply zs5))
   case hR => exact allR_self _

theorem flowHigh_tri (p : XPipe) (pr : Int) (L : List Blk) (R : List Sl) (hm : InR p.sl R) (hp : PipeOk p) :
    Tri Try.prog 47 [p.val, .int .i64 pr].toArray L R (fun v L' R' => v = .int .i64 (flowHigh (dropP p) pr) ∧ L = L' ∧ R = R') := by
  refine tri_enter 27 Try.call47 Try.func47 rfl rfl rfl ?_
  refine CJ_seq (CJ_region ?_)
  refine LJ_boxN rfl rfl ?_
  intro b2
  refine LJ_q (yv_assign (show _ = Value.int _ _ from rfl)) rfl ?_
  refine LJ_nil (seqK_normal (CJ_seq (CJ_region ?_)))
  refine LJ_q (yv_assign (show _ = Value.int _ _ from rfl)) rfl ?_
  refine LJ_q (yv_assign (show _ = Value.int _ _ from rfl)) rfl ?_
  refine LJ_nil (seqK_normal (CJ_seq (CJ_block ?_)))
  refine CJ_forget [(1, Value.int _ _), (2, Value.pointer _), (5, Value.int _ _), (6, Value.int _ _)] (by repeat' (first | exact trivial | refine And.intro rfl ?_)) fun tq0 => ?_
  refine CJ_loopS [5, 6, 7, 8, 9, 10, 11, 12, 13, 14, 15, 16, 17, 18, 19, 20, 21, 22, 23, 24, 25] (fun g : {g : Int × Int // -1048576 ≤ g.1 ∧ g.1 ≤ g.2 ∧ g.2 ≤ 1048577 ∧ flowHigh (dropP p) pr = highS (fun q => (dropP p q).low) pr g.1 g.2} => [(5, .int .i64 g.1.1), (6, .int .i64 g.1.2)]) (fun g => (g.1.2 - g.1.1).toNat) (⟨(-1048576, 1048577), by omega, by omega, by omega, rfl⟩) (by repeat' (first | exact trivial | refine And.intro rfl ?_)) ?_
  rintro ⟨⟨lo, hi⟩, h1, h2, h3, h4⟩ junk
  try dsimp only
  refine CJ_seq (CJ_seq (CJ_region ?_))
  refine LJ_q (yv_move (show _ = Value.int _ _ from rfl)) rfl ?_
  refine LJ_q (yv_move (show _ = Value.int _ _ from rfl)) rfl ?_
  refine LJ_q (yv_lss rfl rfl) rfl ?_
  refine LJ_nil (seqK_normal ?_)
  refine CJ_cond (show _ = Value.bool _ from rfl) (fun hc0 => ?_) (fun hc0 => ?_)
  ·
   try simp only [zb1, zb2, zb3, zb4, zb5, zb6, zb7, zb8] at hc0
   dsimp only at h1 h2 h3 h4 hc0
   have he := half_eq (x := hi - lo) (by omega)
   refine CJ_skip (seqK_normal (CJ_block (CJ_seq (CJ_region ?_))))
   refine LJ_q (yv_move (show _ = Value.int _ _ from rfl)) rfl ?_
   refine LJ_q (yv_move (show _ = Value.int _ _ from rfl)) rfl ?_
   refine LJ_q (yv_move (show _ = Value.int _ _ from rfl)) rfl ?_
   refine LJ_q (by first | exact yv_sub64 rfl rfl (by omega) (by omega) | exact yv_sub rfl rfl) rfl ?_
   refine LJ_q (by first | exact yv_quo64 rfl rfl (by omega) (by omega) (by omega) | exact yv_quoU rfl rfl (by omega) (by omega) (by omega) | exact yv_quo rfl rfl (by omega)) rfl ?_
   refine LJ_q (by first | exact yv_add64 rfl rfl (by omega) (by omega) | exact yv_addU rfl rfl (by omega) (by omega) | exact yv_add rfl rfl) rfl ?_
   refine LJ_q (yv_assign (show _ = Value.int _ _ from rfl)) rfl ?_
   refine LJ_nil (seqK_normal (CJ_seq (CJ_region ?_)))
   refine LJ_q (yv_loadN (row := [_, _, _, _, _, _, _, _, _, _, _, _]) tb rfl rfl rfl (by repeat (first | exact zi0 | apply zi1 | apply zi2)) (by rfl) (by rfl)) rfl ?_
   refine LJ_q (yv_move (show _ = Value.int _ _ from rfl)) rfl ?_
   refine LJ_call rfl (drop_tri p (lo + (hi - lo).tdiv 2) _ _ hm hp (by omega)) rfl ?_
   rintro v L' R' ⟨rfl, rfl, rfl⟩
   refine LJ_q (yv_fieldv (e := 3) tb rfl (by kernel_rfl) rfl rfl rfl rfl rfl) rfl ?_
   refine LJ_q (yv_move (show _ = Value.int _ _ from rfl)) rfl ?_
   refine LJ_q (yv_geq rfl rfl) rfl ?_
   refine LJ_nil (seqK_normal ?_)
   refine CJ_cond (show _ = Value.bool _ from rfl) (fun hc1 => ?_) (fun hc1 => ?_)
   ·
    try simp only [zb1, zb2, zb3, zb4, zb5, zb6, zb7, zb8] at hc1
    have e := h4.trans (highS_ge hc0 hc1)
    refine CJ_region ?_
    refine LJ_q (yv_move (show _ = Value.int _ _ from rfl)) rfl ?_
    refine LJ_q (yv_assign (show _ = Value.int _ _ from rfl)) rfl ?_
    refine LJ_nil (blockK_normal ?_)
    exact loopK_mk ⟨(_, _), by dsimp only; omega, by dsimp only; omega, by dsimp only; omega, e⟩ (by repeat (first | exact Off.refl | apply Off.upd rfl | apply Off.havoc rfl | apply Off.updL rfl | apply Off.left rfl)) ⟨rfl, rfl, trivial⟩ (by repeat (first | exact zs0 _ | exact zs1 _ | apply zs2 | apply zs3 | apply zs4 | apply zs5)) (allR_self _) (by dsimp only; omega)
   ·
    try simp only [zb1, zb2, zb3, zb4, zb5, zb6, zb7, zb8] at hc1
    have e := h4.trans (highS_lt hc0 hc1)
    refine CJ_region ?_
    refine LJ_q (yv_move (show _ = Value.int _ _ from rfl)) rfl ?_
    refine LJ_q (by first | exact yv_add64 rfl rfl (by omega) (by omega) | exact yv_addU rfl rfl (by omega) (by omega) | exact yv_add rfl rfl) rfl ?_
    refine LJ_q (yv_assign (show _ = Value.int _ _ from rfl)) rfl ?_
    refine LJ_nil (blockK_normal ?_)
    exact loopK_mk ⟨(_, _), by dsimp only; omega, by dsimp only; omega, by dsimp only; omega, e⟩ (by repeat (first | exact Off.refl | apply Off.upd rfl | apply Off.havoc rfl | apply Off.updL rfl | apply Off.left rfl)) ⟨rfl, rfl, trivial⟩ (by repeat (first | exact zs0 _ | exact zs1 _ | apply zs2 | apply zs3 | apply zs4 | apply zs5)) (allR_self _) (by dsimp only; omega)
  ·
   try simp only [zb1, zb2, zb3, zb4, zb5, zb6, zb7, zb8] at hc0
   dsimp only at h1 h2 h3 h4 hc0
   refine CJ_exit (seqK_exit (loopK_exit (blockK_exit (seqK_normal (CJ_seq (CJ_region ?_))))))
   refine LJ_q (yv_move (show _ = Value.int _ _ from rfl)) rfl ?_
   refine LJ_q (yv_assign (show _ = Value.int _ _ from rfl)) rfl ?_
   refine LJ_nil (seqK_normal (CJ_ret ?_))
   refine retK_ret (L' := L) (R' := R) (res1 rfl (rv_tmp (show _ = Value.int _ _ from rfl))) ?hp ?hL ?hR
   case hp => exact ⟨by rw [h4, highS_end hc0], rfl, rfl⟩
   case hL => exact (by repeat (first | exact zs0 _ | exact zs1 _ | apply zs2 | apply zs3 | apply zs4 | apply zs5))
   case hR => exact allR_self _
end Go.Proofs.Ytimnnhdeicpenaa
