/-
  plan.Check, and the reference's. By an AI agent; no person has read it.
-/
import Derived.Test.YtimnnhdeicpenaaTab
import Derived.Test.YtimnnhdeicpenaaOwn
set_option linter.unusedSimpArgs false
set_option linter.unusedVariables false
namespace Go.Proofs.Ytimnnhdeicpenaa
open Go.Aw Go
set_option maxRecDepth 20000
attribute [local irreducible] CJ LJ DJ Tri YV Gives seqK blockK loopK retK RV mergeK

/-- a span lies within limits -/
def spanB (s : XSpan) (lo hi : Int) : Bool := decide (lo ≤ s.low) && (decide (s.low ≤ s.high) && decide (s.high ≤ hi))

theorem spanIn_tri (s : XSpan) (lo hi : Int) (L : List Blk) (R : List Sl) :
    Tri Try.prog 53 [s.val, .int .i64 lo, .int .i64 hi].toArray L R (fun v L' R' => v = .bool (spanB s lo hi) ∧ L = L' ∧ R = R') := by
  refine tri_enter 24 Try.call53 Try.func53 rfl rfl rfl ?_
  refine CJ_seq (CJ_region ?_)
  refine LJ_boxN rfl rfl ?_
  intro b3
  refine LJ_q (yv_assign (show _ = Value.bool _ from rfl)) rfl ?_
  refine LJ_nil (seqK_normal (CJ_seq (CJ_region ?_)))
  refine LJ_q (yv_move (show _ = Value.int _ _ from rfl)) rfl ?_
  refine LJ_q (yv_field tb rfl rfl rfl) rfl ?_
  refine LJ_q (yv_load1 tb rfl rfl rfl (by repeat (first | exact zi0 | apply zi1 | apply zi2)) (by rfl)) rfl ?_
  refine LJ_q (yv_leq rfl rfl) rfl ?_
  refine LJ_q (yv_move (show _ = Value.bool _ from rfl)) rfl ?_
  apply LJ_and (G := [_, _, _, _, _]) (j := 4) (cj := 11) rfl rfl (by rfl) rfl (show _ = Value.bool _ from rfl) rfl
  ·
   intro hg5
   try simp only [zb1, zb2, zb3, zb4, zb5, zb6, zb7, zb8] at hg5
   refine LJ_q (yv_field tb rfl rfl rfl) rfl ?_
   refine LJ_q (yv_load1 tb rfl rfl rfl (by repeat (first | exact zi0 | apply zi1 | apply zi2)) (by rfl)) rfl ?_
   refine LJ_q (yv_field tb rfl rfl rfl) rfl ?_
   refine LJ_q (yv_load1 tb rfl rfl rfl (by repeat (first | exact zi0 | apply zi1 | apply zi2)) (by rfl)) rfl ?_
   refine LJ_q (yv_leq rfl rfl) rfl ?_
   exact LJ_merge_end (show _ = Value.bool _ from rfl) (by repeat (first | exact Off.refl | apply Off.upd rfl | apply Off.havoc rfl | apply Off.updL rfl | apply Off.left rfl)) (by repeat (first | exact zs0 _ | exact zs1 _ | apply zs2 | apply zs3 | apply zs4 | apply zs5)) (by first | exact allR_self _ | exact fun r h => inR_self (by simp [h]))
  intro junk5
  refine LJ_q (yv_move (show _ = Value.bool _ from rfl)) rfl ?_
  apply LJ_and (G := [_, _, _, _]) (j := 11) (cj := 18) rfl rfl (by rfl) rfl (show _ = Value.bool _ from rfl) rfl
  ·
   intro hg12
   try simp only [zb1, zb2, zb3, zb4, zb5, zb6, zb7, zb8] at hg12
   refine LJ_q (yv_field tb rfl rfl rfl) rfl ?_
   refine LJ_q (yv_load1 tb rfl rfl rfl (by repeat (first | exact zi0 | apply zi1 | apply zi2)) (by rfl)) rfl ?_
   refine LJ_q (yv_move (show _ = Value.int _ _ from rfl)) rfl ?_
   refine LJ_q (yv_leq rfl rfl) rfl ?_
   exact LJ_merge_end (show _ = Value.bool _ from rfl) (by repeat (first | exact Off.refl | apply Off.upd rfl | apply Off.havoc rfl | apply Off.updL rfl | apply Off.left rfl)) (by repeat (first | exact zs0 _ | exact zs1 _ | apply zs2 | apply zs3 | apply zs4 | apply zs5)) (by first | exact allR_self _ | exact fun r h => inR_self (by simp [h]))
  intro junk12
  refine LJ_q (yv_assign (show _ = Value.bool _ from rfl)) rfl ?_
  refine LJ_nil (seqK_normal (CJ_ret ?_))
  refine retK_ret (L' := L) (R' := R) (res1 rfl (rv_tmp (show _ = Value.bool _ from rfl))) ?hp ?hL ?hR
  case hp => exact ⟨by simp [spanB, Bool.and_assoc], rfl, rfl⟩
  case hL => exact (by repeat (first | exact zs0 _ | exact zs1 _ | apply zs2 | apply zs3 | apply zs4 | apply zs5))
  case hR => exact allR_self _

def placeErr (p : XPlace) : Option Int := if p.height < -10000 ∨ 10000 < p.height then some 1 else none
def roadErr (n : Nat) (r : XRoad) : Option Int :=
  if r.fr < 0 ∨ (n : Int) ≤ r.fr ∨ r.to < 0 ∨ (n : Int) ≤ r.to ∨ r.fr = r.to then some 4
  else if r.len < 1 ∨ 100000 < r.len ∨ r.area < 1 ∨ 1000 < r.area ∨ spanB r.rest 1 262144 = false ∨ spanB r.lift (-2199023255552) 2199023255552 = false then some 1 else none
/-- P1.1 -/
def mineErr (m : XMine) : Int :=
  if 64 < m.places.l.length ∨ 128 < m.roads.l.length then 2
  else match m.places.l.findSome? placeErr with
    | some e => e
    | none => (m.roads.l.findSome? (roadErr m.places.l.length)).getD 0

theorem planCheck_tri (m : XMine) (L : List Blk) (R : List Sl) (hm : MineR m R) :
    Tri Try.prog 35 [m.val].toArray L R (fun v L' R' => v = .int .i64 (mineErr m) ∧ L = L' ∧ R = R') := by
  have hpl := hm.places
  have hro := hm.roads
  refine Tri_len Try.call35 hpl fun hpn => ?_
  refine Tri_len Try.call35 hro fun hrn => ?_
  refine tri_enter 100 Try.call35 Try.func35 rfl rfl rfl ?_
  refine CJ_seq (CJ_region ?_)
  refine LJ_boxN rfl rfl ?_
  intro b1
  refine LJ_q (yv_assign (show _ = Value.int _ _ from rfl)) rfl ?_
  refine LJ_nil (seqK_normal (CJ_seq (CJ_seq (CJ_region ?_))))
  refine LJ_q (yv_field tb rfl rfl rfl) rfl ?_
  refine LJ_q (yv_load1 tb rfl rfl rfl (by repeat (first | exact zi0 | apply zi1 | apply zi2)) (by rfl)) rfl ?_
  refine LJ_q (yv_len tb rfl rfl rfl) rfl ?_
  refine LJ_q (yv_gtr rfl rfl) rfl ?_
  refine LJ_q (yv_move (show _ = Value.bool _ from rfl)) rfl ?_
  apply LJ_or (G := [_, _, _, _]) (j := 4) (cj := 12) rfl rfl (by rfl) rfl (show _ = Value.bool _ from rfl) rfl
  ·
   intro hg5
   try simp only [zb1, zb2, zb3, zb4, zb5, zb6, zb7, zb8] at hg5
   refine LJ_q (yv_field tb rfl rfl rfl) rfl ?_
   refine LJ_q (yv_load1 tb rfl rfl rfl (by repeat (first | exact zi0 | apply zi1 | apply zi2)) (by rfl)) rfl ?_
   refine LJ_q (yv_len tb rfl rfl rfl) rfl ?_
   refine LJ_q (yv_gtr rfl rfl) rfl ?_
   exact LJ_merge_end (show _ = Value.bool _ from rfl) (by repeat (first | exact Off.refl | apply Off.upd rfl | apply Off.havoc rfl | apply Off.updL rfl | apply Off.left rfl)) (by repeat (first | exact zs0 _ | exact zs1 _ | apply zs2 | apply zs3 | apply zs4 | apply zs5)) (by first | exact allR_self _ | exact fun r h => inR_self (by simp [h]))
  intro junk5
  refine LJ_nil (seqK_normal ?_)
  refine CJ_cond (show _ = Value.bool _ from rfl) (fun hc0 => ?_) (fun hc0 => ?_)
  ·
   try simp only [zb1, zb2, zb3, zb4, zb5, zb6, zb7, zb8] at hc0
   refine CJ_seq (CJ_region ?_)
   refine LJ_q (yv_assign (show _ = Value.int _ _ from rfl)) rfl ?_
   refine LJ_nil (seqK_normal (CJ_ret (seqK_ret ?_)))
   refine retK_ret (L' := L) (R' := R) (res1 rfl (rv_tmp (show _ = Value.int _ _ from rfl))) ?hp ?hL ?hR
   case hp => exact ⟨by simp [mineErr]; omega, rfl, rfl⟩
   case hL => exact (by repeat (first | exact zs0 _ | exact zs1 _ | apply zs2 | apply zs3 | apply zs4 | apply zs5))
   case hR => exact allR_self _
  ·
   try simp only [zb1, zb2, zb3, zb4, zb5, zb6, zb7, zb8] at hc0
   refine CJ_skip (seqK_normal (CJ_seq (CJ_seq (CJ_region ?_))))
   refine LJ_q (yv_field tb rfl rfl rfl) rfl ?_
   refine LJ_q (yv_load1 tb rfl rfl rfl (by repeat (first | exact zi0 | apply zi1 | apply zi2)) (by rfl)) rfl ?_
   refine LJ_q (yv_len tb rfl rfl rfl) rfl ?_
   refine LJ_q (yv_move (show _ = Value.int _ _ from rfl)) rfl ?_
   refine LJ_nil (seqK_normal (CJ_block ?_))
   refine CJ_forget [(1, Value.pointer _), (19, Value.slice _ _ _), (20, Value.int _ _), (21, Value.int _ _)] (by repeat' (first | exact trivial | refine And.intro rfl ?_)) fun tq0 => ?_
   refine CJ_loop [2, 4, 21, 22, 23, 24, 25, 26, 27, 28, 29, 30, 31, 32, 33] ((⟨fun g => [(21, .int .i64 ((g.1 : Nat) : Int))], fun _ => ⟨b1, m.cells, 26⟩ :: L, fun _ => R, fun g => m.places.l.length - g.1⟩ : Head (FS placeErr m.places.l))) (⟨0, FS_zero _ _⟩) (by repeat' (first | exact trivial | refine And.intro rfl ?_)) (by repeat (first | exact zs0 _ | exact zs1 _ | apply zs2 | apply zs3 | apply zs4 | apply zs5)) (allR_self _) ?_
   rintro ⟨k, hk, hkeep⟩ junk
   try dsimp only
   refine CJ_seq (CJ_region ?_)
   refine LJ_q (yv_lss rfl rfl) rfl ?_
   refine LJ_nil (seqK_normal (CJ_seq ?_))
   refine CJ_cond (show _ = Value.bool _ from rfl) (fun hc1 => ?_) (fun hc1 => ?_)
   ·
    try simp only [zb1, zb2, zb3, zb4, zb5, zb6, zb7, zb8] at hc1
    obtain ⟨x, hx⟩ := get_some (l := m.places.l) (k := k) (by omega)
    refine CJ_skip (seqK_normal (CJ_seq (CJ_block (CJ_seq (CJ_region ?_)))))
    refine LJ_q (by first | exact yv_index_ro tb rfl rfl rfl rfl (by first | assumption | exact zr (by simp)) rfl (by omega) | exact yv_index tb rfl rfl rfl rfl rfl (by omega)) rfl ?_
    refine LJ_q (by first | exact yv_loadN_ro (row := [_, _]) tb rfl rfl rfl (by first | assumption | exact zr (by simp)) (by assumption) (by rfl) (by rfl) | exact yv_loadN (row := [_, _]) tb rfl rfl rfl (by repeat (first | exact zi0 | apply zi1 | apply zi2)) (by rfl) (by rfl)) rfl ?_
    refine LJ_alloc tb rfl rfl ?_
    intro b4
    refine LJ_storeW tb rfl rfl rfl rfl (by repeat (first | apply zu0 | apply zu1 | apply zu2)) (by rfl) (by rfl) ?_
    refine LJ_nil (seqK_normal (CJ_seq (CJ_region ?_)))
    refine LJ_q (yv_field tb rfl rfl rfl) rfl ?_
    refine LJ_q (yv_load1 tb rfl rfl rfl (by repeat (first | exact zi0 | apply zi1 | apply zi2)) (by rfl)) rfl ?_
    refine LJ_q (yv_lss rfl rfl) rfl ?_
    refine LJ_q (yv_move (show _ = Value.bool _ from rfl)) rfl ?_
    apply LJ_or (G := [_, _, _]) (j := 3) (cj := 28) rfl rfl (by rfl) rfl (show _ = Value.bool _ from rfl) rfl
    ·
     intro hg4
     try simp only [zb1, zb2, zb3, zb4, zb5, zb6, zb7, zb8] at hg4
     refine LJ_q (yv_field tb rfl rfl rfl) rfl ?_
     refine LJ_q (yv_load1 tb rfl rfl rfl (by repeat (first | exact zi0 | apply zi1 | apply zi2)) (by rfl)) rfl ?_
     refine LJ_q (yv_gtr rfl rfl) rfl ?_
     exact LJ_merge_end (show _ = Value.bool _ from rfl) (by repeat (first | exact Off.refl | apply Off.upd rfl | apply Off.havoc rfl | apply Off.updL rfl | apply Off.left rfl)) (by repeat (first | exact zs0 _ | exact zs1 _ | apply zs2 | apply zs3 | apply zs4 | apply zs5)) (by first | exact allR_self _ | exact fun r h => inR_self (by simp [h]))
    intro junk4
    refine LJ_nil (seqK_normal ?_)
    refine CJ_cond (show _ = Value.bool _ from rfl) (fun hc2 => ?_) (fun hc2 => ?_)
    ·
     try simp only [zb1, zb2, zb3, zb4, zb5, zb6, zb7, zb8] at hc2
     refine CJ_seq (CJ_region ?_)
     refine LJ_q (yv_assign (show _ = Value.int _ _ from rfl)) rfl ?_
     refine LJ_nil (seqK_normal (CJ_ret (blockK_ret (seqK_ret (loopK_ret (blockK_ret (seqK_ret ?_)))))))
     refine retK_ret (L' := L) (R' := R) (res1 rfl (rv_tmp (show _ = Value.int _ _ from rfl))) ?hp ?hL ?hR
     case hp => exact ⟨by simp [mineErr, FS_some hkeep hx (show placeErr x = some 1 by simp [placeErr]; omega)]; omega, rfl, rfl⟩
     case hL => exact (by repeat (first | exact zs0 _ | exact zs1 _ | apply zs2 | apply zs3 | apply zs4 | apply zs5))
     case hR => exact allR_self _
    ·
     try simp only [zb1, zb2, zb3, zb4, zb5, zb6, zb7, zb8] at hc2
     refine CJ_skip (blockK_normal (seqK_normal (CJ_region ?_)))
     refine LJ_q (by first | exact yv_add64 rfl rfl (by omega) (by omega) | exact yv_addU rfl rfl (by omega) (by omega) | exact yv_add rfl rfl) rfl ?_
     refine LJ_q (yv_move (show _ = Value.int _ _ from rfl)) rfl ?_
     refine LJ_nil ?_
     exact loopK_mk ⟨k + 1, FS_next hkeep hx (by simp [placeErr]; omega)⟩ (by repeat (first | exact Off.refl | apply Off.upd rfl | apply Off.havoc rfl | apply Off.updL rfl | apply Off.left rfl)) (by repeat' (first | exact trivial | refine And.intro rfl ?_)) (by repeat (first | exact zs0 _ | exact zs1 _ | apply zs2 | apply zs3 | apply zs4 | apply zs5)) (allR_self _) (by dsimp only; omega)
   ·
    try simp only [zb1, zb2, zb3, zb4, zb5, zb6, zb7, zb8] at hc1
    have hp := FS_none hkeep (by omega)
    refine CJ_exit (seqK_exit (loopK_exit (blockK_exit (seqK_normal (CJ_seq (CJ_region ?_))))))
    refine LJ_q (yv_field tb rfl rfl rfl) rfl ?_
    refine LJ_q (yv_load1 tb rfl rfl rfl (by repeat (first | exact zi0 | apply zi1 | apply zi2)) (by rfl)) rfl ?_
    refine LJ_q (yv_len tb rfl rfl rfl) rfl ?_
    refine LJ_q (yv_assign (show _ = Value.int _ _ from rfl)) rfl ?_
    refine LJ_nil (seqK_normal (CJ_seq (CJ_seq (CJ_region ?_))))
    refine LJ_q (yv_field tb rfl rfl rfl) rfl ?_
    refine LJ_q (yv_load1 tb rfl rfl rfl (by repeat (first | exact zi0 | apply zi1 | apply zi2)) (by rfl)) rfl ?_
    refine LJ_q (yv_len tb rfl rfl rfl) rfl ?_
    refine LJ_q (yv_move (show _ = Value.int _ _ from rfl)) rfl ?_
    refine LJ_nil (seqK_normal (CJ_block ?_))
    refine CJ_forget [(5, Value.int _ _), (38, Value.slice _ _ _), (39, Value.int _ _), (40, Value.int _ _)] (by repeat' (first | exact trivial | refine And.intro rfl ?_)) fun tq1 => ?_
    refine CJ_loop [2, 7, 40, 41, 42, 43, 44, 45, 46, 47, 48, 49, 50, 51, 52, 53, 54, 55, 56, 57, 58, 59, 60, 61, 62, 63, 64, 65, 66, 67, 68, 69, 70, 71, 72, 73, 74, 75, 76, 77, 78, 79, 80, 81, 82, 83, 84, 85, 86, 87, 88, 89, 90, 91, 92, 93, 94, 95, 96, 97, 98, 99] ((⟨fun g => [(40, .int .i64 ((g.1 : Nat) : Int))], fun _ => ⟨b1, m.cells, 26⟩ :: L, fun _ => R, fun g => m.roads.l.length - g.1⟩ : Head (FS (roadErr m.places.l.length) m.roads.l))) (⟨0, FS_zero _ _⟩) (by repeat' (first | exact trivial | refine And.intro rfl ?_)) (by repeat (first | exact zs0 _ | exact zs1 _ | apply zs2 | apply zs3 | apply zs4 | apply zs5)) (allR_self _) ?_
    rintro ⟨k2, hk2, hkeep2⟩ junk
    try dsimp only
    refine CJ_seq (CJ_region ?_)
    refine LJ_q (yv_lss rfl rfl) rfl ?_
    refine LJ_nil (seqK_normal (CJ_seq ?_))
    refine CJ_cond (show _ = Value.bool _ from rfl) (fun hc3 => ?_) (fun hc3 => ?_)
    ·
     try simp only [zb1, zb2, zb3, zb4, zb5, zb6, zb7, zb8] at hc3
     obtain ⟨y, hy⟩ := get_some (l := m.roads.l) (k := k2) (by omega)
     refine CJ_skip (seqK_normal (CJ_seq (CJ_block (CJ_seq (CJ_region ?_)))))
     refine LJ_q (by first | exact yv_index_ro tb rfl rfl rfl rfl (by first | assumption | exact zr (by simp)) rfl (by omega) | exact yv_index tb rfl rfl rfl rfl rfl (by omega)) rfl ?_
     refine LJ_q (by first | exact yv_loadN_ro (row := [_, _, _, _, _, _, _, _, _, _]) tb rfl rfl rfl (by first | assumption | exact zr (by simp)) (by assumption) (by rfl) (by rfl) | exact yv_loadN (row := [_, _, _, _, _, _, _, _, _, _]) tb rfl rfl rfl (by repeat (first | exact zi0 | apply zi1 | apply zi2)) (by rfl) (by rfl)) rfl ?_
     refine LJ_alloc tb rfl rfl ?_
     intro b7
     refine LJ_storeW tb rfl rfl rfl rfl (by repeat (first | apply zu0 | apply zu1 | apply zu2)) (by rfl) (by rfl) ?_
     refine LJ_nil (seqK_normal (CJ_seq (CJ_seq (CJ_region ?_))))
     refine LJ_q (yv_field tb rfl rfl rfl) rfl ?_
     refine LJ_q (yv_load1 tb rfl rfl rfl (by repeat (first | exact zi0 | apply zi1 | apply zi2)) (by rfl)) rfl ?_
     refine LJ_q (yv_lss rfl rfl) rfl ?_
     refine LJ_q (yv_move (show _ = Value.bool _ from rfl)) rfl ?_
     apply LJ_or (G := [_, _, _, _]) (j := 3) (cj := 47) rfl rfl (by rfl) rfl (show _ = Value.bool _ from rfl) rfl
     ·
      intro hg4
      try simp only [zb1, zb2, zb3, zb4, zb5, zb6, zb7, zb8] at hg4
      refine LJ_q (yv_field tb rfl rfl rfl) rfl ?_
      refine LJ_q (yv_load1 tb rfl rfl rfl (by repeat (first | exact zi0 | apply zi1 | apply zi2)) (by rfl)) rfl ?_
      refine LJ_q (yv_move (show _ = Value.int _ _ from rfl)) rfl ?_
      refine LJ_q (yv_geq rfl rfl) rfl ?_
      exact LJ_merge_end (show _ = Value.bool _ from rfl) (by repeat (first | exact Off.refl | apply Off.upd rfl | apply Off.havoc rfl | apply Off.updL rfl | apply Off.left rfl)) (by repeat (first | exact zs0 _ | exact zs1 _ | apply zs2 | apply zs3 | apply zs4 | apply zs5)) (by first | exact allR_self _ | exact fun r h => inR_self (by simp [h]))
     intro junk4
     refine LJ_q (yv_move (show _ = Value.bool _ from rfl)) rfl ?_
     apply LJ_or (G := [_, _, _]) (j := 9) (cj := 53) rfl rfl (by rfl) rfl (show _ = Value.bool _ from rfl) rfl
     ·
      intro hg10
      try simp only [zb1, zb2, zb3, zb4, zb5, zb6, zb7, zb8] at hg10
      refine LJ_q (yv_field tb rfl rfl rfl) rfl ?_
      refine LJ_q (yv_load1 tb rfl rfl rfl (by repeat (first | exact zi0 | apply zi1 | apply zi2)) (by rfl)) rfl ?_
      refine LJ_q (yv_lss rfl rfl) rfl ?_
      exact LJ_merge_end (show _ = Value.bool _ from rfl) (by repeat (first | exact Off.refl | apply Off.upd rfl | apply Off.havoc rfl | apply Off.updL rfl | apply Off.left rfl)) (by repeat (first | exact zs0 _ | exact zs1 _ | apply zs2 | apply zs3 | apply zs4 | apply zs5)) (by first | exact allR_self _ | exact fun r h => inR_self (by simp [h]))
     intro junk10
     refine LJ_q (yv_move (show _ = Value.bool _ from rfl)) rfl ?_
     apply LJ_or (G := [_, _, _, _]) (j := 14) (cj := 58) rfl rfl (by rfl) rfl (show _ = Value.bool _ from rfl) rfl
     ·
      intro hg15
      try simp only [zb1, zb2, zb3, zb4, zb5, zb6, zb7, zb8] at hg15
      refine LJ_q (yv_field tb rfl rfl rfl) rfl ?_
      refine LJ_q (yv_load1 tb rfl rfl rfl (by repeat (first | exact zi0 | apply zi1 | apply zi2)) (by rfl)) rfl ?_
      refine LJ_q (yv_move (show _ = Value.int _ _ from rfl)) rfl ?_
      refine LJ_q (yv_geq rfl rfl) rfl ?_
      exact LJ_merge_end (show _ = Value.bool _ from rfl) (by repeat (first | exact Off.refl | apply Off.upd rfl | apply Off.havoc rfl | apply Off.updL rfl | apply Off.left rfl)) (by repeat (first | exact zs0 _ | exact zs1 _ | apply zs2 | apply zs3 | apply zs4 | apply zs5)) (by first | exact allR_self _ | exact fun r h => inR_self (by simp [h]))
     intro junk15
     refine LJ_q (yv_move (show _ = Value.bool _ from rfl)) rfl ?_
     apply LJ_or (G := [_, _, _, _, _]) (j := 20) (cj := 64) rfl rfl (by rfl) rfl (show _ = Value.bool _ from rfl) rfl
     ·
      intro hg21
      try simp only [zb1, zb2, zb3, zb4, zb5, zb6, zb7, zb8] at hg21
      refine LJ_q (yv_field tb rfl rfl rfl) rfl ?_
      refine LJ_q (yv_load1 tb rfl rfl rfl (by repeat (first | exact zi0 | apply zi1 | apply zi2)) (by rfl)) rfl ?_
      refine LJ_q (yv_field tb rfl rfl rfl) rfl ?_
      refine LJ_q (yv_load1 tb rfl rfl rfl (by repeat (first | exact zi0 | apply zi1 | apply zi2)) (by rfl)) rfl ?_
      refine LJ_q (yv_eql rfl rfl) rfl ?_
      exact LJ_merge_end (show _ = Value.bool _ from rfl) (by repeat (first | exact Off.refl | apply Off.upd rfl | apply Off.havoc rfl | apply Off.updL rfl | apply Off.left rfl)) (by repeat (first | exact zs0 _ | exact zs1 _ | apply zs2 | apply zs3 | apply zs4 | apply zs5)) (by first | exact allR_self _ | exact fun r h => inR_self (by simp [h]))
     intro junk21
     refine LJ_nil (seqK_normal ?_)
     refine CJ_cond (show _ = Value.bool _ from rfl) (fun hc4 => ?_) (fun hc4 => ?_)
     ·
      try simp only [zb1, zb2, zb3, zb4, zb5, zb6, zb7, zb8] at hc4
      refine CJ_seq (CJ_region ?_)
      refine LJ_q (yv_assign (show _ = Value.int _ _ from rfl)) rfl ?_
      refine LJ_nil (seqK_normal (CJ_ret (seqK_ret (blockK_ret (seqK_ret (loopK_ret (blockK_ret (seqK_ret ?_))))))))
      refine retK_ret (L' := L) (R' := R) (res1 rfl (rv_tmp (show _ = Value.int _ _ from rfl))) ?hp ?hL ?hR
      case hp => exact ⟨by simp [mineErr, hp, FS_some hkeep2 hy (show roadErr m.places.l.length y = some 4 by simp [roadErr]; omega)]; omega, rfl, rfl⟩
      case hL => exact (by repeat (first | exact zs0 _ | exact zs1 _ | apply zs2 | apply zs3 | apply zs4 | apply zs5))
      case hR => exact allR_self _
     ·
      try simp only [zb1, zb2, zb3, zb4, zb5, zb6, zb7, zb8] at hc4
      refine CJ_skip (seqK_normal (CJ_seq (CJ_seq (CJ_region ?_))))
      refine LJ_q (yv_field tb rfl rfl rfl) rfl ?_
      refine LJ_q (yv_load1 tb rfl rfl rfl (by repeat (first | exact zi0 | apply zi1 | apply zi2)) (by rfl)) rfl ?_
      refine LJ_q (yv_lss rfl rfl) rfl ?_
      refine LJ_q (yv_move (show _ = Value.bool _ from rfl)) rfl ?_
      apply LJ_or (G := [_, _, _]) (j := 3) (cj := 74) rfl rfl (by rfl) rfl (show _ = Value.bool _ from rfl) rfl
      ·
       intro hg4
       try simp only [zb1, zb2, zb3, zb4, zb5, zb6, zb7, zb8] at hg4
       refine LJ_q (yv_field tb rfl rfl rfl) rfl ?_
       refine LJ_q (yv_load1 tb rfl rfl rfl (by repeat (first | exact zi0 | apply zi1 | apply zi2)) (by rfl)) rfl ?_
       refine LJ_q (yv_gtr rfl rfl) rfl ?_
       exact LJ_merge_end (show _ = Value.bool _ from rfl) (by repeat (first | exact Off.refl | apply Off.upd rfl | apply Off.havoc rfl | apply Off.updL rfl | apply Off.left rfl)) (by repeat (first | exact zs0 _ | exact zs1 _ | apply zs2 | apply zs3 | apply zs4 | apply zs5)) (by first | exact allR_self _ | exact fun r h => inR_self (by simp [h]))
      intro junk4
      refine LJ_q (yv_move (show _ = Value.bool _ from rfl)) rfl ?_
      apply LJ_or (G := [_, _, _]) (j := 8) (cj := 79) rfl rfl (by rfl) rfl (show _ = Value.bool _ from rfl) rfl
      ·
       intro hg9
       try simp only [zb1, zb2, zb3, zb4, zb5, zb6, zb7, zb8] at hg9
       refine LJ_q (yv_field tb rfl rfl rfl) rfl ?_
       refine LJ_q (yv_load1 tb rfl rfl rfl (by repeat (first | exact zi0 | apply zi1 | apply zi2)) (by rfl)) rfl ?_
       refine LJ_q (yv_lss rfl rfl) rfl ?_
       exact LJ_merge_end (show _ = Value.bool _ from rfl) (by repeat (first | exact Off.refl | apply Off.upd rfl | apply Off.havoc rfl | apply Off.updL rfl | apply Off.left rfl)) (by repeat (first | exact zs0 _ | exact zs1 _ | apply zs2 | apply zs3 | apply zs4 | apply zs5)) (by first | exact allR_self _ | exact fun r h => inR_self (by simp [h]))
      intro junk9
      refine LJ_q (yv_move (show _ = Value.bool _ from rfl)) rfl ?_
      apply LJ_or (G := [_, _, _]) (j := 13) (cj := 84) rfl rfl (by rfl) rfl (show _ = Value.bool _ from rfl) rfl
      ·
       intro hg14
       try simp only [zb1, zb2, zb3, zb4, zb5, zb6, zb7, zb8] at hg14
       refine LJ_q (yv_field tb rfl rfl rfl) rfl ?_
       refine LJ_q (yv_load1 tb rfl rfl rfl (by repeat (first | exact zi0 | apply zi1 | apply zi2)) (by rfl)) rfl ?_
       refine LJ_q (yv_gtr rfl rfl) rfl ?_
       exact LJ_merge_end (show _ = Value.bool _ from rfl) (by repeat (first | exact Off.refl | apply Off.upd rfl | apply Off.havoc rfl | apply Off.updL rfl | apply Off.left rfl)) (by repeat (first | exact zs0 _ | exact zs1 _ | apply zs2 | apply zs3 | apply zs4 | apply zs5)) (by first | exact allR_self _ | exact fun r h => inR_self (by simp [h]))
      intro junk14
      refine LJ_nil (seqK_normal ?_)
      refine CJ_cond (show _ = Value.bool _ from rfl) (fun hc5 => ?_) (fun hc5 => ?_)
      ·
       try simp only [zb1, zb2, zb3, zb4, zb5, zb6, zb7, zb8] at hc5
       refine CJ_seq (CJ_region ?_)
       refine LJ_q (yv_assign (show _ = Value.int _ _ from rfl)) rfl ?_
       refine LJ_nil (seqK_normal (CJ_ret (seqK_ret (blockK_ret (seqK_ret (loopK_ret (blockK_ret (seqK_ret ?_))))))))
       refine retK_ret (L' := L) (R' := R) (res1 rfl (rv_tmp (show _ = Value.int _ _ from rfl))) ?hp ?hL ?hR
       case hp => exact ⟨by simp [mineErr, hp, FS_some hkeep2 hy (show roadErr m.places.l.length y = some 1 by rw [roadErr, if_neg (by omega), if_pos (by omega)])]; omega, rfl, rfl⟩
       case hL => exact (by repeat (first | exact zs0 _ | exact zs1 _ | apply zs2 | apply zs3 | apply zs4 | apply zs5))
       case hR => exact allR_self _
      ·
       try simp only [zb1, zb2, zb3, zb4, zb5, zb6, zb7, zb8] at hc5
       refine CJ_skip (seqK_normal (CJ_seq (CJ_region ?_)))
       refine LJ_q (yv_field tb rfl rfl rfl) rfl ?_
       refine LJ_q (yv_loadN (row := [_, _]) tb rfl rfl rfl (by repeat (first | exact zi0 | apply zi1 | apply zi2)) (by rfl) (by rfl)) rfl ?_
       refine LJ_call rfl (spanIn_tri y.rest _ _ _ _) rfl ?_
       rintro v L' R' ⟨rfl, rfl, rfl⟩
       refine LJ_q (yv_not rfl) rfl ?_
       refine LJ_q (yv_move (show _ = Value.bool _ from rfl)) rfl ?_
       apply LJ_or (G := [_, _, _, _]) (j := 4) (cj := 93) rfl rfl (by rfl) rfl (show _ = Value.bool _ from rfl) rfl
       ·
        intro hg5
        try simp only [zb1, zb2, zb3, zb4, zb5, zb6, zb7, zb8] at hg5
        refine LJ_q (yv_field tb rfl rfl rfl) rfl ?_
        refine LJ_q (yv_loadN (row := [_, _]) tb rfl rfl rfl (by repeat (first | exact zi0 | apply zi1 | apply zi2)) (by rfl) (by rfl)) rfl ?_
        refine LJ_call rfl (spanIn_tri y.lift _ _ _ _) rfl ?_
        rintro v L' R' ⟨rfl, rfl, rfl⟩
        refine LJ_q (yv_not rfl) rfl ?_
        exact LJ_merge_end (show _ = Value.bool _ from rfl) (by repeat (first | exact Off.refl | apply Off.upd rfl | apply Off.havoc rfl | apply Off.updL rfl | apply Off.left rfl)) (by repeat (first | exact zs0 _ | exact zs1 _ | apply zs2 | apply zs3 | apply zs4 | apply zs5)) (by first | exact allR_self _ | exact fun r h => inR_self (by simp [h]))
       intro junk5
       refine LJ_nil (seqK_normal ?_)
       refine CJ_cond (show _ = Value.bool _ from rfl) (fun hc6 => ?_) (fun hc6 => ?_)
       ·
        try simp only [zb1, zb2, zb3, zb4, zb5, zb6, zb7, zb8] at hc6
        refine CJ_seq (CJ_region ?_)
        refine LJ_q (yv_assign (show _ = Value.int _ _ from rfl)) rfl ?_
        refine LJ_nil (seqK_normal (CJ_ret (blockK_ret (seqK_ret (loopK_ret (blockK_ret (seqK_ret ?_)))))))
        refine retK_ret (L' := L) (R' := R) (res1 rfl (rv_tmp (show _ = Value.int _ _ from rfl))) ?hp ?hL ?hR
        case hp => exact ⟨by simp [mineErr, hp, FS_some hkeep2 hy (show roadErr m.places.l.length y = some 1 by rw [roadErr, if_neg (by omega), if_pos (by rcases hc6 with h | h <;> simp [h])])]; omega, rfl, rfl⟩
        case hL => exact (by repeat (first | exact zs0 _ | exact zs1 _ | apply zs2 | apply zs3 | apply zs4 | apply zs5))
        case hR => exact allR_self _
       ·
        try simp only [zb1, zb2, zb3, zb4, zb5, zb6, zb7, zb8] at hc6
        refine CJ_skip (blockK_normal (seqK_normal (CJ_region ?_)))
        refine LJ_q (by first | exact yv_add64 rfl rfl (by omega) (by omega) | exact yv_addU rfl rfl (by omega) (by omega) | exact yv_add rfl rfl) rfl ?_
        refine LJ_q (yv_move (show _ = Value.int _ _ from rfl)) rfl ?_
        refine LJ_nil ?_
        exact loopK_mk ⟨k2 + 1, FS_next hkeep2 hy (by rw [roadErr, if_neg (by omega), if_neg (by simp [hc6]; omega)])⟩ (by repeat (first | exact Off.refl | apply Off.upd rfl | apply Off.havoc rfl | apply Off.updL rfl | apply Off.left rfl)) (by repeat' (first | exact trivial | refine And.intro rfl ?_)) (by repeat (first | exact zs0 _ | exact zs1 _ | apply zs2 | apply zs3 | apply zs4 | apply zs5)) (allR_self _) (by dsimp only; omega)
    ·
     try simp only [zb1, zb2, zb3, zb4, zb5, zb6, zb7, zb8] at hc3
     have hq := FS_none hkeep2 (by omega)
     refine CJ_exit (seqK_exit (loopK_exit (blockK_exit (seqK_normal (CJ_seq (CJ_region ?_))))))
     refine LJ_q (yv_assign (show _ = Value.int _ _ from rfl)) rfl ?_
     refine LJ_nil (seqK_normal (CJ_ret ?_))
     refine retK_ret (L' := L) (R' := R) (res1 rfl (rv_tmp (show _ = Value.int _ _ from rfl))) ?hp ?hL ?hR
     case hp => exact ⟨by simp [mineErr, hp, hq]; omega, rfl, rfl⟩
     case hL => exact (by repeat (first | exact zs0 _ | exact zs1 _ | apply zs2 | apply zs3 | apply zs4 | apply zs5))
     case hR => exact allR_self _

theorem span01_tri (s : XSpan) (lo hi : Int) (L : List Blk) (R : List Sl) :
    Tri Try.prog 54 [s.val, .int .i64 lo, .int .i64 hi].toArray L R (fun v L' R' => v = .bool (spanB s lo hi) ∧ L = L' ∧ R = R') := by
  refine tri_enter 24 Try.call54 Try.func54 rfl rfl rfl ?_
  refine CJ_seq (CJ_region ?_)
  refine LJ_boxN rfl rfl ?_
  intro b3
  refine LJ_q (yv_assign (show _ = Value.bool _ from rfl)) rfl ?_
  refine LJ_nil (seqK_normal (CJ_seq (CJ_region ?_)))
  refine LJ_q (yv_move (show _ = Value.int _ _ from rfl)) rfl ?_
  refine LJ_q (yv_field tb rfl rfl rfl) rfl ?_
  refine LJ_q (yv_load1 tb rfl rfl rfl (by repeat (first | exact zi0 | apply zi1 | apply zi2)) (by rfl)) rfl ?_
  refine LJ_q (yv_leq rfl rfl) rfl ?_
  refine LJ_q (yv_move (show _ = Value.bool _ from rfl)) rfl ?_
  apply LJ_and (G := [_, _, _, _, _]) (j := 4) (cj := 11) rfl rfl (by rfl) rfl (show _ = Value.bool _ from rfl) rfl
  ·
   intro hg5
   try simp only [zb1, zb2, zb3, zb4, zb5, zb6, zb7, zb8] at hg5
   refine LJ_q (yv_field tb rfl rfl rfl) rfl ?_
   refine LJ_q (yv_load1 tb rfl rfl rfl (by repeat (first | exact zi0 | apply zi1 | apply zi2)) (by rfl)) rfl ?_
   refine LJ_q (yv_field tb rfl rfl rfl) rfl ?_
   refine LJ_q (yv_load1 tb rfl rfl rfl (by repeat (first | exact zi0 | apply zi1 | apply zi2)) (by rfl)) rfl ?_
   refine LJ_q (yv_leq rfl rfl) rfl ?_
   exact LJ_merge_end (show _ = Value.bool _ from rfl) (by repeat (first | exact Off.refl | apply Off.upd rfl | apply Off.havoc rfl | apply Off.updL rfl | apply Off.left rfl)) (by repeat (first | exact zs0 _ | exact zs1 _ | apply zs2 | apply zs3 | apply zs4 | apply zs5)) (by first | exact allR_self _ | exact fun r h => inR_self (by simp [h]))
  intro junk5
  refine LJ_q (yv_move (show _ = Value.bool _ from rfl)) rfl ?_
  apply LJ_and (G := [_, _, _, _]) (j := 11) (cj := 18) rfl rfl (by rfl) rfl (show _ = Value.bool _ from rfl) rfl
  ·
   intro hg12
   try simp only [zb1, zb2, zb3, zb4, zb5, zb6, zb7, zb8] at hg12
   refine LJ_q (yv_field tb rfl rfl rfl) rfl ?_
   refine LJ_q (yv_load1 tb rfl rfl rfl (by repeat (first | exact zi0 | apply zi1 | apply zi2)) (by rfl)) rfl ?_
   refine LJ_q (yv_move (show _ = Value.int _ _ from rfl)) rfl ?_
   refine LJ_q (yv_leq rfl rfl) rfl ?_
   exact LJ_merge_end (show _ = Value.bool _ from rfl) (by repeat (first | exact Off.refl | apply Off.upd rfl | apply Off.havoc rfl | apply Off.updL rfl | apply Off.left rfl)) (by repeat (first | exact zs0 _ | exact zs1 _ | apply zs2 | apply zs3 | apply zs4 | apply zs5)) (by first | exact allR_self _ | exact fun r h => inR_self (by simp [h]))
  intro junk12
  refine LJ_q (yv_assign (show _ = Value.bool _ from rfl)) rfl ?_
  refine LJ_nil (seqK_normal (CJ_ret ?_))
  refine retK_ret (L' := L) (R' := R) (res1 rfl (rv_tmp (show _ = Value.bool _ from rfl))) ?hp ?hL ?hR
  case hp => exact ⟨by simp [spanB, Bool.and_assoc], rfl, rfl⟩
  case hL => exact (by repeat (first | exact zs0 _ | exact zs1 _ | apply zs2 | apply zs3 | apply zs4 | apply zs5))
  case hR => exact allR_self _

theorem ref01Check_tri (m : XMine) (L : List Blk) (R : List Sl) (hm : MineR m R) :
    Tri Try.prog 38 [m.val].toArray L R (fun v L' R' => v = .int .i64 (mineErr m) ∧ L = L' ∧ R = R') := by
  have hpl := hm.places
  have hro := hm.roads
  refine Tri_len Try.call38 hpl fun hpn => ?_
  refine Tri_len Try.call38 hro fun hrn => ?_
  refine tri_enter 109 Try.call38 Try.func38 rfl rfl rfl ?_
  refine CJ_seq (CJ_region ?_)
  refine LJ_boxN rfl rfl ?_
  intro b1
  refine LJ_q (yv_assign (show _ = Value.int _ _ from rfl)) rfl ?_
  refine LJ_nil (seqK_normal (CJ_seq (CJ_seq (CJ_region ?_))))
  refine LJ_q (yv_field tb rfl rfl rfl) rfl ?_
  refine LJ_q (yv_load1 tb rfl rfl rfl (by repeat (first | exact zi0 | apply zi1 | apply zi2)) (by rfl)) rfl ?_
  refine LJ_q (yv_len tb rfl rfl rfl) rfl ?_
  refine LJ_q (yv_gtr rfl rfl) rfl ?_
  refine LJ_q (yv_move (show _ = Value.bool _ from rfl)) rfl ?_
  apply LJ_or (G := [_, _, _, _]) (j := 4) (cj := 11) rfl rfl (by rfl) rfl (show _ = Value.bool _ from rfl) rfl
  ·
   intro hg5
   try simp only [zb1, zb2, zb3, zb4, zb5, zb6, zb7, zb8] at hg5
   refine LJ_q (yv_field tb rfl rfl rfl) rfl ?_
   refine LJ_q (yv_load1 tb rfl rfl rfl (by repeat (first | exact zi0 | apply zi1 | apply zi2)) (by rfl)) rfl ?_
   refine LJ_q (yv_len tb rfl rfl rfl) rfl ?_
   refine LJ_q (yv_gtr rfl rfl) rfl ?_
   exact LJ_merge_end (show _ = Value.bool _ from rfl) (by repeat (first | exact Off.refl | apply Off.upd rfl | apply Off.havoc rfl | apply Off.updL rfl | apply Off.left rfl)) (by repeat (first | exact zs0 _ | exact zs1 _ | apply zs2 | apply zs3 | apply zs4 | apply zs5)) (by first | exact allR_self _ | exact fun r h => inR_self (by simp [h]))
  intro junk5
  refine LJ_nil (seqK_normal ?_)
  refine CJ_cond (show _ = Value.bool _ from rfl) (fun hc0 => ?_) (fun hc0 => ?_)
  ·
   try simp only [zb1, zb2, zb3, zb4, zb5, zb6, zb7, zb8] at hc0
   refine CJ_seq (CJ_region ?_)
   refine LJ_q (yv_assign (show _ = Value.int _ _ from rfl)) rfl ?_
   refine LJ_nil (seqK_normal (CJ_ret (seqK_ret ?_)))
   refine retK_ret (L' := L) (R' := R) (res1 rfl (rv_tmp (show _ = Value.int _ _ from rfl))) ?hp ?hL ?hR
   case hp => exact ⟨by simp [mineErr]; omega, rfl, rfl⟩
   case hL => exact (by repeat (first | exact zs0 _ | exact zs1 _ | apply zs2 | apply zs3 | apply zs4 | apply zs5))
   case hR => exact allR_self _
  ·
   try simp only [zb1, zb2, zb3, zb4, zb5, zb6, zb7, zb8] at hc0
   refine CJ_skip (seqK_normal (CJ_seq (CJ_seq (CJ_region ?_))))
   refine LJ_q (yv_assign (show _ = Value.int _ _ from rfl)) rfl ?_
   refine LJ_nil (seqK_normal (CJ_block ?_))
   refine CJ_forget [(1, Value.pointer _), (3, Value.int _ _)] (by repeat' (first | exact trivial | refine And.intro rfl ?_)) fun tq0 => ?_
   refine CJ_loopS [2, 3, 4, 17, 18, 19, 20, 21, 22, 23, 24, 25, 26, 27, 28, 29, 30, 31, 32, 33, 34, 35] (fun g : FS (placeErr) (m.places.l) => [(3, .int .i64 ((g.1 : Nat) : Int))]) (fun g => (m.places.l).length - g.1) ⟨0, FS_zero _ _⟩ (by repeat' (first | exact trivial | refine And.intro rfl ?_)) ?_
   rintro ⟨k0, hk0, hp0⟩ junk
   try dsimp only
   refine CJ_seq (CJ_seq (CJ_region ?_))
   refine LJ_q (yv_move (show _ = Value.int _ _ from rfl)) rfl ?_
   refine LJ_q (yv_field tb rfl rfl rfl) rfl ?_
   refine LJ_q (yv_load1 tb rfl rfl rfl (by repeat (first | exact zi0 | apply zi1 | apply zi2)) (by rfl)) rfl ?_
   refine LJ_q (yv_len tb rfl rfl rfl) rfl ?_
   refine LJ_q (yv_lss rfl rfl) rfl ?_
   refine LJ_nil (seqK_normal ?_)
   refine CJ_cond (show _ = Value.bool _ from rfl) (fun hc1 => ?_) (fun hc1 => ?_)
   ·
    try simp only [zb1, zb2, zb3, zb4, zb5, zb6, zb7, zb8] at hc1
    obtain ⟨x, hx⟩ := get_some (l := m.places.l) (k := k0) (by omega)
    refine CJ_skip (seqK_normal (CJ_seq (CJ_block (CJ_seq (CJ_region ?_)))))
    refine LJ_q (yv_field tb rfl rfl rfl) rfl ?_
    refine LJ_q (yv_load1 tb rfl rfl rfl (by repeat (first | exact zi0 | apply zi1 | apply zi2)) (by rfl)) rfl ?_
    refine LJ_q (yv_move (show _ = Value.int _ _ from rfl)) rfl ?_
    refine LJ_q (by first | exact yv_index_ro tb rfl rfl rfl rfl (by first | assumption | exact zr (by simp)) rfl (by omega) | exact yv_index tb rfl rfl rfl rfl rfl (by omega)) rfl ?_
    refine LJ_q (yv_field_eo tb rfl rfl rfl) rfl ?_
    refine LJ_q (by first | exact yv_load1_ro tb rfl rfl rfl (by first | assumption | exact zr (by simp)) (by assumption) (by rfl) | exact yv_load1 tb rfl rfl rfl (by repeat (first | exact zi0 | apply zi1 | apply zi2)) (by rfl) | exact yv_load1 tb rfl rfl rfl (by repeat (first | exact zi0 | apply zi1 | apply zi2)) (icell_get (by assumption)) | exact yv_load1 tb rfl rfl rfl (by repeat (first | exact zi0 | apply zi1 | apply zi2)) (rcell_get (fun _ => rfl) (by assumption) rfl)) rfl ?_
    refine LJ_q (yv_assign (show _ = Value.int _ _ from rfl)) rfl ?_
    refine LJ_nil (seqK_normal (CJ_seq (CJ_region ?_)))
    refine LJ_q (yv_move (show _ = Value.int _ _ from rfl)) rfl ?_
    refine LJ_q (yv_lss rfl rfl) rfl ?_
    refine LJ_q (yv_move (show _ = Value.bool _ from rfl)) rfl ?_
    apply LJ_or (G := [_, _]) (j := 2) (cj := 32) rfl rfl (by rfl) rfl (show _ = Value.bool _ from rfl) rfl
    ·
     intro hg3
     try simp only [zb1, zb2, zb3, zb4, zb5, zb6, zb7, zb8] at hg3
     refine LJ_q (yv_move (show _ = Value.int _ _ from rfl)) rfl ?_
     refine LJ_q (yv_gtr rfl rfl) rfl ?_
     exact LJ_merge_end (show _ = Value.bool _ from rfl) (by repeat (first | exact Off.refl | apply Off.upd rfl | apply Off.havoc rfl | apply Off.updL rfl | apply Off.left rfl)) (by repeat (first | exact zs0 _ | exact zs1 _ | apply zs2 | apply zs3 | apply zs4 | apply zs5)) (by first | exact allR_self _ | exact fun r h => inR_self (by simp [h]))
    intro junk3
    refine LJ_nil (seqK_normal ?_)
    refine CJ_cond (show _ = Value.bool _ from rfl) (fun hc2 => ?_) (fun hc2 => ?_)
    ·
     try simp only [zb1, zb2, zb3, zb4, zb5, zb6, zb7, zb8] at hc2
     refine CJ_seq (CJ_region ?_)
     refine LJ_q (yv_assign (show _ = Value.int _ _ from rfl)) rfl ?_
     refine LJ_nil (seqK_normal (CJ_ret (blockK_ret (seqK_ret (loopK_ret (blockK_ret (seqK_ret ?_)))))))
     refine retK_ret (L' := L) (R' := R) (res1 rfl (rv_tmp (show _ = Value.int _ _ from rfl))) ?hp ?hL ?hR
     case hp => exact ⟨by simp [mineErr, FS_some hp0 hx (show placeErr x = some 1 by simp [placeErr]; omega)]; omega, rfl, rfl⟩
     case hL => exact (by repeat (first | exact zs0 _ | exact zs1 _ | apply zs2 | apply zs3 | apply zs4 | apply zs5))
     case hR => exact allR_self _
    ·
     try simp only [zb1, zb2, zb3, zb4, zb5, zb6, zb7, zb8] at hc2
     refine CJ_skip (blockK_normal (seqK_normal (CJ_region ?_)))
     refine LJ_q (yv_move (show _ = Value.int _ _ from rfl)) rfl ?_
     refine LJ_q (by first | exact yv_add64 rfl rfl (by omega) (by omega) | exact yv_addU rfl rfl (by omega) (by omega) | exact yv_add rfl rfl) rfl ?_
     refine LJ_q (yv_assign (show _ = Value.int _ _ from rfl)) rfl ?_
     refine LJ_nil ?_
     exact loopK_mk ⟨k0 + 1, FS_next hp0 hx (by simp [placeErr]; omega)⟩ (by repeat (first | exact Off.refl | apply Off.upd rfl | apply Off.havoc rfl | apply Off.updL rfl | apply Off.left rfl)) (by repeat' (first | exact trivial | refine And.intro rfl ?_)) (by repeat (first | exact zs0 _ | exact zs1 _ | apply zs2 | apply zs3 | apply zs4 | apply zs5)) (allR_self _) (by dsimp only; omega)
   ·
    try simp only [zb1, zb2, zb3, zb4, zb5, zb6, zb7, zb8] at hc1
    have hn0 := FS_none hp0 (by omega)
    refine CJ_exit (seqK_exit (loopK_exit (blockK_exit (seqK_normal (CJ_seq (CJ_seq (CJ_region ?_)))))))
    refine LJ_q (yv_assign (show _ = Value.int _ _ from rfl)) rfl ?_
    refine LJ_nil (seqK_normal (CJ_block ?_))
    refine CJ_forget [(1, Value.pointer _), (5, Value.int _ _)] (by repeat' (first | exact trivial | refine And.intro rfl ?_)) fun tq1 => ?_
    refine CJ_loopS [2, 5, 6, 36, 37, 38, 39, 40, 41, 42, 43, 44, 45, 46, 47, 48, 49, 50, 51, 52, 53, 54, 55, 56, 57, 58, 59, 60, 61, 62, 63, 64, 65, 66, 67, 68, 69, 70, 71, 72, 73, 74, 75, 76, 77, 78, 79, 80, 81, 82, 83, 84, 85, 86, 87, 88, 89, 90, 91, 92, 93, 94, 95, 96, 97, 98, 99, 100, 101, 102, 103, 104, 105, 106, 107, 108] (fun g : FS (roadErr m.places.l.length) (m.roads.l) => [(5, .int .i64 ((g.1 : Nat) : Int))]) (fun g => (m.roads.l).length - g.1) ⟨0, FS_zero _ _⟩ (by repeat' (first | exact trivial | refine And.intro rfl ?_)) ?_
    rintro ⟨k1, hk1, hp1⟩ junk
    try dsimp only
    refine CJ_seq (CJ_seq (CJ_region ?_))
    refine LJ_q (yv_move (show _ = Value.int _ _ from rfl)) rfl ?_
    refine LJ_q (yv_field tb rfl rfl rfl) rfl ?_
    refine LJ_q (yv_load1 tb rfl rfl rfl (by repeat (first | exact zi0 | apply zi1 | apply zi2)) (by rfl)) rfl ?_
    refine LJ_q (yv_len tb rfl rfl rfl) rfl ?_
    refine LJ_q (yv_lss rfl rfl) rfl ?_
    refine LJ_nil (seqK_normal ?_)
    refine CJ_cond (show _ = Value.bool _ from rfl) (fun hc3 => ?_) (fun hc3 => ?_)
    ·
     try simp only [zb1, zb2, zb3, zb4, zb5, zb6, zb7, zb8] at hc3
     obtain ⟨y, hy⟩ := get_some (l := m.roads.l) (k := k1) (by omega)
     refine CJ_skip (seqK_normal (CJ_seq (CJ_block (CJ_seq (CJ_region ?_)))))
     refine LJ_q (yv_field tb rfl rfl rfl) rfl ?_
     refine LJ_q (yv_load1 tb rfl rfl rfl (by repeat (first | exact zi0 | apply zi1 | apply zi2)) (by rfl)) rfl ?_
     refine LJ_q (yv_move (show _ = Value.int _ _ from rfl)) rfl ?_
     refine LJ_q (by first | exact yv_index_ro tb rfl rfl rfl rfl (by first | assumption | exact zr (by simp)) rfl (by omega) | exact yv_index tb rfl rfl rfl rfl rfl (by omega)) rfl ?_
     refine LJ_q (by first | exact yv_loadN_ro (row := [_, _, _, _, _, _, _, _, _, _]) tb rfl rfl rfl (by first | assumption | exact zr (by simp)) (by assumption) (by rfl) (by rfl) | exact yv_loadN (row := [_, _, _, _, _, _, _, _, _, _]) tb rfl rfl rfl (by repeat (first | exact zi0 | apply zi1 | apply zi2)) (by rfl) (by rfl)) rfl ?_
     refine LJ_alloc tb rfl rfl ?_
     intro b6
     refine LJ_storeW tb rfl rfl rfl rfl (by repeat (first | apply zu0 | apply zu1 | apply zu2)) (by rfl) (by rfl) ?_
     refine LJ_nil (seqK_normal (CJ_seq (CJ_seq (CJ_region ?_))))
     refine LJ_q (yv_field tb rfl rfl rfl) rfl ?_
     refine LJ_q (yv_load1 tb rfl rfl rfl (by repeat (first | exact zi0 | apply zi1 | apply zi2)) (by rfl)) rfl ?_
     refine LJ_q (yv_lss rfl rfl) rfl ?_
     refine LJ_q (yv_move (show _ = Value.bool _ from rfl)) rfl ?_
     apply LJ_or (G := [_, _, _, _, _, _]) (j := 3) (cj := 51) rfl rfl (by rfl) rfl (show _ = Value.bool _ from rfl) rfl
     ·
      intro hg4
      try simp only [zb1, zb2, zb3, zb4, zb5, zb6, zb7, zb8] at hg4
      refine LJ_q (yv_field tb rfl rfl rfl) rfl ?_
      refine LJ_q (yv_load1 tb rfl rfl rfl (by repeat (first | exact zi0 | apply zi1 | apply zi2)) (by rfl)) rfl ?_
      refine LJ_q (yv_field tb rfl rfl rfl) rfl ?_
      refine LJ_q (yv_load1 tb rfl rfl rfl (by repeat (first | exact zi0 | apply zi1 | apply zi2)) (by rfl)) rfl ?_
      refine LJ_q (yv_len tb rfl rfl rfl) rfl ?_
      refine LJ_q (yv_geq rfl rfl) rfl ?_
      exact LJ_merge_end (show _ = Value.bool _ from rfl) (by repeat (first | exact Off.refl | apply Off.upd rfl | apply Off.havoc rfl | apply Off.updL rfl | apply Off.left rfl)) (by repeat (first | exact zs0 _ | exact zs1 _ | apply zs2 | apply zs3 | apply zs4 | apply zs5)) (by first | exact allR_self _ | exact fun r h => inR_self (by simp [h]))
     intro junk4
     refine LJ_q (yv_move (show _ = Value.bool _ from rfl)) rfl ?_
     apply LJ_or (G := [_, _, _]) (j := 11) (cj := 59) rfl rfl (by rfl) rfl (show _ = Value.bool _ from rfl) rfl
     ·
      intro hg12
      try simp only [zb1, zb2, zb3, zb4, zb5, zb6, zb7, zb8] at hg12
      refine LJ_q (yv_field tb rfl rfl rfl) rfl ?_
      refine LJ_q (yv_load1 tb rfl rfl rfl (by repeat (first | exact zi0 | apply zi1 | apply zi2)) (by rfl)) rfl ?_
      refine LJ_q (yv_lss rfl rfl) rfl ?_
      exact LJ_merge_end (show _ = Value.bool _ from rfl) (by repeat (first | exact Off.refl | apply Off.upd rfl | apply Off.havoc rfl | apply Off.updL rfl | apply Off.left rfl)) (by repeat (first | exact zs0 _ | exact zs1 _ | apply zs2 | apply zs3 | apply zs4 | apply zs5)) (by first | exact allR_self _ | exact fun r h => inR_self (by simp [h]))
     intro junk12
     refine LJ_q (yv_move (show _ = Value.bool _ from rfl)) rfl ?_
     apply LJ_or (G := [_, _, _, _, _, _]) (j := 16) (cj := 64) rfl rfl (by rfl) rfl (show _ = Value.bool _ from rfl) rfl
     ·
      intro hg17
      try simp only [zb1, zb2, zb3, zb4, zb5, zb6, zb7, zb8] at hg17
      refine LJ_q (yv_field tb rfl rfl rfl) rfl ?_
      refine LJ_q (yv_load1 tb rfl rfl rfl (by repeat (first | exact zi0 | apply zi1 | apply zi2)) (by rfl)) rfl ?_
      refine LJ_q (yv_field tb rfl rfl rfl) rfl ?_
      refine LJ_q (yv_load1 tb rfl rfl rfl (by repeat (first | exact zi0 | apply zi1 | apply zi2)) (by rfl)) rfl ?_
      refine LJ_q (yv_len tb rfl rfl rfl) rfl ?_
      refine LJ_q (yv_geq rfl rfl) rfl ?_
      exact LJ_merge_end (show _ = Value.bool _ from rfl) (by repeat (first | exact Off.refl | apply Off.upd rfl | apply Off.havoc rfl | apply Off.updL rfl | apply Off.left rfl)) (by repeat (first | exact zs0 _ | exact zs1 _ | apply zs2 | apply zs3 | apply zs4 | apply zs5)) (by first | exact allR_self _ | exact fun r h => inR_self (by simp [h]))
     intro junk17
     refine LJ_q (yv_move (show _ = Value.bool _ from rfl)) rfl ?_
     apply LJ_or (G := [_, _, _, _, _]) (j := 24) (cj := 72) rfl rfl (by rfl) rfl (show _ = Value.bool _ from rfl) rfl
     ·
      intro hg25
      try simp only [zb1, zb2, zb3, zb4, zb5, zb6, zb7, zb8] at hg25
      refine LJ_q (yv_field tb rfl rfl rfl) rfl ?_
      refine LJ_q (yv_load1 tb rfl rfl rfl (by repeat (first | exact zi0 | apply zi1 | apply zi2)) (by rfl)) rfl ?_
      refine LJ_q (yv_field tb rfl rfl rfl) rfl ?_
      refine LJ_q (yv_load1 tb rfl rfl rfl (by repeat (first | exact zi0 | apply zi1 | apply zi2)) (by rfl)) rfl ?_
      refine LJ_q (yv_eql rfl rfl) rfl ?_
      exact LJ_merge_end (show _ = Value.bool _ from rfl) (by repeat (first | exact Off.refl | apply Off.upd rfl | apply Off.havoc rfl | apply Off.updL rfl | apply Off.left rfl)) (by repeat (first | exact zs0 _ | exact zs1 _ | apply zs2 | apply zs3 | apply zs4 | apply zs5)) (by first | exact allR_self _ | exact fun r h => inR_self (by simp [h]))
     intro junk25
     refine LJ_nil (seqK_normal ?_)
     refine CJ_cond (show _ = Value.bool _ from rfl) (fun hc4 => ?_) (fun hc4 => ?_)
     ·
      try simp only [zb1, zb2, zb3, zb4, zb5, zb6, zb7, zb8] at hc4
      refine CJ_seq (CJ_region ?_)
      refine LJ_q (yv_assign (show _ = Value.int _ _ from rfl)) rfl ?_
      refine LJ_nil (seqK_normal (CJ_ret (seqK_ret (blockK_ret (seqK_ret (loopK_ret (blockK_ret (seqK_ret ?_))))))))
      refine retK_ret (L' := L) (R' := R) (res1 rfl (rv_tmp (show _ = Value.int _ _ from rfl))) ?hp ?hL ?hR
      case hp => exact ⟨by simp [mineErr, hn0, FS_some hp1 hy (show roadErr m.places.l.length y = some 4 by simp [roadErr]; omega)]; omega, rfl, rfl⟩
      case hL => exact (by repeat (first | exact zs0 _ | exact zs1 _ | apply zs2 | apply zs3 | apply zs4 | apply zs5))
      case hR => exact allR_self _
     ·
      try simp only [zb1, zb2, zb3, zb4, zb5, zb6, zb7, zb8] at hc4
      refine CJ_skip (seqK_normal (CJ_seq (CJ_region ?_)))
      refine LJ_q (yv_field tb rfl rfl rfl) rfl ?_
      refine LJ_q (yv_load1 tb rfl rfl rfl (by repeat (first | exact zi0 | apply zi1 | apply zi2)) (by rfl)) rfl ?_
      refine LJ_q (yv_lss rfl rfl) rfl ?_
      refine LJ_q (yv_move (show _ = Value.bool _ from rfl)) rfl ?_
      apply LJ_or (G := [_, _, _]) (j := 3) (cj := 82) rfl rfl (by rfl) rfl (show _ = Value.bool _ from rfl) rfl
      ·
       intro hg4
       try simp only [zb1, zb2, zb3, zb4, zb5, zb6, zb7, zb8] at hg4
       refine LJ_q (yv_field tb rfl rfl rfl) rfl ?_
       refine LJ_q (yv_load1 tb rfl rfl rfl (by repeat (first | exact zi0 | apply zi1 | apply zi2)) (by rfl)) rfl ?_
       refine LJ_q (yv_gtr rfl rfl) rfl ?_
       exact LJ_merge_end (show _ = Value.bool _ from rfl) (by repeat (first | exact Off.refl | apply Off.upd rfl | apply Off.havoc rfl | apply Off.updL rfl | apply Off.left rfl)) (by repeat (first | exact zs0 _ | exact zs1 _ | apply zs2 | apply zs3 | apply zs4 | apply zs5)) (by first | exact allR_self _ | exact fun r h => inR_self (by simp [h]))
      intro junk4
      refine LJ_q (yv_move (show _ = Value.bool _ from rfl)) rfl ?_
      apply LJ_or (G := [_, _, _]) (j := 8) (cj := 87) rfl rfl (by rfl) rfl (show _ = Value.bool _ from rfl) rfl
      ·
       intro hg9
       try simp only [zb1, zb2, zb3, zb4, zb5, zb6, zb7, zb8] at hg9
       refine LJ_q (yv_field tb rfl rfl rfl) rfl ?_
       refine LJ_q (yv_load1 tb rfl rfl rfl (by repeat (first | exact zi0 | apply zi1 | apply zi2)) (by rfl)) rfl ?_
       refine LJ_q (yv_lss rfl rfl) rfl ?_
       exact LJ_merge_end (show _ = Value.bool _ from rfl) (by repeat (first | exact Off.refl | apply Off.upd rfl | apply Off.havoc rfl | apply Off.updL rfl | apply Off.left rfl)) (by repeat (first | exact zs0 _ | exact zs1 _ | apply zs2 | apply zs3 | apply zs4 | apply zs5)) (by first | exact allR_self _ | exact fun r h => inR_self (by simp [h]))
      intro junk9
      refine LJ_q (yv_move (show _ = Value.bool _ from rfl)) rfl ?_
      apply LJ_or (G := [_, _, _]) (j := 13) (cj := 92) rfl rfl (by rfl) rfl (show _ = Value.bool _ from rfl) rfl
      ·
       intro hg14
       try simp only [zb1, zb2, zb3, zb4, zb5, zb6, zb7, zb8] at hg14
       refine LJ_q (yv_field tb rfl rfl rfl) rfl ?_
       refine LJ_q (yv_load1 tb rfl rfl rfl (by repeat (first | exact zi0 | apply zi1 | apply zi2)) (by rfl)) rfl ?_
       refine LJ_q (yv_gtr rfl rfl) rfl ?_
       exact LJ_merge_end (show _ = Value.bool _ from rfl) (by repeat (first | exact Off.refl | apply Off.upd rfl | apply Off.havoc rfl | apply Off.updL rfl | apply Off.left rfl)) (by repeat (first | exact zs0 _ | exact zs1 _ | apply zs2 | apply zs3 | apply zs4 | apply zs5)) (by first | exact allR_self _ | exact fun r h => inR_self (by simp [h]))
      intro junk14
      refine LJ_q (yv_move (show _ = Value.bool _ from rfl)) rfl ?_
      apply LJ_or (G := [_, _, _, _]) (j := 18) (cj := 97) rfl rfl (by rfl) rfl (show _ = Value.bool _ from rfl) rfl
      ·
       intro hg19
       try simp only [zb1, zb2, zb3, zb4, zb5, zb6, zb7, zb8] at hg19
       refine LJ_q (yv_field tb rfl rfl rfl) rfl ?_
       refine LJ_q (yv_loadN (row := [_, _]) tb rfl rfl rfl (by repeat (first | exact zi0 | apply zi1 | apply zi2)) (by rfl) (by rfl)) rfl ?_
       refine LJ_call rfl (span01_tri y.rest _ _ _ _) rfl ?_
       rintro v L' R' ⟨rfl, rfl, rfl⟩
       refine LJ_q (yv_not rfl) rfl ?_
       exact LJ_merge_end (show _ = Value.bool _ from rfl) (by repeat (first | exact Off.refl | apply Off.upd rfl | apply Off.havoc rfl | apply Off.updL rfl | apply Off.left rfl)) (by repeat (first | exact zs0 _ | exact zs1 _ | apply zs2 | apply zs3 | apply zs4 | apply zs5)) (by first | exact allR_self _ | exact fun r h => inR_self (by simp [h]))
      intro junk19
      refine LJ_q (yv_move (show _ = Value.bool _ from rfl)) rfl ?_
      apply LJ_or (G := [_, _, _, _]) (j := 24) (cj := 103) rfl rfl (by rfl) rfl (show _ = Value.bool _ from rfl) rfl
      ·
       intro hg25
       try simp only [zb1, zb2, zb3, zb4, zb5, zb6, zb7, zb8] at hg25
       refine LJ_q (yv_field tb rfl rfl rfl) rfl ?_
       refine LJ_q (yv_loadN (row := [_, _]) tb rfl rfl rfl (by repeat (first | exact zi0 | apply zi1 | apply zi2)) (by rfl) (by rfl)) rfl ?_
       refine LJ_call rfl (span01_tri y.lift _ _ _ _) rfl ?_
       rintro v L' R' ⟨rfl, rfl, rfl⟩
       refine LJ_q (yv_not rfl) rfl ?_
       exact LJ_merge_end (show _ = Value.bool _ from rfl) (by repeat (first | exact Off.refl | apply Off.upd rfl | apply Off.havoc rfl | apply Off.updL rfl | apply Off.left rfl)) (by repeat (first | exact zs0 _ | exact zs1 _ | apply zs2 | apply zs3 | apply zs4 | apply zs5)) (by first | exact allR_self _ | exact fun r h => inR_self (by simp [h]))
      intro junk25
      refine LJ_nil (seqK_normal ?_)
      refine CJ_cond (show _ = Value.bool _ from rfl) (fun hc5 => ?_) (fun hc5 => ?_)
      ·
       try simp only [zb1, zb2, zb3, zb4, zb5, zb6, zb7, zb8] at hc5
       refine CJ_seq (CJ_region ?_)
       refine LJ_q (yv_assign (show _ = Value.int _ _ from rfl)) rfl ?_
       refine LJ_nil (seqK_normal (CJ_ret (blockK_ret (seqK_ret (loopK_ret (blockK_ret (seqK_ret ?_)))))))
       refine retK_ret (L' := L) (R' := R) (res1 rfl (rv_tmp (show _ = Value.int _ _ from rfl))) ?hp ?hL ?hR
       case hp => exact ⟨by simp [mineErr, hn0, FS_some hp1 hy (show roadErr m.places.l.length y = some 1 by rw [roadErr, if_neg (by omega), if_pos (by simpa [or_assoc] using hc5)])]; omega, rfl, rfl⟩
       case hL => exact (by repeat (first | exact zs0 _ | exact zs1 _ | apply zs2 | apply zs3 | apply zs4 | apply zs5))
       case hR => exact allR_self _
      ·
       try simp only [zb1, zb2, zb3, zb4, zb5, zb6, zb7, zb8] at hc5
       refine CJ_skip (blockK_normal (seqK_normal (CJ_region ?_)))
       refine LJ_q (yv_move (show _ = Value.int _ _ from rfl)) rfl ?_
       refine LJ_q (by first | exact yv_add64 rfl rfl (by omega) (by omega) | exact yv_addU rfl rfl (by omega) (by omega) | exact yv_add rfl rfl) rfl ?_
       refine LJ_q (yv_assign (show _ = Value.int _ _ from rfl)) rfl ?_
       refine LJ_nil ?_
       exact loopK_mk ⟨k1 + 1, FS_next hp1 hy (by rw [roadErr, if_neg (by omega), if_neg (by simpa [and_assoc] using hc5)])⟩ (by repeat (first | exact Off.refl | apply Off.upd rfl | apply Off.havoc rfl | apply Off.updL rfl | apply Off.left rfl)) (by repeat' (first | exact trivial | refine And.intro rfl ?_)) (by repeat (first | exact zs0 _ | exact zs1 _ | apply zs2 | apply zs3 | apply zs4 | apply zs5)) (allR_self _) (by dsimp only; omega)
    ·
     try simp only [zb1, zb2, zb3, zb4, zb5, zb6, zb7, zb8] at hc3
     have hn1 := FS_none hp1 (by omega)
     refine CJ_exit (seqK_exit (loopK_exit (blockK_exit (seqK_normal (CJ_seq (CJ_region ?_))))))
     refine LJ_q (yv_assign (show _ = Value.int _ _ from rfl)) rfl ?_
     refine LJ_nil (seqK_normal (CJ_ret ?_))
     refine retK_ret (L' := L) (R' := R) (res1 rfl (rv_tmp (show _ = Value.int _ _ from rfl))) ?hp ?hL ?hR
     case hp => exact ⟨by simp [mineErr, hn0, hn1]; omega, rfl, rfl⟩
     case hL => exact (by repeat (first | exact zs0 _ | exact zs1 _ | apply zs2 | apply zs3 | apply zs4 | apply zs5))
     case hR => exact allR_self _
end Go.Proofs.Ytimnnhdeicpenaa
