/-
  draught.Make. By an AI agent; no person has read it.
-/
import Derived.Test.YtimnnhdeicpenaaMakeS
set_option linter.unusedSimpArgs false
set_option linter.unusedVariables false
namespace Go.Proofs.Ytimnnhdeicpenaa
open Go.Aw Go
set_option maxRecDepth 20000
attribute [local irreducible] CJ LJ DJ Tri YV Gives seqK blockK loopK retK RV mergeK OwL.L

theorem make_tri (a : XAir) (s : XSetting) (L : List Blk) (R : List Sl) (hm : AirR a R) (hs : SetR s R) (ha : AirOk a) (hf : FitOk a s) :
    Tri Try.prog 50 [a.val, s.val].toArray L R (fun v L' R' => ∃ n : XNet, v = n.val ∧ NetIs a s n ∧ L = L' ∧ ppsl n.pipes :: aasl n.at_ :: R = R') := by
  have hmr := hm.roads
  have hmp := hm.places
  have hfa := hm.fans
  have hdo := hm.doors
  have hsf := hs.fans
  have hsd := hs.doors
  have hnd := ha.ndoors
  have hnf := ha.nfans
  have hlf := hf.lf
  have hld := hf.ld
  have hnr := ha.mine.roads
  have hnp := ha.mine.places
  refine tri_enter 181 Try.call50 Try.func50 rfl rfl rfl ?_
  refine CJ_seq (CJ_region ?_)
  refine LJ_boxN rfl rfl ?_
  intro b2
  refine LJ_boxN rfl rfl ?_
  intro b3
  refine LJ_alloc tb rfl rfl ?_
  intro b4
  refine LJ_nil (seqK_normal (CJ_seq (CJ_region ?_)))
  refine LJ_q (yv_field tb rfl rfl rfl) rfl ?_
  refine LJ_q (yv_field tb rfl rfl rfl) rfl ?_
  refine LJ_q (yv_load1 tb rfl rfl rfl (by repeat (first | exact zi0 | apply zi1 | apply zi2)) (by rfl)) rfl ?_
  refine LJ_q (yv_len tb rfl rfl rfl) rfl ?_
  refine LJ_g (gives_makeSlice tb rfl rfl rfl rfl rfl rfl rfl (by omega) (by omega)) rfl ?_
  rintro v L' R' ⟨b20, rfl, rfl, hR20⟩
  replace hR20 := hR20.symm; subst hR20
  refine LJ_q (yv_assign (show _ = Value.slice _ _ _ from rfl)) rfl ?_
  refine LJ_nil (seqK_normal (CJ_seq (CJ_region ?_)))
  refine LJ_q (yv_field tb rfl rfl rfl) rfl ?_
  refine LJ_q (yv_field tb rfl rfl rfl) rfl ?_
  refine LJ_q (yv_load1 tb rfl rfl rfl (by repeat (first | exact zi0 | apply zi1 | apply zi2)) (by rfl)) rfl ?_
  refine LJ_q (yv_len tb rfl rfl rfl) rfl ?_
  refine LJ_g (gives_makeSlice tb rfl rfl rfl rfl rfl rfl rfl (by omega) (by omega)) rfl ?_
  rintro v L' R' ⟨b25, rfl, rfl, hR25⟩
  replace hR25 := hR25.symm; subst hR25
  refine LJ_q (yv_assign (show _ = Value.slice _ _ _ from rfl)) rfl ?_
  refine LJ_nil (seqK_normal (CJ_seq (CJ_seq (CJ_region ?_))))
  refine LJ_q (yv_field tb rfl rfl rfl) rfl ?_
  refine LJ_q (yv_load1 tb rfl rfl rfl (by repeat (first | exact zi0 | apply zi1 | apply zi2)) (by rfl)) rfl ?_
  refine LJ_q (yv_len tb rfl rfl rfl) rfl ?_
  refine LJ_q (yv_move (show _ = Value.int _ _ from rfl)) rfl ?_
  refine LJ_nil (seqK_normal (CJ_block ?_))
  refine CJ_forget [(2, Value.pointer _), (3, Value.pointer _), (4, Value.pointer _), (5, Value.slice _ _ _), (6, Value.slice _ _ _), (27, Value.slice _ _ _), (28, Value.int _ _), (29, Value.int _ _)] (by repeat' (first | exact trivial | refine And.intro rfl ?_)) fun tq0 => ?_
  refine CJ_loop [7, 8, 9, 29, 30, 31, 32, 33, 34, 35, 36, 37, 38, 39, 40, 41, 42, 43, 44, 45, 46, 47, 48, 49, 50, 51, 52, 53, 54, 55, 56, 57, 58, 59, 60, 61, 62, 63] ((⟨fun g => [(29, .int .i64 ((g.1 : Nat) : Int))], fun g => ⟨b25, zrep [.slice none 0 0] a.mine.roads.l.length, 82⟩ :: ⟨b20, (restsTo a s g.1).flatMap XSpan.cells, 57⟩ :: ⟨b4, [.slice none 0 0, .slice none 0 0], 93⟩ :: ⟨b3, s.cells, 33⟩ :: ⟨b2, a.cells, 30⟩ :: L, fun _ => R, fun g => a.doors.l.length - g.1⟩ : Head {k : Nat // k ≤ a.doors.l.length})) (⟨0, by omega⟩) (by repeat' (first | exact trivial | refine And.intro rfl ?_)) (by dsimp only; rw [restsTo, ← zrep_span]; exact List.Sublist.refl _) (allR_self _) ?_
  rintro ⟨k, hk⟩ junk
  try dsimp only
  refine CJ_seq (CJ_region ?_)
  refine LJ_q (yv_lss rfl rfl) rfl ?_
  refine LJ_nil (seqK_normal (CJ_seq ?_))
  refine CJ_cond (show _ = Value.bool _ from rfl) (fun hc0 => ?_) (fun hc0 => ?_)
  ·
   try simp only [zb1, zb2, zb3, zb4, zb5, zb6, zb7, zb8] at hc0
   have hd := get_D (l := a.doors.l) (k := k) default (by omega)
   have hsk := get_D (l := s.doors.l) (k := k) 0 (by omega)
   have hdk := ha.door _ _ hd
   have hdr := hdk.1.road
   have hrl := restsTo_length a s k
   obtain ⟨y, hy, hy1, hy2⟩ := restsTo_get (s := s) ha (r := (a.doors.l.getD k default).road.toNat) (by omega) k (by omega)
   have hyb := restTo_bounds (s := s) ha (r := (((a.doors.l.getD k default).road.toNat : Nat) : Int)) (by omega) k (by omega)
   have hrb := restS_bounds hdk.1 (s.doors.l.getD k 0)
   have hrr := (ha.mine.road _ _ (get_D (l := a.mine.roads.l) (k := (a.doors.l.getD k default).road.toNat) default (by omega))).rest
   have hyg : (restsTo a s k).getD (a.doors.l.getD k default).road.toNat default = y := getD_some hy
   refine CJ_skip (seqK_normal (CJ_seq (CJ_block (CJ_seq (CJ_region ?_)))))
   refine LJ_q (yv_move (show _ = Value.int _ _ from rfl)) rfl ?_
   refine LJ_q (by first | exact yv_index_ro tb rfl rfl rfl rfl (by first | assumption | exact zr (by simp)) rfl (by omega) | exact yv_index tb rfl rfl rfl rfl rfl (by omega)) rfl ?_
   refine LJ_q (by first | exact yv_loadN_ro (row := [_, _, _]) tb rfl rfl rfl (by first | assumption | exact zr (by simp)) (by assumption) (by rfl) (by rfl) | exact yv_loadN (row := [_, _, _]) tb rfl rfl rfl (by repeat (first | exact zi0 | apply zi1 | apply zi2)) (by rfl) (by rfl)) rfl ?_
   refine LJ_alloc tb rfl rfl ?_
   intro b8
   refine LJ_q (yv_assign (show _ = Value.int _ _ from rfl)) rfl ?_
   refine LJ_storeW tb rfl rfl rfl rfl (by repeat (first | apply zu0 | apply zu1 | apply zu2)) (by rfl) (by rfl) ?_
   refine LJ_nil (seqK_normal (CJ_seq ?_))
   refine CJ_drawn tb [0, 1, 2, 3, 4, 5, 6, 7, 8] _ mixed (by kernel_rfl) (List.Sublist.refl _) ?_
   refine DJ_q (yv_loadN (row := [_, _, _]) tb rfl rfl rfl (by repeat (first | exact zi0 | apply zi1 | apply zi2)) (by rfl) (by rfl)) rfl rfl rfl ?_
   refine DJ_q (yv_field tb rfl rfl rfl) rfl rfl rfl ?_
   refine DJ_q (yv_load1 tb rfl rfl rfl (by repeat (first | exact zi0 | apply zi1 | apply zi2)) (by rfl)) rfl rfl rfl ?_
   refine DJ_q (yv_move (show _ = Value.int _ _ from rfl)) rfl rfl rfl ?_
   refine DJ_q (by first | exact yv_index_ro tb rfl rfl rfl rfl (by first | assumption | exact zr (by simp)) rfl (by omega) | exact yv_index tb rfl rfl rfl rfl rfl (by omega)) rfl rfl rfl ?_
   refine DJ_q (by first | exact yv_load1_ro tb rfl rfl rfl (by first | assumption | exact zr (by simp)) (by assumption) (by rfl) | exact yv_load1 tb rfl rfl rfl (by repeat (first | exact zi0 | apply zi1 | apply zi2)) (by rfl) | exact yv_load1 tb rfl rfl rfl (by repeat (first | exact zi0 | apply zi1 | apply zi2)) (icell_get (by assumption)) | exact yv_load1 tb rfl rfl rfl (by repeat (first | exact zi0 | apply zi1 | apply zi2)) (rcell_get (fun _ => rfl) (by assumption) rfl)) rfl rfl rfl ?_
   refine DJ_call rfl (rest_tri (a.doors.l.getD k default) (s.doors.l.getD k 0) _ _ (hdo.door hd)) rfl rfl ?_
   rintro v L' R' ⟨rfl, rfl, rfl⟩
   refine ⟨(by repeat (first | exact zs0 _ | exact zs1 _ | apply zs2 | apply zs3 | apply zs4 | apply zs5)), (by first | exact allR_self _ | exact (fun r h => inR_self (by simp [h]))), ?_⟩
   refine DJ_alloc rfl rfl ?_
   intro b9
   refine DJ_storeW rfl rfl rfl rfl (by repeat (first | apply zu0 | apply zu1 | apply zu2)) (by rfl) (by rfl) (by repeat (first | exact zs0 _ | exact zs1 _ | apply zs2 | apply zs3 | apply zs4 | apply zs5)) ?_
   refine DJ_nil (seqK_normal (CJ_seq ?_))
   refine CJ_drawn2 tb [] [0, 1, 2, 3, 4, 5, 6, 7, 8, 9, 10] [11] (_) _ mixed (by kernel_rfl) (by repeat (first | exact zs0 _ | exact zs1 _ | apply zs2 | apply zs3 | apply zs4 | apply zs5)) (by (repeat (first | apply List.Sublist.cons (a := Blk.mk b20 _ _) | apply List.Sublist.cons_cons)); exact List.Sublist.refl _) ?_
   refine DJ3_q (yv_move (show _ = Value.slice _ _ _ from rfl)) rfl rfl rfl rfl ?_
   refine DJ3_q (yv_field tb rfl rfl rfl) rfl rfl rfl rfl ?_
   refine DJ3_q (yv_load1 tb rfl rfl rfl (by repeat (first | exact zi0 | apply zi1 | apply zi2)) (by rfl)) rfl rfl rfl rfl ?_
   refine DJ3_q (yv_index tb rfl rfl rfl rfl (i := (a.doors.l.getD k default).road.toNat) (by first | rfl | omega | (simp; omega)) (by omega)) rfl rfl rfl rfl ?_
   refine DJ3_q (yv_field_eo tb rfl rfl rfl) rfl rfl rfl rfl ?_
   refine DJ3_q (by first | exact yv_load1 tb rfl rfl rfl (by repeat (first | exact zi0 | apply zi1 | apply zi2)) (rcell_get (fun _ => rfl) (by assumption) rfl) | exact yv_load1 tb rfl rfl rfl (by repeat (first | exact zi0 | apply zi1 | apply zi2)) (rcell_get' (fun _ => rfl) (by assumption) rfl) | exact yv_load1 tb rfl rfl rfl (by repeat (first | exact zi0 | apply zi1 | apply zi2)) (icell_get (by assumption)) | exact yv_load1 tb rfl rfl rfl (by repeat (first | exact zi0 | apply zi1 | apply zi2)) (by rfl)) rfl rfl rfl rfl ?_
   refine DJ3_q (yv_field tb rfl rfl rfl) rfl rfl rfl rfl ?_
   refine DJ3_q (yv_load1 tb rfl rfl rfl (by repeat (first | exact zi0 | apply zi1 | apply zi2)) (by rfl)) rfl rfl rfl rfl ?_
   refine DJ3_q (by first | exact yv_add64 rfl rfl (by omega) (by omega) | exact yv_addU rfl rfl (by omega) (by omega) | exact yv_add rfl rfl) rfl rfl rfl rfl ?_
   refine DJ3_q (yv_index tb rfl rfl rfl rfl (i := (a.doors.l.getD k default).road.toNat) (by first | rfl | omega | (simp; omega)) (by omega)) rfl rfl rfl rfl ?_
   refine DJ3_q (yv_field_eo tb rfl rfl rfl) rfl rfl rfl rfl ?_
   refine DJ3_phase ?_
   refine DJ_store1 (v := Value.int _ _) rfl rfl rfl rfl (by repeat (first | apply zu0 | apply zu1 | apply zu2)) (by exact rcell_fit (fun _ => rfl) (by assumption) (by decide)) (by exact rcell_set (x' := ⟨y.low + (restS (a.doors.l.getD k default) (s.doors.l.getD k 0)).low, y.high⟩) (fun _ => rfl) (by decide) (by assumption) (by rfl)) (by rfl) (by repeat (first | exact zs0 _ | exact zs1 _ | apply zs2 | apply zs3 | apply zs4 | apply zs5)) ?_
   refine DJ_nil (seqK_normal ?_)
   obtain ⟨y2, hy2e⟩ : ∃ y2 : XSpan, y2 = ⟨y.low + (restS (a.doors.l.getD k default) (s.doors.l.getD k 0)).low, y.high⟩ := ⟨_, rfl⟩
   have hy' : ((restsTo a s k).set (a.doors.l.getD k default).road.toNat ⟨y.low + (restS (a.doors.l.getD k default) (s.doors.l.getD k 0)).low, y.high⟩)[(a.doors.l.getD k default).road.toNat]? = some y2 := by rw [hy2e]; exact List.getElem?_set_self (by omega)
   have hy2h : y2.high = y.high := by rw [hy2e]
   refine CJ_drawn2 tb [] [0, 1, 2, 3, 4, 5, 6, 7, 8, 9, 10] [11] (_) _ mixed (by kernel_rfl) (by repeat (first | exact zs0 _ | exact zs1 _ | apply zs2 | apply zs3 | apply zs4 | apply zs5)) (by (repeat (first | apply List.Sublist.cons (a := Blk.mk b20 _ _) | apply List.Sublist.cons_cons)); exact List.Sublist.refl _) ?_
   refine DJ3_q (yv_move (show _ = Value.slice _ _ _ from rfl)) rfl rfl rfl rfl ?_
   refine DJ3_q (yv_field tb rfl rfl rfl) rfl rfl rfl rfl ?_
   refine DJ3_q (yv_load1 tb rfl rfl rfl (by repeat (first | exact zi0 | apply zi1 | apply zi2)) (by rfl)) rfl rfl rfl rfl ?_
   refine DJ3_q (yv_index tb rfl rfl rfl rfl (i := (a.doors.l.getD k default).road.toNat) (by first | rfl | omega | (simp; omega)) (by omega)) rfl rfl rfl rfl ?_
   refine DJ3_q (yv_field_eo tb rfl rfl rfl) rfl rfl rfl rfl ?_
   refine DJ3_q (by first | exact yv_load1 tb rfl rfl rfl (by repeat (first | exact zi0 | apply zi1 | apply zi2)) (rcell_get (fun _ => rfl) (by assumption) rfl) | exact yv_load1 tb rfl rfl rfl (by repeat (first | exact zi0 | apply zi1 | apply zi2)) (rcell_get' (fun _ => rfl) (by assumption) rfl) | exact yv_load1 tb rfl rfl rfl (by repeat (first | exact zi0 | apply zi1 | apply zi2)) (icell_get (by assumption)) | exact yv_load1 tb rfl rfl rfl (by repeat (first | exact zi0 | apply zi1 | apply zi2)) (by rfl)) rfl rfl rfl rfl ?_
   refine DJ3_q (yv_field tb rfl rfl rfl) rfl rfl rfl rfl ?_
   refine DJ3_q (yv_load1 tb rfl rfl rfl (by repeat (first | exact zi0 | apply zi1 | apply zi2)) (by rfl)) rfl rfl rfl rfl ?_
   refine DJ3_q (by first | exact yv_add64 rfl rfl (by omega) (by omega) | exact yv_addU rfl rfl (by omega) (by omega) | exact yv_add rfl rfl) rfl rfl rfl rfl ?_
   refine DJ3_q (yv_index tb rfl rfl rfl rfl (i := (a.doors.l.getD k default).road.toNat) (by first | rfl | omega | (simp; omega)) (by omega)) rfl rfl rfl rfl ?_
   refine DJ3_q (yv_field_eo tb rfl rfl rfl) rfl rfl rfl rfl ?_
   refine DJ3_phase ?_
   refine DJ_store1 (v := Value.int _ _) rfl rfl rfl rfl (by repeat (first | apply zu0 | apply zu1 | apply zu2)) (by exact rcell_fit (fun _ => rfl) (by assumption) (by decide)) (by exact rcell_set (x' := ⟨y2.low, y2.high + (restS (a.doors.l.getD k default) (s.doors.l.getD k 0)).high⟩) (fun _ => rfl) (by decide) (by assumption) (by rfl)) (by rfl) (by repeat (first | exact zs0 _ | exact zs1 _ | apply zs2 | apply zs3 | apply zs4 | apply zs5)) ?_
   refine DJ_nil (blockK_normal (seqK_normal (CJ_region ?_)))
   refine LJ_q (by first | exact yv_add64 rfl rfl (by omega) (by omega) | exact yv_addU rfl rfl (by omega) (by omega) | exact yv_add rfl rfl) rfl ?_
   refine LJ_q (yv_move (show _ = Value.int _ _ from rfl)) rfl ?_
   refine LJ_nil ?_
   subst hy2e
   exact loopK_mk ⟨k + 1, by omega⟩ (by repeat (first | exact Off.refl | apply Off.upd rfl | apply Off.havoc rfl | apply Off.updL rfl | apply Off.left rfl)) (by repeat' (first | exact trivial | refine And.intro rfl ?_)) (by dsimp only; rw [List.set_set, restsTo]; (try dsimp only); rw [hyg]; exact (by repeat (first | exact zs0 _ | exact zs1 _ | apply zs2 | apply zs3 | apply zs4 | apply zs5))) (allR_self _) (by dsimp only; omega)
  ·
   try simp only [zb1, zb2, zb3, zb4, zb5, zb6, zb7, zb8] at hc0
   obtain rfl : k = a.doors.l.length := by omega
   refine CJ_exit (seqK_exit (loopK_exit (blockK_exit (seqK_normal (CJ_seq (CJ_seq (CJ_region ?_)))))))
   refine LJ_q (yv_field tb rfl rfl rfl) rfl ?_
   refine LJ_q (yv_load1 tb rfl rfl rfl (by repeat (first | exact zi0 | apply zi1 | apply zi2)) (by rfl)) rfl ?_
   refine LJ_q (yv_len tb rfl rfl rfl) rfl ?_
   refine LJ_q (yv_move (show _ = Value.int _ _ from rfl)) rfl ?_
   refine LJ_nil (seqK_normal (CJ_block ?_))
   refine CJ_forget [(2, Value.pointer _), (3, Value.pointer _), (4, Value.pointer _), (5, Value.slice _ _ _), (6, Value.slice _ _ _), (65, Value.slice _ _ _), (66, Value.int _ _), (67, Value.int _ _)] (by repeat' (first | exact trivial | refine And.intro rfl ?_)) fun tq1 => ?_
   refine CJ_loop [10, 11, 67, 68, 69, 70, 71, 72, 73, 74, 75, 76, 77, 78, 79, 80, 81, 82, 83, 84, 85, 86, 87, 88, 89, 90, 91, 92, 93, 94, 95, 96] ((⟨fun g => [(67, .int .i64 ((g.1.1 : Nat) : Int))], fun g => ⟨b25, g.1.2.flatMap hcell, 82⟩ :: ⟨b20, (restsTo a s a.doors.l.length).flatMap XSpan.cells, 57⟩ :: ⟨b4, [.slice none 0 0, .slice none 0 0], 93⟩ :: ⟨b3, s.cells, 33⟩ :: ⟨b2, a.cells, 30⟩ :: (g.1.2.flatMap (OwL.L 100 XBlow.cells) ++ L), fun _ => R, fun g => a.fans.l.length - g.1.1⟩ : Head {g : Nat × List (OwL XBlow) // g.1 ≤ a.fans.l.length ∧ MF a s g.1 g.2})) (⟨(0, List.replicate a.mine.roads.l.length OwL.nil), by omega, MF.zero a s⟩) (by repeat' (first | exact trivial | refine And.intro rfl ?_)) (by dsimp only; rw [flat_nil, ← zrep_nil]; exact List.Sublist.refl _) (allR_self _) ?_
   rintro ⟨⟨k, F⟩, hk, hF⟩ junk
   try dsimp only
   dsimp only at hk hF
   refine CJ_seq (CJ_region ?_)
   refine LJ_q (yv_lss rfl rfl) rfl ?_
   refine LJ_nil (seqK_normal (CJ_seq ?_))
   refine CJ_cond (show _ = Value.bool _ from rfl) (fun hc1 => ?_) (fun hc1 => ?_)
   ·
    try simp only [zb1, zb2, zb3, zb4, zb5, zb6, zb7, zb8] at hc1
    have hd := get_D (l := a.fans.l) (k := k) default (by omega)
    have hsk := get_D (l := s.fans.l) (k := k) 0 (by omega)
    have hdk := ha.fan _ _ hd
    have hdr := hdk.1.road
    have hFl := hF.len
    have hfl : (a.fans.l.getD k default).road.toNat < F.length := by omega
    obtain ⟨p, hp⟩ := get_some hfl
    have hpk := hF.ok _ _ hp
    have hpl := blowsTo_length (a := a) (s := s) (r := (((a.fans.l.getD k default).road.toNat : Nat) : Int)) k
    rw [← hpk.2] at hpl
    refine CJ_skip (seqK_normal (CJ_seq (CJ_block (CJ_seq (CJ_region ?_)))))
    refine LJ_q (yv_move (show _ = Value.int _ _ from rfl)) rfl ?_
    refine LJ_q (by first | exact yv_index_ro tb rfl rfl rfl rfl (by first | assumption | exact zr (by simp)) rfl (by omega) | exact yv_index tb rfl rfl rfl rfl rfl (by omega)) rfl ?_
    refine LJ_q (by first | exact yv_loadN_ro (row := [_, _, _, _]) tb rfl rfl rfl (by first | assumption | exact zr (by simp)) (by assumption) (by rfl) (by rfl) | exact yv_loadN (row := [_, _, _, _]) tb rfl rfl rfl (by repeat (first | exact zi0 | apply zi1 | apply zi2)) (by rfl) (by rfl)) rfl ?_
    refine LJ_alloc tb rfl rfl ?_
    intro b11
    refine LJ_q (yv_assign (show _ = Value.int _ _ from rfl)) rfl ?_
    refine LJ_storeW tb rfl rfl rfl rfl (by repeat (first | apply zu0 | apply zu1 | apply zu2)) (by rfl) (by rfl) ?_
    refine LJ_nil (seqK_normal (CJ_seq (CJ_region ?_)))
    refine LJ_q (yv_field tb rfl rfl rfl) rfl ?_
    refine LJ_q (yv_load1 tb rfl rfl rfl (by repeat (first | exact zi0 | apply zi1 | apply zi2)) (by rfl)) rfl ?_
    refine LJ_q (yv_move (show _ = Value.int _ _ from rfl)) rfl ?_
    refine LJ_q (by first | exact yv_index_ro tb rfl rfl rfl rfl (by first | assumption | exact zr (by simp)) rfl (by omega) | exact yv_index tb rfl rfl rfl rfl rfl (by omega)) rfl ?_
    refine LJ_q (by first | exact yv_load1_ro tb rfl rfl rfl (by first | assumption | exact zr (by simp)) (by assumption) (by rfl) | exact yv_load1 tb rfl rfl rfl (by repeat (first | exact zi0 | apply zi1 | apply zi2)) (by rfl) | exact yv_load1 tb rfl rfl rfl (by repeat (first | exact zi0 | apply zi1 | apply zi2)) (icell_get (by assumption)) | exact yv_load1 tb rfl rfl rfl (by repeat (first | exact zi0 | apply zi1 | apply zi2)) (rcell_get (fun _ => rfl) (by assumption) rfl)) rfl ?_
    refine LJ_q (yv_neq rfl rfl) rfl ?_
    refine LJ_nil (seqK_normal ?_)
    refine CJ_cond (show _ = Value.bool _ from rfl) (fun hc2 => ?_) (fun hc2 => ?_)
    ·
     try simp only [zb1, zb2, zb3, zb4, zb5, zb6, zb7, zb8] at hc2
     refine CJ_drawn2 tb [78, 79, 80] [0, 1, 2, 3, 4, 5, 6, 7, 8, 9, 10, 11, 12, 13, 14, 15] [16, 17, 18] ([Blk.mk b11 _ _, Blk.mk b25 _ _, Blk.mk b3 _ _]) _ mixed (by kernel_rfl) (by repeat (first | exact zs0 _ | exact zs1 _ | apply zs2 | apply zs3 | apply zs4 | apply zs5)) (by (repeat (first | apply List.Sublist.cons (a := Blk.mk b25 _ _) | apply List.Sublist.cons_cons)); exact List.Sublist.refl _) ?_
     refine DJ3_ql (yv_move (show _ = Value.slice _ _ _ from rfl)) rfl rfl rfl rfl ?_
     refine DJ3_ql (yv_field tb rfl rfl rfl) rfl rfl rfl rfl ?_
     refine DJ3_ql (yv_load1 tb rfl rfl rfl (by repeat (first | exact zi0 | apply zi1 | apply zi2)) (by rfl)) rfl rfl rfl rfl ?_
     refine DJ3_q (yv_move (show _ = Value.slice _ _ _ from rfl)) rfl rfl rfl rfl ?_
     refine DJ3_q (yv_field tb rfl rfl rfl) rfl rfl rfl rfl ?_
     refine DJ3_q (yv_load1 tb rfl rfl rfl (by repeat (first | exact zi0 | apply zi1 | apply zi2)) (by rfl)) rfl rfl rfl rfl ?_
     refine DJ3_q (yv_index tb rfl rfl rfl rfl (i := (a.fans.l.getD k default).road.toNat) (by first | rfl | omega | (simp; omega)) (by omega)) rfl rfl rfl rfl ?_
     refine DJ3_q (by first | exact yv_load1 tb rfl rfl rfl (by repeat (first | exact zi0 | apply zi1 | apply zi2)) (rcell_get (fun _ => rfl) (by assumption) rfl) | exact yv_load1 tb rfl rfl rfl (by repeat (first | exact zi0 | apply zi1 | apply zi2)) (rcell_get' (fun _ => rfl) (by assumption) rfl) | exact yv_load1 tb rfl rfl rfl (by repeat (first | exact zi0 | apply zi1 | apply zi2)) (icell_get (by assumption)) | exact yv_load1 tb rfl rfl rfl (by repeat (first | exact zi0 | apply zi1 | apply zi2)) (by rfl)) rfl rfl rfl rfl ?_
     refine DJ3_q (yv_loadN (row := [_, _, _, _]) tb rfl rfl rfl (by repeat (first | exact zi0 | apply zi1 | apply zi2)) (by rfl) (by rfl)) rfl rfl rfl rfl ?_
     refine DJ3_q (yv_field tb rfl rfl rfl) rfl rfl rfl rfl ?_
     refine DJ3_q (yv_load1 tb rfl rfl rfl (by repeat (first | exact zi0 | apply zi1 | apply zi2)) (by rfl)) rfl rfl rfl rfl ?_
     refine DJ3_q (yv_move (show _ = Value.int _ _ from rfl)) rfl rfl rfl rfl ?_
     refine DJ3_q (by first | exact yv_index_ro tb rfl rfl rfl rfl (by first | assumption | exact zr (by simp)) rfl (by omega) | exact yv_index tb rfl rfl rfl rfl rfl (by omega)) rfl rfl rfl rfl ?_
     refine DJ3_q (by first | exact yv_load1_ro tb rfl rfl rfl (by first | assumption | exact zr (by simp)) (by assumption) (by rfl) | exact yv_load1 tb rfl rfl rfl (by repeat (first | exact zi0 | apply zi1 | apply zi2)) (by rfl) | exact yv_load1 tb rfl rfl rfl (by repeat (first | exact zi0 | apply zi1 | apply zi2)) (icell_get (by assumption)) | exact yv_load1 tb rfl rfl rfl (by repeat (first | exact zi0 | apply zi1 | apply zi2)) (rcell_get (fun _ => rfl) (by assumption) rfl)) rfl rfl rfl rfl ?_
     refine DJ3_q (yv_build (qs := [(0, (Value.agg _).cells.toList), (1, (Value.int _ _).cells.toList)]) (out := [_, _, _, _, _]) tb rfl rfl rfl rfl) rfl rfl rfl rfl ?_
     refine DJ3_g (gives_buildSlice (qs := [(0, (Value.agg _).cells.toList)]) (out := [_, _, _, _, _]) tb rfl rfl rfl rfl rfl rfl rfl) rfl rfl rfl ?_
     rintro v L' R' ⟨b93, rfl, rfl, hR93⟩
     replace hR93 := hR93.symm; subst hR93
     refine ⟨(by repeat (first | exact zs0 _ | exact zs1 _ | apply zs2 | apply zs3 | apply zs4 | apply zs5)), allR_self _, ?_⟩
     refine DJ3_phase ?_
     refine DJ_g (gives_append1 (f := XBlow.cells) (a := ⟨a.fans.l.getD k default, s.fans.l.getD k 0⟩) tb rfl rfl rfl rfl (hpk.1) (by repeat (first | apply OSeg.cons | exact OSeg.here | exact OSeg.last | exact OSeg.at (by assumption) | apply OSeg.app)) (shown_own (by repeat (first | exact zi0 | apply zi1 | apply zi2)) rfl rfl) rfl (by first | omega | (simp only [List.length_cons, List.length_nil, List.length_append]; omega))) rfl rfl rfl ?_
     rintro v L' R' ⟨o94, rfl, hok94, rfl, rfl⟩
     refine ⟨(by repeat (first | exact zs0 _ | exact zs1 _ | apply zs2 | apply zs3 | apply zs4 | apply zs5)), allR_self _, ?_⟩
     refine DJ_q (yv_index tb rfl rfl rfl rfl (i := (a.fans.l.getD k default).road.toNat) (by first | rfl | omega | (simp; omega)) (by omega)) rfl rfl rfl ?_
     refine DJ_store1 (v := Value.slice _ _ _) rfl rfl rfl rfl (by repeat (first | apply zu0 | apply zu1 | apply zu2)) (by exact rcell_fit (fun _ => rfl) (by assumption) (by decide)) (by exact rcell_set (x' := ⟨o94, p.l ++ [⟨a.fans.l.getD k default, s.fans.l.getD k 0⟩]⟩) (fun _ => rfl) (by decide) (by assumption) (by rfl)) (by rfl) (by repeat (first | exact zs0 _ | exact zs1 _ | apply zs2 | apply zs3 | apply zs4 | apply zs5)) ?_
     refine DJ_nil (blockK_normal (seqK_normal (CJ_region ?_)))
     refine LJ_q (by first | exact yv_add64 rfl rfl (by omega) (by omega) | exact yv_addU rfl rfl (by omega) (by omega) | exact yv_add rfl rfl) rfl ?_
     refine LJ_q (yv_move (show _ = Value.int _ _ from rfl)) rfl ?_
     refine LJ_nil ?_
     first | exact loopK_mk ⟨(k + 1, _), by dsimp only; omega, hF.next hc2 (by omega) hp hok94⟩ (by repeat (first | exact Off.refl | apply Off.upd rfl | apply Off.havoc rfl | apply Off.updL rfl | apply Off.left rfl)) (by repeat' (first | exact trivial | refine And.intro rfl ?_)) (by repeat (first | exact zs0 _ | exact zs1 _ | apply zs2 | apply zs3 | apply zs4 | apply zs5)) (allR_self _) (by dsimp only; omega) | exact loopK_mk ⟨(k + 1, F), by dsimp only; omega, hF.stay (by simpa using hc2)⟩ (by repeat (first | exact Off.refl | apply Off.upd rfl | apply Off.havoc rfl | apply Off.updL rfl | apply Off.left rfl)) (by repeat' (first | exact trivial | refine And.intro rfl ?_)) (by repeat (first | exact zs0 _ | exact zs1 _ | apply zs2 | apply zs3 | apply zs4 | apply zs5)) (allR_self _) (by dsimp only; omega)
    ·
     try simp only [zb1, zb2, zb3, zb4, zb5, zb6, zb7, zb8] at hc2
     refine CJ_skip (blockK_normal (seqK_normal (CJ_region ?_)))
     refine LJ_q (by first | exact yv_add64 rfl rfl (by omega) (by omega) | exact yv_addU rfl rfl (by omega) (by omega) | exact yv_add rfl rfl) rfl ?_
     refine LJ_q (yv_move (show _ = Value.int _ _ from rfl)) rfl ?_
     refine LJ_nil ?_
     first | exact loopK_mk ⟨(k + 1, _), by dsimp only; omega, hF.next hc2 (by omega) hp hok94⟩ (by repeat (first | exact Off.refl | apply Off.upd rfl | apply Off.havoc rfl | apply Off.updL rfl | apply Off.left rfl)) (by repeat' (first | exact trivial | refine And.intro rfl ?_)) (by repeat (first | exact zs0 _ | exact zs1 _ | apply zs2 | apply zs3 | apply zs4 | apply zs5)) (allR_self _) (by dsimp only; omega) | exact loopK_mk ⟨(k + 1, F), by dsimp only; omega, hF.stay (by simpa using hc2)⟩ (by repeat (first | exact Off.refl | apply Off.upd rfl | apply Off.havoc rfl | apply Off.updL rfl | apply Off.left rfl)) (by repeat' (first | exact trivial | refine And.intro rfl ?_)) (by repeat (first | exact zs0 _ | exact zs1 _ | apply zs2 | apply zs3 | apply zs4 | apply zs5)) (allR_self _) (by dsimp only; omega)
   ·
    try simp only [zb1, zb2, zb3, zb4, zb5, zb6, zb7, zb8] at hc1
    obtain rfl : k = a.fans.l.length := by omega
    refine CJ_exit (seqK_exit (loopK_exit (blockK_exit (seqK_normal (CJ_seq (CJ_region ?_))))))
    refine LJ_q (yv_field tb rfl rfl rfl) rfl ?_
    refine LJ_q (yv_field tb rfl rfl rfl) rfl ?_
    refine LJ_q (yv_load1 tb rfl rfl rfl (by repeat (first | exact zi0 | apply zi1 | apply zi2)) (by rfl)) rfl ?_
    refine LJ_q (yv_len tb rfl rfl rfl) rfl ?_
    refine LJ_g (gives_makeSlice tb rfl rfl rfl rfl rfl rfl rfl (by omega) (by omega)) rfl ?_
    rintro v L' R' ⟨b101, rfl, rfl, hR101⟩
    replace hR101 := hR101.symm; subst hR101
    refine LJ_q (yv_build (qs := [(1, (Value.slice _ _ _).cells.toList)]) (out := [_, _]) tb rfl rfl rfl rfl) rfl ?_
    refine LJ_alloc tb rfl rfl ?_
    intro b12
    refine LJ_storeW tb rfl rfl rfl rfl (by repeat (first | apply zu0 | apply zu1 | apply zu2)) (by rfl) (by rfl) ?_
    refine LJ_nil (seqK_normal (CJ_seq (CJ_seq (CJ_region ?_))))
    refine LJ_q (yv_field tb rfl rfl rfl) rfl ?_
    refine LJ_q (yv_field tb rfl rfl rfl) rfl ?_
    refine LJ_q (yv_load1 tb rfl rfl rfl (by repeat (first | exact zi0 | apply zi1 | apply zi2)) (by rfl)) rfl ?_
    refine LJ_q (yv_len tb rfl rfl rfl) rfl ?_
    refine LJ_q (yv_move (show _ = Value.int _ _ from rfl)) rfl ?_
    refine LJ_nil (seqK_normal (CJ_block ?_))
    refine CJ_forget [(4, Value.pointer _), (5, Value.slice _ _ _), (6, Value.slice _ _ _), (12, Value.pointer _), (105, Value.slice _ _ _), (106, Value.int _ _), (107, Value.int _ _)] (by repeat' (first | exact trivial | refine And.intro rfl ?_)) fun tq2 => ?_
    have mem : ∀ p ∈ F, ∃ r : Nat, F[r]? = some p := fun p hp => List.mem_iff_getElem?.1 hp
    refine CJ_frzAll (A := [_, _, _, _, _, _, _]) (wd := 5) (fun b => b.fan.sl) (fun _ => rfl) (by decide) (fun p hp => ?okF) (fun p hp x hx => ?subF) fun S hS => ?_
    case okF => obtain ⟨r, hr⟩ := mem p hp; exact (hF.ok r p hr).1
    case subF =>
      obtain ⟨r, hr⟩ := mem p hp
      rw [(hF.ok r p hr).2] at hx
      obtain ⟨i, hi⟩ := blowsTo_mem _ (Nat.le_refl _) x hx
      exact hfa.fan hi
    refine CJ_L (by simp only [List.cons_append, List.nil_append]; rfl) ?_
    have hmr2 : InR (rsl a.mine.roads) (S ++ R) := hmr.mono fun r h => inR_self (by simp [h])
    refine CJ_loop [13, 14, 15, 107, 108, 109, 110, 111, 112, 113, 114, 115, 116, 117, 118, 119, 120, 121, 122, 123, 124, 125, 126, 127, 128, 129, 130, 131, 132, 133, 134, 135, 136, 137, 138, 139, 140, 141, 142, 143, 144, 145, 146, 147, 148, 149, 150, 151, 152, 153, 154, 155, 156, 157, 158, 159, 160, 161, 162, 163, 164, 165, 166, 167, 168, 169, 170, 171, 172, 173, 174, 175, 176, 177, 178, 179] ((⟨fun g => [(107, .int .i64 ((g.1.1 : Nat) : Int))], fun g => ⟨b12, [g.1.2.1.val, .slice (some ⟨b101, 0, none⟩) a.mine.places.l.length a.mine.places.l.length], 93⟩ :: ⟨b101, g.1.2.2.flatMap hcell, 31⟩ :: ⟨b25, F.flatMap hcell, 82⟩ :: ⟨b20, (restsTo a s a.doors.l.length).flatMap XSpan.cells, 57⟩ :: ⟨b4, [.slice none 0 0, .slice none 0 0], 93⟩ :: ⟨b3, s.cells, 33⟩ :: ⟨b2, a.cells, 30⟩ :: (g.1.2.1.L 84 XPipe.cells ++ (g.1.2.2.flatMap (OwL.L 3 icell) ++ L)), fun _ => S ++ R, fun g => a.mine.roads.l.length - g.1.1⟩ : Head {g : Nat × OwL XPipe × List (OwL Int) // g.1 ≤ a.mine.roads.l.length ∧ MP a s S g.1 g.2.1 ∧ MA a g.1 g.2.2})) (⟨(0, OwL.nil, List.replicate a.mine.places.l.length OwL.nil), by dsimp only; omega, MP.zero a s S, MA.zero a⟩) (by repeat' (first | exact trivial | refine And.intro rfl ?_)) (by dsimp only; rw [nil_L, flat_nil, ← zrep_nil]; exact List.Sublist.refl _) (allR_self _) ?_
    rintro ⟨⟨k, P, G⟩, hk, hP, hG⟩ junk
    try dsimp only
    dsimp only at hk hP hG
    refine CJ_seq (CJ_region ?_)
    refine LJ_q (yv_lss rfl rfl) rfl ?_
    refine LJ_nil (seqK_normal (CJ_seq ?_))
    refine CJ_cond (show _ = Value.bool _ from rfl) (fun hc3 => ?_) (fun hc3 => ?_)
    ·
     try simp only [zb1, zb2, zb3, zb4, zb5, zb6, zb7, zb8] at hc3
     have hr := get_D (l := a.mine.roads.l) (k := k) default (by omega)
     have hro := ha.mine.road _ _ hr
     have hr1 := hro.fr
     have hr2 := hro.to
     have hr3 := hro.ne
     have hrr := hro.rest
     have hGl := hG.len
     have hFl := hF.len
     have hPl := hP.length
     have hol := openTo_length a k
     have hkF : k < F.length := by omega
     obtain ⟨fk, hfk⟩ := get_some hkF
     have hfk2 := hF.ok _ _ hfk
     have hg1 : (a.mine.roads.l.getD k default).fr.toNat < G.length := by omega
     have hg2 : (a.mine.roads.l.getD k default).to.toNat < G.length := by omega
     obtain ⟨p, hp⟩ := get_some hg1
     obtain ⟨q, hq⟩ := get_some hg2
     have hpk := hG.ok _ _ hp
     have hqk := hG.ok _ _ hq
     have hpl := atTo_length a (a.mine.roads.l.getD k default).fr.toNat k
     have hql := atTo_length a (a.mine.roads.l.getD k default).to.toNat k
     rw [← hpk.2] at hpl
     rw [← hqk.2] at hql
     have hne : (a.mine.roads.l.getD k default).fr.toNat ≠ (a.mine.roads.l.getD k default).to.toNat := by omega
     obtain ⟨y, hy, hy1, hy2⟩ := restsTo_get (s := s) ha (r := k) (by omega) a.doors.l.length (by omega)
     have hyb := restTo_bounds (s := s) ha (r := ((k : Nat) : Int)) (by omega) a.doors.l.length (by omega)
     have hrl := restsTo_length a s a.doors.l.length
     refine CJ_skip (seqK_normal (CJ_seq (CJ_block (CJ_seq (CJ_region ?_)))))
     refine LJ_q (yv_move (show _ = Value.int _ _ from rfl)) rfl ?_
     refine LJ_q (by first | exact yv_index_ro tb rfl rfl rfl rfl (by first | assumption | exact zr (by simp)) rfl (by omega) | exact yv_index tb rfl rfl rfl rfl rfl (by omega)) rfl ?_
     refine LJ_q (by first | exact yv_loadN_ro (row := [_, _, _, _, _, _, _, _, _, _]) tb rfl rfl rfl (by first | assumption | exact zr (by simp)) (by assumption) (by rfl) (by rfl) | exact yv_loadN (row := [_, _, _, _, _, _, _, _, _, _]) tb rfl rfl rfl (by repeat (first | exact zi0 | apply zi1 | apply zi2)) (by rfl) (by rfl)) rfl ?_
     refine LJ_alloc tb rfl rfl ?_
     intro b14
     refine LJ_q (yv_assign (show _ = Value.int _ _ from rfl)) rfl ?_
     refine LJ_storeW tb rfl rfl rfl rfl (by repeat (first | apply zu0 | apply zu1 | apply zu2)) (by rfl) (by rfl) ?_
     refine LJ_nil (seqK_normal (CJ_seq (CJ_seq (CJ_region ?_))))
     refine LJ_q (yv_field tb rfl rfl rfl) rfl ?_
     refine LJ_q (yv_load1 tb rfl rfl rfl (by repeat (first | exact zi0 | apply zi1 | apply zi2)) (by rfl)) rfl ?_
     refine LJ_nil (seqK_normal ?_)
     refine CJ_cond (show _ = Value.bool _ from rfl) (fun hc4 => ?_) (fun hc4 => ?_)
     ·
      try simp only [zb1, zb2, zb3, zb4, zb5, zb6, zb7, zb8] at hc4
      refine CJ_exit (seqK_exit (blockK_exit (seqK_normal (CJ_region ?_))))
      refine LJ_q (by first | exact yv_add64 rfl rfl (by omega) (by omega) | exact yv_addU rfl rfl (by omega) (by omega) | exact yv_add rfl rfl) rfl ?_
      refine LJ_q (yv_move (show _ = Value.int _ _ from rfl)) rfl ?_
      refine LJ_nil ?_
      first
        | exact loopK_mk ⟨(k + 1, P, G), by dsimp only; omega, hP.stay hc4, hG.stay hc4⟩ (by repeat (first | exact Off.refl | apply Off.upd rfl | apply Off.havoc rfl | apply Off.updL rfl | apply Off.left rfl)) (by repeat' (first | exact trivial | refine And.intro rfl ?_)) (by repeat (first | exact zs0 _ | exact zs1 _ | apply zs2 | apply zs3 | apply zs4 | apply zs5)) (allR_self _) (by dsimp only; omega)
        | have hre : restTo a s (k : Int) a.doors.l.length = ⟨(a.mine.roads.l.getD k default).rest.low + y.low, (a.mine.roads.l.getD k default).rest.high + y.high⟩ := by
            cases hc : restTo a s (k : Int) a.doors.l.length with
            | mk lo hi => rw [hc] at hy1 hy2; dsimp only at hy1 hy2; rw [hy1, hy2]
          have hcc : ¬ (a.mine.roads.l.getD k default).closed = true := by simpa using hc4
          exact loopK_mk ⟨(k + 1, _, _), by dsimp only; omega, hP.next hcc ⟨by rw [Int.toNat_natCast, hre], rfl, hfk2.2⟩ (hS fk (List.mem_of_getElem? hfk)) hok177, hG.next hcc (by omega) (by omega) hne hp hq (by omega) hok129 hok143⟩ (by repeat (first | exact Off.refl | apply Off.upd rfl | apply Off.havoc rfl | apply Off.updL rfl | apply Off.left rfl)) (by repeat' (first | exact trivial | refine And.intro rfl ?_)) (by repeat (first | exact zs0 _ | exact zs1 _ | apply zs2 | apply zs3 | apply zs4 | apply zs5)) (allR_self _) (by dsimp only; omega)
     ·
      try simp only [zb1, zb2, zb3, zb4, zb5, zb6, zb7, zb8] at hc4
      refine CJ_skip (seqK_normal (CJ_seq (CJ_region ?_)))
      refine LJ_q (yv_field tb rfl rfl rfl) rfl ?_
      refine LJ_q (yv_load1 tb rfl rfl rfl (by repeat (first | exact zi0 | apply zi1 | apply zi2)) (by rfl)) rfl ?_
      refine LJ_q (yv_len tb rfl rfl rfl) rfl ?_
      refine LJ_q (yv_assign (show _ = Value.int _ _ from rfl)) rfl ?_
      refine LJ_nil (seqK_normal (CJ_seq ?_))
      refine CJ_drawn2 tb [117, 118, 119, 120] [0, 1, 2, 3, 4, 5, 6, 7, 8, 9, 10, 11] [12, 13, 14] ([Blk.mk b14 _ _, Blk.mk b12 _ _, Blk.mk b101 _ _]) _ mixed (by kernel_rfl) (by repeat (first | exact zs0 _ | exact zs1 _ | apply zs2 | apply zs3 | apply zs4 | apply zs5)) (by (repeat (first | apply List.Sublist.cons (a := Blk.mk b101 _ _) | apply List.Sublist.cons_cons)); exact List.Sublist.refl _) ?_
      refine DJ3_ql (yv_field tb rfl rfl rfl) rfl rfl rfl rfl ?_
      refine DJ3_ql (yv_load1 tb rfl rfl rfl (by repeat (first | exact zi0 | apply zi1 | apply zi2)) (by rfl)) rfl rfl rfl rfl ?_
      refine DJ3_ql (yv_field tb rfl rfl rfl) rfl rfl rfl rfl ?_
      refine DJ3_ql (yv_load1 tb rfl rfl rfl (by repeat (first | exact zi0 | apply zi1 | apply zi2)) (by rfl)) rfl rfl rfl rfl ?_
      refine DJ3_q (yv_field tb rfl rfl rfl) rfl rfl rfl rfl ?_
      refine DJ3_q (yv_load1 tb rfl rfl rfl (by repeat (first | exact zi0 | apply zi1 | apply zi2)) (by rfl)) rfl rfl rfl rfl ?_
      refine DJ3_q (yv_field tb rfl rfl rfl) rfl rfl rfl rfl ?_
      refine DJ3_q (yv_load1 tb rfl rfl rfl (by repeat (first | exact zi0 | apply zi1 | apply zi2)) (by rfl)) rfl rfl rfl rfl ?_
      refine DJ3_q (yv_index tb rfl rfl rfl rfl (i := (a.mine.roads.l.getD k default).fr.toNat) (by first | rfl | omega | (simp; omega)) (by omega)) rfl rfl rfl rfl ?_
      refine DJ3_q (by first | exact yv_load1 tb rfl rfl rfl (by repeat (first | exact zi0 | apply zi1 | apply zi2)) (rcell_get (fun _ => rfl) (by assumption) rfl) | exact yv_load1 tb rfl rfl rfl (by repeat (first | exact zi0 | apply zi1 | apply zi2)) (rcell_get' (fun _ => rfl) (by assumption) rfl) | exact yv_load1 tb rfl rfl rfl (by repeat (first | exact zi0 | apply zi1 | apply zi2)) (icell_get (by assumption)) | exact yv_load1 tb rfl rfl rfl (by repeat (first | exact zi0 | apply zi1 | apply zi2)) (by rfl)) rfl rfl rfl rfl ?_
      refine DJ3_q (yv_move (show _ = Value.int _ _ from rfl)) rfl rfl rfl rfl ?_
      refine DJ3_g (gives_buildSlice (qs := [(0, (Value.int _ _).cells.toList)]) (out := [_]) tb rfl rfl rfl rfl rfl rfl rfl) rfl rfl rfl ?_
      rintro v L' R' ⟨b128, rfl, rfl, hR128⟩
      replace hR128 := hR128.symm; subst hR128
      refine ⟨(by repeat (first | exact zs0 _ | exact zs1 _ | apply zs2 | apply zs3 | apply zs4 | apply zs5)), allR_self _, ?_⟩
      refine DJ3_phase ?_
      refine DJ_g (gives_append1 (f := icell) (a := (P.l.length : Int)) tb rfl rfl rfl rfl (hpk.1) (by repeat (first | apply OSeg.cons | exact OSeg.here | exact OSeg.last | exact OSeg.at (by assumption) | apply OSeg.app)) (shown_own (by repeat (first | exact zi0 | apply zi1 | apply zi2)) rfl rfl) rfl (by first | omega | (simp only [List.length_cons, List.length_nil, List.length_append]; omega))) rfl rfl rfl ?_
      rintro v L' R' ⟨o129, rfl, hok129, rfl, rfl⟩
      refine ⟨(by repeat (first | exact zs0 _ | exact zs1 _ | apply zs2 | apply zs3 | apply zs4 | apply zs5)), allR_self _, ?_⟩
      refine DJ_q (yv_index tb rfl rfl rfl rfl (i := (a.mine.roads.l.getD k default).fr.toNat) (by first | rfl | omega | (simp; omega)) (by omega)) rfl rfl rfl ?_
      refine DJ_store1 (v := Value.slice _ _ _) rfl rfl rfl rfl (by repeat (first | apply zu0 | apply zu1 | apply zu2)) (by exact rcell_fit (fun _ => rfl) (by assumption) (by decide)) (by exact rcell_set (x' := ⟨o129, p.l ++ [(P.l.length : Int)]⟩) (fun _ => rfl) (by decide) (by assumption) (by rfl)) (by rfl) (by repeat (first | exact zs0 _ | exact zs1 _ | apply zs2 | apply zs3 | apply zs4 | apply zs5)) ?_
      refine DJ_nil (seqK_normal (CJ_seq ?_))
      have hq' : (G.set (a.mine.roads.l.getD k default).fr.toNat ⟨o129, p.l ++ [(P.l.length : Int)]⟩)[(a.mine.roads.l.getD k default).to.toNat]? = some q := by rw [List.getElem?_set_ne hne]; exact hq
      refine CJ_drawn2 tb [131, 132, 133, 134] [0, 1, 2, 3, 4, 5, 6, 7, 8, 9, 10, 11] [12, 13, 14] ([Blk.mk b14 _ _, Blk.mk b12 _ _, Blk.mk b101 _ _]) _ mixed (by kernel_rfl) (by repeat (first | exact zs0 _ | exact zs1 _ | apply zs2 | apply zs3 | apply zs4 | apply zs5)) (by (repeat (first | apply List.Sublist.cons (a := Blk.mk b101 _ _) | apply List.Sublist.cons_cons)); exact List.Sublist.refl _) ?_
      refine DJ3_ql (yv_field tb rfl rfl rfl) rfl rfl rfl rfl ?_
      refine DJ3_ql (yv_load1 tb rfl rfl rfl (by repeat (first | exact zi0 | apply zi1 | apply zi2)) (by rfl)) rfl rfl rfl rfl ?_
      refine DJ3_ql (yv_field tb rfl rfl rfl) rfl rfl rfl rfl ?_
      refine DJ3_ql (yv_load1 tb rfl rfl rfl (by repeat (first | exact zi0 | apply zi1 | apply zi2)) (by rfl)) rfl rfl rfl rfl ?_
      refine DJ3_q (yv_field tb rfl rfl rfl) rfl rfl rfl rfl ?_
      refine DJ3_q (yv_load1 tb rfl rfl rfl (by repeat (first | exact zi0 | apply zi1 | apply zi2)) (by rfl)) rfl rfl rfl rfl ?_
      refine DJ3_q (yv_field tb rfl rfl rfl) rfl rfl rfl rfl ?_
      refine DJ3_q (yv_load1 tb rfl rfl rfl (by repeat (first | exact zi0 | apply zi1 | apply zi2)) (by rfl)) rfl rfl rfl rfl ?_
      refine DJ3_q (yv_index tb rfl rfl rfl rfl (i := (a.mine.roads.l.getD k default).to.toNat) (by first | rfl | omega | (simp; omega)) (by omega)) rfl rfl rfl rfl ?_
      refine DJ3_q (by first | exact yv_load1 tb rfl rfl rfl (by repeat (first | exact zi0 | apply zi1 | apply zi2)) (rcell_get (fun _ => rfl) (by assumption) rfl) | exact yv_load1 tb rfl rfl rfl (by repeat (first | exact zi0 | apply zi1 | apply zi2)) (rcell_get' (fun _ => rfl) (by assumption) rfl) | exact yv_load1 tb rfl rfl rfl (by repeat (first | exact zi0 | apply zi1 | apply zi2)) (icell_get (by assumption)) | exact yv_load1 tb rfl rfl rfl (by repeat (first | exact zi0 | apply zi1 | apply zi2)) (by rfl)) rfl rfl rfl rfl ?_
      refine DJ3_q (yv_move (show _ = Value.int _ _ from rfl)) rfl rfl rfl rfl ?_
      refine DJ3_g (gives_buildSlice (qs := [(0, (Value.int _ _).cells.toList)]) (out := [_]) tb rfl rfl rfl rfl rfl rfl rfl) rfl rfl rfl ?_
      rintro v L' R' ⟨b142, rfl, rfl, hR142⟩
      replace hR142 := hR142.symm; subst hR142
      refine ⟨(by repeat (first | exact zs0 _ | exact zs1 _ | apply zs2 | apply zs3 | apply zs4 | apply zs5)), allR_self _, ?_⟩
      refine DJ3_phase ?_
      refine DJ_g (gives_append1 (f := icell) (a := (P.l.length : Int)) tb rfl rfl rfl rfl (hqk.1) (by repeat (first | apply OSeg.cons | exact OSeg.here | exact OSeg.last | exact OSeg.at (by assumption) | apply OSeg.app)) (shown_own (by repeat (first | exact zi0 | apply zi1 | apply zi2)) rfl rfl) rfl (by first | omega | (simp only [List.length_cons, List.length_nil, List.length_append]; omega))) rfl rfl rfl ?_
      rintro v L' R' ⟨o143, rfl, hok143, rfl, rfl⟩
      refine ⟨(by repeat (first | exact zs0 _ | exact zs1 _ | apply zs2 | apply zs3 | apply zs4 | apply zs5)), allR_self _, ?_⟩
      refine DJ_q (yv_index tb rfl rfl rfl rfl (i := (a.mine.roads.l.getD k default).to.toNat) (by first | rfl | omega | (simp; omega)) (by omega)) rfl rfl rfl ?_
      refine DJ_store1 (v := Value.slice _ _ _) rfl rfl rfl rfl (by repeat (first | apply zu0 | apply zu1 | apply zu2)) (by exact rcell_fit (fun _ => rfl) (by assumption) (by decide)) (by exact rcell_set (x' := ⟨o143, q.l ++ [(P.l.length : Int)]⟩) (fun _ => rfl) (by decide) (by assumption) (by rfl)) (by rfl) (by repeat (first | exact zs0 _ | exact zs1 _ | apply zs2 | apply zs3 | apply zs4 | apply zs5)) ?_
      refine DJ_nil (seqK_normal (CJ_seq ?_))
      refine CJ_drawn2 tb [] [0, 1, 2, 3, 4, 5, 6, 7, 8, 9, 10] [11] (_) _ mixed (by kernel_rfl) (by repeat (first | exact zs0 _ | exact zs1 _ | apply zs2 | apply zs3 | apply zs4 | apply zs5)) (by (repeat (first | apply List.Sublist.cons (a := Blk.mk b14 _ _) | apply List.Sublist.cons_cons)); exact List.Sublist.refl _) ?_
      refine DJ3_q (yv_field tb rfl rfl rfl) rfl rfl rfl rfl ?_
      refine DJ3_q (yv_field tb rfl rfl rfl) rfl rfl rfl rfl ?_
      refine DJ3_q (yv_load1 tb rfl rfl rfl (by repeat (first | exact zi0 | apply zi1 | apply zi2)) (by rfl)) rfl rfl rfl rfl ?_
      refine DJ3_q (yv_move (show _ = Value.slice _ _ _ from rfl)) rfl rfl rfl rfl ?_
      refine DJ3_q (yv_move (show _ = Value.int _ _ from rfl)) rfl rfl rfl rfl ?_
      refine DJ3_q (yv_index tb rfl rfl rfl rfl (i := k) (by first | rfl | omega | (simp; omega)) (by omega)) rfl rfl rfl rfl ?_
      refine DJ3_q (yv_field_eo tb rfl rfl rfl) rfl rfl rfl rfl ?_
      refine DJ3_q (by first | exact yv_load1 tb rfl rfl rfl (by repeat (first | exact zi0 | apply zi1 | apply zi2)) (rcell_get (fun _ => rfl) (by assumption) rfl) | exact yv_load1 tb rfl rfl rfl (by repeat (first | exact zi0 | apply zi1 | apply zi2)) (rcell_get' (fun _ => rfl) (by assumption) rfl) | exact yv_load1 tb rfl rfl rfl (by repeat (first | exact zi0 | apply zi1 | apply zi2)) (icell_get (by assumption)) | exact yv_load1 tb rfl rfl rfl (by repeat (first | exact zi0 | apply zi1 | apply zi2)) (by rfl)) rfl rfl rfl rfl ?_
      refine DJ3_q (by first | exact yv_add64 rfl rfl (by omega) (by omega) | exact yv_addU rfl rfl (by omega) (by omega) | exact yv_add rfl rfl) rfl rfl rfl rfl ?_
      refine DJ3_q (yv_field tb rfl rfl rfl) rfl rfl rfl rfl ?_
      refine DJ3_q (yv_field tb rfl rfl rfl) rfl rfl rfl rfl ?_
      refine DJ3_phase ?_
      refine DJ_store1 (v := Value.int _ _) rfl rfl rfl rfl (by repeat (first | apply zu0 | apply zu1 | apply zu2)) (by first | exact icell_fit (by omega) | rfl) (by first | exact icell_set | rfl) (by rfl) (by repeat (first | exact zs0 _ | exact zs1 _ | apply zs2 | apply zs3 | apply zs4 | apply zs5)) ?_
      refine DJ_nil (seqK_normal (CJ_seq ?_))
      refine CJ_drawn2 tb [] [0, 1, 2, 3, 4, 5, 6, 7, 8, 9, 10] [11] (_) _ mixed (by kernel_rfl) (by repeat (first | exact zs0 _ | exact zs1 _ | apply zs2 | apply zs3 | apply zs4 | apply zs5)) (by (repeat (first | apply List.Sublist.cons (a := Blk.mk b14 _ _) | apply List.Sublist.cons_cons)); exact List.Sublist.refl _) ?_
      refine DJ3_q (yv_field tb rfl rfl rfl) rfl rfl rfl rfl ?_
      refine DJ3_q (yv_field tb rfl rfl rfl) rfl rfl rfl rfl ?_
      refine DJ3_q (yv_load1 tb rfl rfl rfl (by repeat (first | exact zi0 | apply zi1 | apply zi2)) (by rfl)) rfl rfl rfl rfl ?_
      refine DJ3_q (yv_move (show _ = Value.slice _ _ _ from rfl)) rfl rfl rfl rfl ?_
      refine DJ3_q (yv_move (show _ = Value.int _ _ from rfl)) rfl rfl rfl rfl ?_
      refine DJ3_q (yv_index tb rfl rfl rfl rfl (i := k) (by first | rfl | omega | (simp; omega)) (by omega)) rfl rfl rfl rfl ?_
      refine DJ3_q (yv_field_eo tb rfl rfl rfl) rfl rfl rfl rfl ?_
      refine DJ3_q (by first | exact yv_load1 tb rfl rfl rfl (by repeat (first | exact zi0 | apply zi1 | apply zi2)) (rcell_get (fun _ => rfl) (by assumption) rfl) | exact yv_load1 tb rfl rfl rfl (by repeat (first | exact zi0 | apply zi1 | apply zi2)) (rcell_get' (fun _ => rfl) (by assumption) rfl) | exact yv_load1 tb rfl rfl rfl (by repeat (first | exact zi0 | apply zi1 | apply zi2)) (icell_get (by assumption)) | exact yv_load1 tb rfl rfl rfl (by repeat (first | exact zi0 | apply zi1 | apply zi2)) (by rfl)) rfl rfl rfl rfl ?_
      refine DJ3_q (by first | exact yv_add64 rfl rfl (by omega) (by omega) | exact yv_addU rfl rfl (by omega) (by omega) | exact yv_add rfl rfl) rfl rfl rfl rfl ?_
      refine DJ3_q (yv_field tb rfl rfl rfl) rfl rfl rfl rfl ?_
      refine DJ3_q (yv_field tb rfl rfl rfl) rfl rfl rfl rfl ?_
      refine DJ3_phase ?_
      refine DJ_store1 (v := Value.int _ _) rfl rfl rfl rfl (by repeat (first | apply zu0 | apply zu1 | apply zu2)) (by first | exact icell_fit (by omega) | rfl) (by first | exact icell_set | rfl) (by rfl) (by repeat (first | exact zs0 _ | exact zs1 _ | apply zs2 | apply zs3 | apply zs4 | apply zs5)) ?_
      refine DJ_nil (seqK_normal ?_)
      refine CJ_drawn2 tb [] [0, 1, 2, 3, 4, 5, 6, 7, 8, 9] [10, 11, 12] ([Blk.mk b14 _ _, Blk.mk b12 _ _, Blk.mk b25 _ _]) _ mixed (by kernel_rfl) (by repeat (first | exact zs0 _ | exact zs1 _ | apply zs2 | apply zs3 | apply zs4 | apply zs5)) (List.nil_sublist _) ?_
      refine DJ3_q (yv_field tb rfl rfl rfl) rfl rfl rfl rfl ?_
      refine DJ3_q (yv_load1 tb rfl rfl rfl (by repeat (first | exact zi0 | apply zi1 | apply zi2)) (by rfl)) rfl rfl rfl rfl ?_
      refine DJ3_q (yv_loadN (row := [_, _, _, _, _, _, _, _, _, _]) tb rfl rfl rfl (by repeat (first | exact zi0 | apply zi1 | apply zi2)) (by rfl) (by rfl)) rfl rfl rfl rfl ?_
      refine DJ3_q (yv_move (show _ = Value.int _ _ from rfl)) rfl rfl rfl rfl ?_
      refine DJ3_q (yv_move (show _ = Value.slice _ _ _ from rfl)) rfl rfl rfl rfl ?_
      refine DJ3_q (yv_move (show _ = Value.int _ _ from rfl)) rfl rfl rfl rfl ?_
      refine DJ3_q (yv_index tb rfl rfl rfl rfl (i := k) (by first | rfl | omega | (simp; omega)) (by omega)) rfl rfl rfl rfl ?_
      refine DJ3_q (by first | exact yv_load1 tb rfl rfl rfl (by repeat (first | exact zi0 | apply zi1 | apply zi2)) (rcell_get (fun _ => rfl) (by assumption) rfl) | exact yv_load1 tb rfl rfl rfl (by repeat (first | exact zi0 | apply zi1 | apply zi2)) (rcell_get' (fun _ => rfl) (by assumption) rfl) | exact yv_load1 tb rfl rfl rfl (by repeat (first | exact zi0 | apply zi1 | apply zi2)) (icell_get (by assumption)) | exact yv_load1 tb rfl rfl rfl (by repeat (first | exact zi0 | apply zi1 | apply zi2)) (by rfl)) rfl rfl rfl rfl ?_
      refine DJ3_q (yv_build (qs := [(0, (Value.agg _).cells.toList), (1, (Value.int _ _).cells.toList), (2, (Value.slice _ _ _).cells.toList)]) (out := [_, _, _, _, _, _, _, _, _, _, _, _]) tb rfl rfl rfl rfl) rfl rfl rfl rfl ?_
      refine DJ3_g (gives_buildSlice (qs := [(0, (Value.agg _).cells.toList)]) (out := [_, _, _, _, _, _, _, _, _, _, _, _]) tb rfl rfl rfl rfl rfl rfl rfl) rfl rfl rfl ?_
      rintro v L' R' ⟨b176, rfl, rfl, hR176⟩
      replace hR176 := hR176.symm; subst hR176
      refine ⟨(by repeat (first | exact zs0 _ | exact zs1 _ | apply zs2 | apply zs3 | apply zs4 | apply zs5)), allR_self _, ?_⟩
      refine DJ3_phase ?_
      refine DJ_g (gives_append1 (f := XPipe.cells) (a := ⟨{ a.mine.roads.l.getD k default with rest := ⟨(a.mine.roads.l.getD k default).rest.low + y.low, (a.mine.roads.l.getD k default).rest.high + y.high⟩ }, (k : Int), fk.arr⟩) tb rfl rfl rfl rfl (hP.ok) (by repeat (first | apply OSeg.cons | exact OSeg.here | exact OSeg.last | exact OSeg.at (by assumption) | apply OSeg.app)) (shown_own (by repeat (first | exact zi0 | apply zi1 | apply zi2)) rfl rfl) rfl (by first | omega | (simp only [List.length_cons, List.length_nil, List.length_append]; omega))) rfl rfl rfl ?_
      rintro v L' R' ⟨o177, rfl, hok177, rfl, rfl⟩
      refine ⟨(by repeat (first | exact zs0 _ | exact zs1 _ | apply zs2 | apply zs3 | apply zs4 | apply zs5)), allR_self _, ?_⟩
      refine DJ_q (yv_field tb rfl rfl rfl) rfl rfl rfl ?_
      refine DJ_store1 (v := Value.slice _ _ _) rfl rfl rfl rfl (by repeat (first | apply zu0 | apply zu1 | apply zu2)) (by first | exact icell_fit (by omega) | rfl) (by first | exact icell_set | rfl) (by rfl) (by repeat (first | exact zs0 _ | exact zs1 _ | apply zs2 | apply zs3 | apply zs4 | apply zs5)) ?_
      refine DJ_nil (blockK_normal (seqK_normal (CJ_region ?_)))
      refine LJ_q (by first | exact yv_add64 rfl rfl (by omega) (by omega) | exact yv_addU rfl rfl (by omega) (by omega) | exact yv_add rfl rfl) rfl ?_
      refine LJ_q (yv_move (show _ = Value.int _ _ from rfl)) rfl ?_
      refine LJ_nil ?_
      first
        | exact loopK_mk ⟨(k + 1, P, G), by dsimp only; omega, hP.stay hc4, hG.stay hc4⟩ (by repeat (first | exact Off.refl | apply Off.upd rfl | apply Off.havoc rfl | apply Off.updL rfl | apply Off.left rfl)) (by repeat' (first | exact trivial | refine And.intro rfl ?_)) (by repeat (first | exact zs0 _ | exact zs1 _ | apply zs2 | apply zs3 | apply zs4 | apply zs5)) (allR_self _) (by dsimp only; omega)
        | have hre : restTo a s (k : Int) a.doors.l.length = ⟨(a.mine.roads.l.getD k default).rest.low + y.low, (a.mine.roads.l.getD k default).rest.high + y.high⟩ := by
            cases hc : restTo a s (k : Int) a.doors.l.length with
            | mk lo hi => rw [hc] at hy1 hy2; dsimp only at hy1 hy2; rw [hy1, hy2]
          have hcc : ¬ (a.mine.roads.l.getD k default).closed = true := by simpa using hc4
          exact loopK_mk ⟨(k + 1, _, _), by dsimp only; omega, hP.next hcc ⟨by rw [Int.toNat_natCast, hre], rfl, hfk2.2⟩ (hS fk (List.mem_of_getElem? hfk)) hok177, hG.next hcc (by omega) (by omega) hne hp hq (by omega) hok129 hok143⟩ (by repeat (first | exact Off.refl | apply Off.upd rfl | apply Off.havoc rfl | apply Off.updL rfl | apply Off.left rfl)) (by repeat' (first | exact trivial | refine And.intro rfl ?_)) (by repeat (first | exact zs0 _ | exact zs1 _ | apply zs2 | apply zs3 | apply zs4 | apply zs5)) (allR_self _) (by dsimp only; omega)
    ·
     try simp only [zb1, zb2, zb3, zb4, zb5, zb6, zb7, zb8] at hc3
     obtain rfl : k = a.mine.roads.l.length := by omega
     refine CJ_exit (seqK_exit (loopK_exit (blockK_exit (seqK_normal (CJ_seq ?_)))))
     have hGl := hG.len
     refine CJ_frz1 (A := [_, _, _, _, _, _, _]) (wd := 12) (P.l.map XPipe.sl) (fun _ => rfl) (by decide) hP.ok (fun x hx => ?subP) ?_
     case subP => obtain ⟨p, hp, rfl⟩ := List.mem_map.1 hx; exact (hP.pipe p hp).2.mono fun r h => inR_self (by simp [h])
     refine CJ_L (by simp only [List.cons_append, List.nil_append]; rfl) ?_
     refine CJ_frzAll0 (A := [_, _, _, _, _, _, _]) (wd := 1) (fun _ => rfl) (by decide) (fun p hp => ?okG) fun S2 hS2 => ?_
     case okG => obtain ⟨r, hr⟩ := List.mem_iff_getElem?.1 hp; exact (hG.ok r p hr).1
     refine CJ_L (by simp only [List.cons_append, List.nil_append]; rfl) ?_
     refine CJ_frzB (A := [_]) (wd := 1) (len := (G.map OwL.arr).length) (cap := a.mine.places.l.length) (rows := (G.map OwL.arr).map acell) (subs := (G.map OwL.arr).map isl) (by simp) (by simp; omega) (by omega) (fun r hr => ?w1) (by decide) ?cs1 (fun x hx => ?subG) ?_
     case w1 => obtain ⟨y, _, rfl⟩ := List.mem_map.1 hr; rfl
     case cs1 =>
       rw [rows_map, List.flatMap_map, List.take_of_length_le (by rw [rows_length (wd := 1) (fun _ => rfl)]; simp)]
       rfl
     case subG =>
       obtain ⟨y, hy, rfl⟩ := List.mem_map.1 hx
       obtain ⟨p, hp, rfl⟩ := List.mem_map.1 hy
       exact (hS2 p hp).mono fun r h => inR_self (by simp [h])
     refine CJ_L (by simp only [List.cons_append, List.nil_append]; rfl) ?_
     refine CJ_region ?_
     refine LJ_q (yv_loadN (row := [_, _]) tb rfl rfl rfl (by repeat (first | exact zi0 | apply zi1 | apply zi2)) (by rfl) (by rfl)) rfl ?_
     refine LJ_storeW tb rfl rfl rfl rfl (by repeat (first | apply zu0 | apply zu1 | apply zu2)) (by rfl) (by rfl) ?_
     refine LJ_nil (seqK_normal (CJ_ret ?_))
     refine retK_ret (L' := L) (R' := ppsl P.arr :: aasl ⟨some ⟨b101, 0, none⟩, a.mine.places.l.length, G.map OwL.arr⟩ :: R) (res1 rfl (rv_cell (row := [_, _]) tb rfl rfl rfl (by repeat (first | exact zi0 | apply zi1 | apply zi2)) (by rfl) (by rfl))) ?hp ?hL ?hR
     case hp =>
      refine ⟨⟨P.arr, ⟨some ⟨b101, 0, none⟩, a.mine.places.l.length, G.map OwL.arr⟩⟩, ?_, ⟨hP.nums, fun p hp => (hP.pipe p hp).1, by simp [hGl], fun v x hx => ?_⟩, rfl, rfl⟩
      · simp only [XNet.val, Arr.val, List.length_map, hGl]
        rfl
      · dsimp only at hx
        rw [List.getElem?_map] at hx
        obtain ⟨p, hp, rfl⟩ := Option.map_eq_some_iff.1 hx
        exact (hG.ok v p hp).2
     case hL => exact (by repeat (first | exact zs0 _ | exact zs1 _ | apply zs2 | apply zs3 | apply zs4 | apply zs5))
     case hR => exact fun r hr => inR_self (by simp only [List.mem_cons, List.mem_append] at hr ⊢; rcases hr with h | h | h <;> simp [h])
end Go.Proofs.Ytimnnhdeicpenaa
