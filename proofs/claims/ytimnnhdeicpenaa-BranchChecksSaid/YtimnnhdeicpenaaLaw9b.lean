/-
  Statements about chapter 9: drops, flows. By an AI agent; no person has read it.
-/
import Derived.Test.YtimnnhdeicpenaaLaw9a
set_option linter.unusedSimpArgs false
set_option linter.unusedVariables false
namespace Go.Proofs.Ytimnnhdeicpenaa
open Go.Aw Go
set_option maxRecDepth 20000
attribute [local irreducible] CJ LJ DJ Tri YV Gives seqK blockK loopK retK RV mergeK OwL.L

theorem AirOk.rests {a : XAir} (h : AirOk a) (i : Nat) (d : XDoor) (hd : a.doors.l[i]? = some d) : d.rests.l.length ≤ 100 := by
  have := (h.door i d hd).1.len
  omega

theorem branchDrops_tri (y : Arr Int) (road flow : Int) (R : List Sl) (hy : CodesR y R) (h1 : I64 road) (h2 : I64 flow) :
    Tri Try.prog 4 [y.val, .int .i64 road, .int .i64 flow].toArray [] R (fun v L' R' => v = .bool true ∧ [] = L' ∧ R = R') := by
  refine tri_enter 84 Try.call4 Try.func4 rfl rfl rfl ?_
  refine CJ_seq (CJ_region ?_)
  refine LJ_q (yv_assign (show _ = Value.bool _ from rfl)) rfl ?_
  refine LJ_nil (seqK_normal (CJ_seq (CJ_region ?_)))
  refine LJ_q (yv_move (show _ = Value.slice _ _ _ from rfl)) rfl ?_
  refine LJ_call rfl (new_tri y _ _ hy) rfl ?_
  rintro v L' R' ⟨c, rfl, hx, rfl, rfl⟩
  refine LJ_q (yv_assign (show _ = Value.pointer _ from rfl)) rfl ?_
  refine LJ_nil (seqK_normal (CJ_seq (CJ_region ?_)))
  refine LJ_q (yv_move (show _ = Value.pointer _ from rfl)) rfl ?_
  refine LJ_call rfl (made1 (.consL .nil) hx (Nat.zero_le _)) rfl ?_
  rintro v L' R' ⟨m, k1, S, rfl, hm, hMA, hif, hid, hk1, rfl, rfl⟩
  simp only [List.append_assoc, List.cons_append, List.nil_append]
  refine LJ_q (yv_move rfl) rfl ?_
  refine LJ_q (yv_extract rfl rfl) rfl ?_
  refine LJ_q (yv_extract rfl rfl) rfl ?_
  refine LJ_q (yv_extract rfl rfl) rfl ?_
  refine LJ_alloc tb rfl rfl ?_
  intro b8
  refine LJ_alloc tb rfl rfl ?_
  intro b9
  refine LJ_alloc tb rfl rfl ?_
  intro b10
  refine LJ_storeW tb rfl rfl rfl rfl (by repeat (first | apply zu0 | apply zu1 | apply zu2)) (by rfl) (by rfl) ?_
  refine LJ_storeW tb rfl rfl rfl rfl (by repeat (first | apply zu0 | apply zu1 | apply zu2)) (by rfl) (by rfl) ?_
  refine LJ_storeW tb rfl rfl rfl rfl (by repeat (first | apply zu0 | apply zu1 | apply zu2)) (by rfl) (by rfl) ?_
  refine LJ_nil (seqK_normal (CJ_seq ?_))
  have hae := airOk_of hMA.err
  have hnr := hMA.nroads
  have hnf := hMA.nfans
  have hnd := hMA.ndoors
  have hnr2 : m.roads.arr.l.length ≤ 9 := hMA.nroads
  refine CJ_frzMade (A := [_, _, _]) hm (fun f hf => (hif f hf).mono fun r hr => inR_self (by simp [hr])) (fun f hf => (hid f hf).mono fun r hr => inR_self (by simp [hr])) fun R1 hA hT hX hR1 => ?_
  refine CJ_L (by simp only [List.cons_append, List.nil_append]; rfl) ?_
  have hx1 : CodesR (codes300 y) R1 := hx.mono fun r hr => hR1 r (by simp [hr])
  refine CJ_region ?_
  refine LJ_q (yv_move (show _ = Value.pointer _ from rfl)) rfl ?_
  refine LJ_q (yv_loadN (row := [_, _, _, _]) tb rfl rfl rfl (by repeat (first | exact zi0 | apply zi1 | apply zi2)) (by rfl) (by rfl)) rfl ?_
  refine LJ_call rfl (setting1 (a := m.a) (.consB (.consB (.consB (.consL .nil)))) hx1 hk1 hA.doors (by omega) (by omega) hae.rests) rfl ?_
  rintro v L' R' ⟨tf2, td2, k2, rfl, ⟨ht1, ht2⟩, hAS, hk2, rfl, rfl⟩
  simp only [List.append_assoc, List.cons_append, List.nil_append]
  refine LJ_alloc tb rfl rfl ?_
  intro b11
  refine LJ_storeW tb rfl rfl rfl rfl (by repeat (first | apply zu0 | apply zu1 | apply zu2)) (by rfl) (by rfl) ?_
  refine LJ_nil (seqK_normal (CJ_seq ?_))
  refine CJ_frz1 (A := [_, _, _, _, _]) (wd := 1) [] (fun _ => rfl) (by decide) ht1 (fun s hs => by cases hs) ?_
  refine CJ_frz1 (A := [_, _, _, _, _]) (wd := 1) [] (fun _ => rfl) (by decide) ht2 (fun s hs => by cases hs) ?_
  refine CJ_L (by simp only [List.cons_append, List.nil_append]; rfl) ?_
  have hA2 : AirR m.a (isl td2.arr :: isl tf2.arr :: R1) := airR_mono hA fun r hr => inR_self (by simp [hr])
  have hT2 : SetR m.t (isl td2.arr :: isl tf2.arr :: R1) := setR_mono hT fun r hr => inR_self (by simp [hr])
  have hU2 : SetR ⟨tf2.arr, td2.arr⟩ (isl td2.arr :: isl tf2.arr :: R1) := ⟨inR_self (.tail _ (.head _)), inR_self (.head _)⟩
  refine CJ_region ?_
  refine LJ_q (yv_move (show _ = Value.int _ _ from rfl)) rfl ?_
  refine LJ_q (yv_field tb rfl rfl rfl) rfl ?_
  refine LJ_q (yv_field tb rfl rfl rfl) rfl ?_
  refine LJ_q (yv_load1 tb rfl rfl rfl (by repeat (first | exact zi0 | apply zi1 | apply zi2)) (by rfl)) rfl ?_
  refine LJ_q (yv_len tb rfl rfl rfl) rfl ?_
  refine LJ_q (by first | exact yv_add64 rfl rfl (by omega) (by omega) | exact yv_addU rfl rfl (by omega) (by omega) | exact yv_add rfl rfl) rfl ?_
  refine LJ_call rfl (mod_tri _ _ _ _ h1 (by omega)) rfl ?_
  rintro v L' R' ⟨rfl, rfl, rfl⟩
  refine LJ_q (yv_move (show _ = Value.int _ _ from rfl)) rfl ?_
  refine LJ_call rfl (mod_tri _ _ _ _ h2 (by omega)) rfl ?_
  rintro v L' R' ⟨rfl, rfl, rfl⟩
  have hq := modS_bounds (k := flow) (n := 400) (by omega)
  refine LJ_q (by first | exact yv_sub64 rfl rfl (by omega) (by omega) | exact yv_sub rfl rfl) rfl ?_
  refine LJ_q (yv_assign (show _ = Value.int _ _ from rfl)) rfl ?_
  refine LJ_q (yv_assign (show _ = Value.int _ _ from rfl)) rfl ?_
  refine LJ_nil (seqK_normal (CJ_seq (CJ_seq (CJ_region ?_))))
  refine LJ_q (yv_move (show _ = Value.int _ _ from rfl)) rfl ?_
  refine LJ_q (yv_move (show _ = Value.int _ _ from rfl)) rfl ?_
  refine LJ_g (gives_buildSlice (qs := [(0, (Value.int _ _).cells.toList), (1, (Value.int _ _).cells.toList), (2, (Value.int _ _).cells.toList), (3, (Value.int _ _).cells.toList), (4, (Value.int _ _).cells.toList)]) (out := [_, _, _, _, _]) tb rfl rfl rfl rfl rfl rfl rfl) rfl ?_
  rintro v L' R' ⟨b39, rfl, rfl, hR39⟩
  replace hR39 := hR39.symm; subst hR39
  refine LJ_q (yv_len tb rfl rfl rfl) rfl ?_
  refine LJ_q (yv_move (show _ = Value.int _ _ from rfl)) rfl ?_
  refine LJ_nil (seqK_normal (CJ_block ?_))
  refine CJ_forget [(1, Value.int _ _), (8, Value.pointer _), (9, Value.pointer _), (11, Value.pointer _), (12, Value.int _ _), (39, Value.slice _ _ _), (40, Value.int _ _), (41, Value.int _ _)] (by repeat' (first | exact trivial | refine And.intro rfl ?_)) fun tq0 => ?_
  obtain ⟨kk, hkk⟩ : ∃ kk, kk = modS road (m.roads.arr.l.length + 1) := ⟨_, rfl⟩
  obtain ⟨q, hqq⟩ : ∃ q, q = modS flow 400 - 200 := ⟨_, rfl⟩
  rw [← hkk, ← hqq]
  refine CJ_frz (wd := 1) (len := 5) (cap := 5) (rows := [flow, q, 1048577, -1048577, 1048578].map icell) (subs := []) rfl (by decide) (by decide) (fun r hr => by obtain ⟨y, _, rfl⟩ := List.mem_map.1 hr; rfl) (by decide) rfl (fun s hs => by cases hs) ?_
  obtain ⟨xs, hxs⟩ : ∃ xs : Arr Int, xs = ⟨some ⟨b39, 0, none⟩, 5, [flow, q, 1048577, -1048577, 1048578]⟩ := ⟨_, rfl⟩
  refine CJ_weak (R' := isl xs :: isl td2.arr :: isl tf2.arr :: R1) (List.Sublist.refl _) (fun r hr => inR_self (by rw [hxs] at hr; exact hr)) ?_
  have hA3 : AirR m.a (isl xs :: isl td2.arr :: isl tf2.arr :: R1) := airR_mono hA2 fun r hr => inR_self (.tail _ hr)
  have hT3 : SetR m.t (isl xs :: isl td2.arr :: isl tf2.arr :: R1) := setR_mono hT2 fun r hr => inR_self (.tail _ hr)
  have hU3 : SetR ⟨tf2.arr, td2.arr⟩ (isl xs :: isl td2.arr :: isl tf2.arr :: R1) := setR_mono hU2 fun r hr => inR_self (.tail _ hr)
  have hxI : InR (isl xs) (isl xs :: isl td2.arr :: isl tf2.arr :: R1) := inR_self (.head _)
  refine CJ_loopS [6, 15, 41, 42, 43, 44, 45, 46, 47, 48, 49, 50, 51, 52, 53, 54, 55, 56, 57, 58, 59, 60, 61, 62, 63, 64, 65, 66, 67, 68, 69, 70, 71, 72, 73, 74, 75, 76, 77, 78, 79, 80, 81, 82] (fun g : {k : Nat // k ≤ 5} => [(41, .int .i64 ((g.1 : Nat) : Int))]) (fun g => 5 - g.1) (⟨0, by omega⟩) (by repeat' (first | exact trivial | refine And.intro rfl ?_)) ?_
  rintro ⟨j, hj⟩ junk
  try dsimp only
  refine CJ_seq (CJ_region ?_)
  refine LJ_q (yv_lss rfl rfl) rfl ?_
  refine LJ_nil (seqK_normal (CJ_seq ?_))
  refine CJ_cond (show _ = Value.bool _ from rfl) (fun hc0 => ?_) (fun hc0 => ?_)
  ·
   try simp only [zb1, zb2, zb3, zb4, zb5, zb6, zb7, zb8] at hc0
   have hxj := get_D (l := xs.l) (k := j) 0 (by rw [hxs]; simp; omega)
   refine CJ_skip (seqK_normal (CJ_seq (CJ_block (CJ_seq (CJ_region ?_)))))
   refine LJ_q (yv_index_ro (ar := xs.a) (len := xs.l.length) (cap := xs.cap) tb rfl rfl (by rw [hxs]; rfl) rfl hxI rfl (by rw [hxs]; simp; omega)) rfl ?_
   refine LJ_q (by first | exact yv_load1_ro tb rfl rfl rfl (by first | assumption | exact zr (by simp)) (by assumption) (by rfl) | exact yv_load1 tb rfl rfl rfl (by repeat (first | exact zi0 | apply zi1 | apply zi2)) (by rfl) | exact yv_load1 tb rfl rfl rfl (by repeat (first | exact zi0 | apply zi1 | apply zi2)) (icell_get (by assumption)) | exact yv_load1 tb rfl rfl rfl (by repeat (first | exact zi0 | apply zi1 | apply zi2)) (rcell_get (fun _ => rfl) (by assumption) rfl)) rfl ?_
   refine LJ_q (yv_assign (show _ = Value.int _ _ from rfl)) rfl ?_
   refine LJ_nil (seqK_normal (CJ_seq ?_))
   refine CJ_drawn tb [0, 1, 2, 3, 5, 6, 7, 8, 4, 9, 10, 11, 12, 13, 14, 15, 17, 18, 19, 20, 16, 21, 22, 23, 24, 25, 26, 27, 28, 30, 31, 32, 33, 29, 34, 35, 36] _ mixed (by kernel_rfl) (List.Sublist.refl _) ?_
   refine DJ_q (yv_loadN (row := [_, _, _, _]) tb rfl rfl rfl (by repeat (first | exact zi0 | apply zi1 | apply zi2)) (by rfl) (by rfl)) rfl rfl rfl ?_
   refine DJ_q (yv_loadN (row := [_, _]) tb rfl rfl rfl (by repeat (first | exact zi0 | apply zi1 | apply zi2)) (by rfl) (by rfl)) rfl rfl rfl ?_
   refine DJ_q (yv_move (show _ = Value.int _ _ from rfl)) rfl rfl rfl ?_
   refine DJ_q (yv_move (show _ = Value.int _ _ from rfl)) rfl rfl rfl ?_
   refine DJ_q (yv_loadN (row := [_, _, _, _]) tb rfl rfl rfl (by repeat (first | exact zi0 | apply zi1 | apply zi2)) (by rfl) (by rfl)) rfl rfl rfl ?_
   refine DJ_q (yv_loadN (row := [_, _]) tb rfl rfl rfl (by repeat (first | exact zi0 | apply zi1 | apply zi2)) (by rfl) (by rfl)) rfl rfl rfl ?_
   refine DJ_q (yv_move (show _ = Value.int _ _ from rfl)) rfl rfl rfl ?_
   refine DJ_q (yv_move (show _ = Value.int _ _ from rfl)) rfl rfl rfl ?_
   refine DJ_call rfl (branchDrop_tri m.a m.t kk (xs.l.getD j 0) _ _ hA3 hT3) rfl rfl ?_
   rintro v L' R' ⟨rfl, rfl, rfl⟩
   refine ⟨(by repeat (first | exact zs0 _ | exact zs1 _ | apply zs2 | apply zs3 | apply zs4 | apply zs5)), (by first | exact allR_self _ | exact (fun r h => inR_self (by simp [h]))), ?_⟩
   refine DJ_call rfl (ref09Drop_tri m.a m.t kk (xs.l.getD j 0) _ _ hA3 hT3) rfl rfl ?_
   rintro v L' R' ⟨rfl, rfl, rfl⟩
   refine ⟨(by repeat (first | exact zs0 _ | exact zs1 _ | apply zs2 | apply zs3 | apply zs4 | apply zs5)), (by first | exact allR_self _ | exact (fun r h => inR_self (by simp [h]))), ?_⟩
   refine DJ_q (yv_neq_span spanEq rfl rfl) rfl rfl rfl ?_
   refine DJ_q (yv_move (show _ = Value.bool _ from rfl)) rfl rfl rfl ?_
   refine DJ_case (k := 56) (show _ = Value.bool _ from rfl) (fun hg11 => ?_) (fun hg11 => ?_)
   ·
    try simp only [zb1, zb2, zb3, zb4, zb5, zb6, zb7, zb8] at hg11
    simp at hg11
   ·
    try simp only [zb1, zb2, zb3, zb4, zb5, zb6, zb7, zb8] at hg11
    refine DJ_q (yv_loadN (row := [_, _, _, _]) tb rfl rfl rfl (by repeat (first | exact zi0 | apply zi1 | apply zi2)) (by rfl) (by rfl)) rfl rfl rfl ?_
    refine DJ_q (yv_loadN (row := [_, _]) tb rfl rfl rfl (by repeat (first | exact zi0 | apply zi1 | apply zi2)) (by rfl) (by rfl)) rfl rfl rfl ?_
    refine DJ_q (yv_move (show _ = Value.int _ _ from rfl)) rfl rfl rfl ?_
    refine DJ_q (yv_move (show _ = Value.int _ _ from rfl)) rfl rfl rfl ?_
    refine DJ_q (yv_loadN (row := [_, _, _, _]) tb rfl rfl rfl (by repeat (first | exact zi0 | apply zi1 | apply zi2)) (by rfl) (by rfl)) rfl rfl rfl ?_
    refine DJ_q (yv_loadN (row := [_, _]) tb rfl rfl rfl (by repeat (first | exact zi0 | apply zi1 | apply zi2)) (by rfl) (by rfl)) rfl rfl rfl ?_
    refine DJ_q (yv_move (show _ = Value.int _ _ from rfl)) rfl rfl rfl ?_
    refine DJ_q (yv_move (show _ = Value.int _ _ from rfl)) rfl rfl rfl ?_
    refine DJ_call rfl (branchDrop_tri m.a ⟨tf2.arr, td2.arr⟩ kk (xs.l.getD j 0) _ _ hA3 hU3) rfl rfl ?_
    rintro v L' R' ⟨rfl, rfl, rfl⟩
    refine ⟨(by repeat (first | exact zs0 _ | exact zs1 _ | apply zs2 | apply zs3 | apply zs4 | apply zs5)), (by first | exact allR_self _ | exact (fun r h => inR_self (by simp [h]))), ?_⟩
    refine DJ_call rfl (ref09Drop_tri m.a ⟨tf2.arr, td2.arr⟩ kk (xs.l.getD j 0) _ _ hA3 hU3) rfl rfl ?_
    rintro v L' R' ⟨rfl, rfl, rfl⟩
    refine ⟨(by repeat (first | exact zs0 _ | exact zs1 _ | apply zs2 | apply zs3 | apply zs4 | apply zs5)), (by first | exact allR_self _ | exact (fun r h => inR_self (by simp [h]))), ?_⟩
    refine DJ_q (yv_neq_span spanEq rfl rfl) rfl rfl rfl ?_
    refine DJ_q (by first | exact yv_pick_true rfl rfl | exact yv_pick_false rfl rfl | exact yv_pick rfl) rfl rfl rfl ?_
    refine DJ_q (yv_move (show _ = Value.bool _ from rfl)) rfl rfl rfl ?_
    refine DJ_case (k := 69) (show _ = Value.bool _ from rfl) (fun hg24 => ?_) (fun hg24 => ?_)
    ·
     try simp only [zb1, zb2, zb3, zb4, zb5, zb6, zb7, zb8] at hg24
     simp at hg24
    ·
     try simp only [zb1, zb2, zb3, zb4, zb5, zb6, zb7, zb8] at hg24
     refine DJ_q (yv_loadN (row := [_, _, _, _]) tb rfl rfl rfl (by repeat (first | exact zi0 | apply zi1 | apply zi2)) (by rfl) (by rfl)) rfl rfl rfl ?_
     refine DJ_q (yv_loadN (row := [_, _]) tb rfl rfl rfl (by repeat (first | exact zi0 | apply zi1 | apply zi2)) (by rfl) (by rfl)) rfl rfl rfl ?_
     refine DJ_q (yv_move (show _ = Value.int _ _ from rfl)) rfl rfl rfl ?_
     refine DJ_q (yv_move (show _ = Value.int _ _ from rfl)) rfl rfl rfl ?_
     refine DJ_q (yv_loadN (row := [_, _, _, _]) tb rfl rfl rfl (by repeat (first | exact zi0 | apply zi1 | apply zi2)) (by rfl) (by rfl)) rfl rfl rfl ?_
     refine DJ_q (yv_loadN (row := [_, _]) tb rfl rfl rfl (by repeat (first | exact zi0 | apply zi1 | apply zi2)) (by rfl) (by rfl)) rfl rfl rfl ?_
     refine DJ_q (yv_move (show _ = Value.int _ _ from rfl)) rfl rfl rfl ?_
     refine DJ_q (yv_move (show _ = Value.int _ _ from rfl)) rfl rfl rfl ?_
     refine DJ_call rfl (branchDrop_tri m.a m.t road (xs.l.getD j 0) _ _ hA3 hT3) rfl rfl ?_
     rintro v L' R' ⟨rfl, rfl, rfl⟩
     refine ⟨(by repeat (first | exact zs0 _ | exact zs1 _ | apply zs2 | apply zs3 | apply zs4 | apply zs5)), (by first | exact allR_self _ | exact (fun r h => inR_self (by simp [h]))), ?_⟩
     refine DJ_call rfl (ref09Drop_tri m.a m.t road (xs.l.getD j 0) _ _ hA3 hT3) rfl rfl ?_
     rintro v L' R' ⟨rfl, rfl, rfl⟩
     refine ⟨(by repeat (first | exact zs0 _ | exact zs1 _ | apply zs2 | apply zs3 | apply zs4 | apply zs5)), (by first | exact allR_self _ | exact (fun r h => inR_self (by simp [h]))), ?_⟩
     refine DJ_q (yv_neq_span spanEq rfl rfl) rfl rfl rfl ?_
     refine DJ_q (by first | exact yv_pick_true rfl rfl | exact yv_pick_false rfl rfl | exact yv_pick rfl) rfl rfl rfl ?_
     refine DJ_nil (seqK_normal ?_)
     refine CJ_cond (show _ = Value.bool _ from rfl) (fun hc1 => ?_) (fun hc1 => ?_)
     ·
      try simp only [zb1, zb2, zb3, zb4, zb5, zb6, zb7, zb8] at hc1
      simp at hc1
     ·
      try simp only [zb1, zb2, zb3, zb4, zb5, zb6, zb7, zb8] at hc1
      refine CJ_skip (blockK_normal (seqK_normal (CJ_region ?_)))
      refine LJ_q (by first | exact yv_add64 rfl rfl (by omega) (by omega) | exact yv_addU rfl rfl (by omega) (by omega) | exact yv_add rfl rfl) rfl ?_
      refine LJ_q (yv_move (show _ = Value.int _ _ from rfl)) rfl ?_
      refine LJ_nil ?_
      exact loopK_mk ⟨j + 1, by omega⟩ (by repeat (first | exact Off.refl | apply Off.upd rfl | apply Off.havoc rfl | apply Off.updL rfl | apply Off.left rfl)) (by repeat' (first | exact trivial | refine And.intro rfl ?_)) (by repeat (first | exact zs0 _ | exact zs1 _ | apply zs2 | apply zs3 | apply zs4 | apply zs5)) (allR_self _) (by dsimp only; omega)
  ·
   try simp only [zb1, zb2, zb3, zb4, zb5, zb6, zb7, zb8] at hc0
   refine CJ_exit (seqK_exit (loopK_exit (blockK_exit (seqK_normal (CJ_seq (CJ_region ?_))))))
   refine LJ_call rfl (awake_tri _ _) rfl ?_
   rintro v L' R' ⟨rfl, rfl, rfl⟩
   refine LJ_q (yv_assign (show _ = Value.bool _ from rfl)) rfl ?_
   refine LJ_nil (seqK_normal (CJ_ret ?_))
   refine retK_ret (L' := []) (R' := R) (res1 rfl (rv_tmp (show _ = Value.bool _ from rfl))) ?hp ?hL ?hR
   case hp => exact ⟨rfl, rfl, rfl⟩
   case hL => exact List.nil_sublist _
   case hR => exact fun r hr => (hR1 r (by simp [hr])).mono fun s hs => inR_self (by simp [hs])
end Go.Proofs.Ytimnnhdeicpenaa
