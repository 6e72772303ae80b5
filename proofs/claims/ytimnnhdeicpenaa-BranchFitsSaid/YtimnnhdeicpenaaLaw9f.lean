/-
  Statements about chapter 9: which states fit. By an AI agent; no person has read it.
-/
import Derived.Test.YtimnnhdeicpenaaLaw9b
import Derived.Test.YtimnnhdeicpenaaMades
set_option linter.unusedSimpArgs false
set_option linter.unusedVariables false
namespace Go.Proofs.Ytimnnhdeicpenaa
open Go.Aw Go
set_option maxRecDepth 20000
attribute [local irreducible] CJ LJ DJ Tri YV Gives seqK blockK loopK retK RV mergeK OwL.L

theorem CJ_fitsY {P n code t L R} {Q : TPost} {b : Nat} {T TI : TypeId} {o1 o2 : Ow} {l1 l1' l2 l2' : List Int} (h1 : (⟨o1, l1'⟩ : OwL Int).ok 1 icell) (h2 : (⟨o2, l2'⟩ : OwL Int).ok 1 icell) (e1 : l1'.length = l1.length) (e2 : l2'.length = l2.length)
    (h : ∀ (y : XState) (R' : List Sl), (∀ r ∈ R, InR r R') → StateR y R' → CJ P n code t (⟨b, y.cells, T⟩ :: L) R' Q) :
    CJ P n code t (⟨b, [(⟨o1, l1⟩ : OwL Int).val, (⟨o2, l2⟩ : OwL Int).val], T⟩ :: ((⟨o2, l2'⟩ : OwL Int).L TI icell ++ ((⟨o1, l1'⟩ : OwL Int).L TI icell ++ L))) R Q := by
  have v1 : (⟨o1, l1⟩ : OwL Int).val = (⟨o1, l1'⟩ : OwL Int).val := by simp only [OwL.val, e1]
  have v2 : (⟨o2, l2⟩ : OwL Int).val = (⟨o2, l2'⟩ : OwL Int).val := by simp only [OwL.val, e2]
  rw [v1, v2]
  refine CJ_frz1 (A := [_]) (wd := 1) [] (fun _ => rfl) (by decide) h2 (fun s hs => by cases hs) ?_
  refine CJ_frz1 (A := [_]) (wd := 1) [] (fun _ => rfl) (by decide) h1 (fun s hs => by cases hs) ?_
  exact h ⟨(⟨o1, l1'⟩ : OwL Int).arr, (⟨o2, l2'⟩ : OwL Int).arr⟩ _ (fun r hr => inR_self (by simp [hr])) ⟨inR_self (.head _), inR_self (.tail _ (.head _))⟩

theorem branchFits_law (y : Arr Int) (raw : XState) (at_ by_ : Int) (R : List Sl) (hy : CodesR y R) (hraw : StateR raw R) (h1 : I64 at_) (h4 : I64 by_) :
    Tri Try.prog 6 [y.val, raw.val, .int .i64 at_, .int .i64 by_].toArray [] R (fun v L' R' => v = .bool true ∧ [] = L' ∧ R = R') := by
  refine tri_enter 94 Try.call6 Try.func6 rfl rfl rfl ?_
  refine CJ_seq (CJ_region ?_)
  refine LJ_boxN rfl rfl ?_
  intro b5
  refine LJ_q (yv_assign (show _ = Value.bool _ from rfl)) rfl ?_
  refine LJ_nil (seqK_normal (CJ_seq (CJ_region ?_)))
  refine LJ_q (yv_move (show _ = Value.slice _ _ _ from rfl)) rfl ?_
  refine LJ_call rfl (new_tri y _ _ hy) rfl ?_
  rintro v L' R' ⟨c, rfl, hx, rfl, rfl⟩
  refine LJ_call rfl (made1 (.consL (.consB .nil)) hx (Nat.zero_le _)) rfl ?_
  rintro v L' R' ⟨m, k1, S, rfl, hm, hMA, hif, hid, hk1, rfl, rfl⟩
  simp only [List.append_assoc, List.cons_append, List.nil_append]
  refine LJ_q (yv_move rfl) rfl ?_
  refine LJ_q (yv_extract rfl rfl) rfl ?_
  refine LJ_q (yv_extract rfl rfl) rfl ?_
  refine LJ_q (yv_extract rfl rfl) rfl ?_
  refine LJ_alloc tb rfl rfl ?_
  intro b9
  refine LJ_alloc tb rfl rfl ?_
  intro b10
  refine LJ_alloc tb rfl rfl ?_
  intro b11
  refine LJ_storeW tb rfl rfl rfl rfl (by repeat (first | apply zu0 | apply zu1 | apply zu2)) (by rfl) (by rfl) ?_
  refine LJ_storeW tb rfl rfl rfl rfl (by repeat (first | apply zu0 | apply zu1 | apply zu2)) (by rfl) (by rfl) ?_
  refine LJ_storeW tb rfl rfl rfl rfl (by repeat (first | apply zu0 | apply zu1 | apply zu2)) (by rfl) (by rfl) ?_
  refine LJ_nil (seqK_normal (CJ_seq (CJ_seq ?_)))
  refine CJ_made (A := [_]) hm hMA (fun f hf => (hif f hf).mono fun r hr => inR_self (by simp [hr])) (fun f hf => (hid f hf).mono fun r hr => inR_self (by simp [hr])) fun a s x R1 hMA hA hT hX hR1 => ?_
  refine CJ_L (by simp only [List.cons_append, List.nil_append]; rfl) ?_
  obtain ⟨_, hae, hff, hri, hfo⟩ := hMA.b
  have hplen := hff.plen
  have hflen := hff.flen
  have hnr := hMA.nroads
  have hnp := hMA.nplaces
  have hxp := hX.pres
  have hxf := hX.flows
  have hraw1 : StateR raw R1 := stateR_mono hraw fun r hr => hR1 r (by simp [hr])
  refine CJ_region ?_
  refine LJ_q (yv_loadN (row := [_, _, _, _]) tb rfl rfl rfl (by repeat (first | exact zi0 | apply zi1 | apply zi2)) (by rfl) (by rfl)) rfl ?_
  refine LJ_q (yv_loadN (row := [_, _]) tb rfl rfl rfl (by repeat (first | exact zi0 | apply zi1 | apply zi2)) (by rfl) (by rfl)) rfl ?_
  refine LJ_q (yv_loadN (row := [_, _]) tb rfl rfl rfl (by repeat (first | exact zi0 | apply zi1 | apply zi2)) (by rfl) (by rfl)) rfl ?_
  refine LJ_call rfl (branchFits_tri a s x _ _ hA hT hX) rfl ?_
  rintro v L' R' ⟨rfl, rfl, rfl⟩
  refine LJ_q (yv_neq rfl rfl) rfl ?_
  refine LJ_nil (seqK_normal ?_)
  refine CJ_cond (show _ = Value.bool _ from rfl) (fun hc0 => ?_) (fun hc0 => ?_)
  ·
   try simp only [zb1, zb2, zb3, zb4, zb5, zb6, zb7, zb8] at hc0
   (exfalso; exact hc0 hMA.fits)
  ·
   try simp only [zb1, zb2, zb3, zb4, zb5, zb6, zb7, zb8] at hc0
   refine CJ_skip (seqK_normal (CJ_seq ?_))
   refine CJ_drawn tb [0, 1, 3, 4, 2, 5, 6, 7, 8] ([Blk.mk b11 _ _]) mixed (by kernel_rfl) (by repeat (first | exact zs0 _ | exact zs1 _ | apply zs2 | apply zs3 | apply zs4 | apply zs5)) ?_
   refine DJ_q (yv_field tb rfl rfl rfl) rfl rfl rfl ?_
   refine DJ_q (yv_load1 tb rfl rfl rfl (by repeat (first | exact zi0 | apply zi1 | apply zi2)) (by rfl)) rfl rfl rfl ?_
   refine DJ_q (yv_field tb rfl rfl rfl) rfl rfl rfl ?_
   refine DJ_q (yv_load1 tb rfl rfl rfl (by repeat (first | exact zi0 | apply zi1 | apply zi2)) (by rfl)) rfl rfl rfl ?_
   refine DJ_g (gives_copy (f := icell) (xs := x.pres) tb rfl rfl rfl (by decide) rfl rfl (hxp) (fun _ => rfl) (by omega)) rfl rfl rfl ?_
   rintro v L' R' ⟨o28, rfl, hok28, rfl, rfl⟩
   refine ⟨(by repeat (first | exact zs0 _ | exact zs1 _ | apply zs2 | apply zs3 | apply zs4 | apply zs5)), allR_self _, ?_⟩
   refine DJ_g (gives_copy (f := icell) (xs := x.flows) tb rfl rfl rfl (by decide) rfl rfl (hxf) (fun _ => rfl) (by omega)) rfl rfl rfl ?_
   rintro v L' R' ⟨o31, rfl, hok31, rfl, rfl⟩
   refine ⟨(by repeat (first | exact zs0 _ | exact zs1 _ | apply zs2 | apply zs3 | apply zs4 | apply zs5)), allR_self _, ?_⟩
   refine DJ_q (yv_build (qs := [(0, (Value.slice _ _ _).cells.toList), (1, (Value.slice _ _ _).cells.toList)]) (out := [_, _]) tb rfl rfl rfl rfl) rfl rfl rfl ?_
   refine DJ_alloc rfl rfl ?_
   intro b12
   refine DJ_storeW rfl rfl rfl rfl (by repeat (first | apply zu0 | apply zu1 | apply zu2)) (by rfl) (by rfl) (by repeat (first | exact zs0 _ | exact zs1 _ | apply zs2 | apply zs3 | apply zs4 | apply zs5)) ?_
   refine DJ_nil (seqK_normal (CJ_seq (CJ_region ?_)))
   refine LJ_q (yv_move (show _ = Value.int _ _ from rfl)) rfl ?_
   refine LJ_q (yv_field tb rfl rfl rfl) rfl ?_
   refine LJ_q (yv_load1 tb rfl rfl rfl (by repeat (first | exact zi0 | apply zi1 | apply zi2)) (by rfl)) rfl ?_
   refine LJ_q (yv_len tb rfl rfl rfl) rfl ?_
   refine LJ_q (yv_field tb rfl rfl rfl) rfl ?_
   refine LJ_q (yv_load1 tb rfl rfl rfl (by repeat (first | exact zi0 | apply zi1 | apply zi2)) (by rfl)) rfl ?_
   refine LJ_q (yv_len tb rfl rfl rfl) rfl ?_
   refine LJ_q (yv_add64 rfl rfl (by dsimp only; omega) (by dsimp only; omega)) rfl ?_
   refine LJ_call rfl (mod_tri _ _ _ _ h1 (by dsimp only; omega)) rfl ?_
   rintro v L' R' ⟨rfl, rfl, rfl⟩
   refine LJ_q (yv_assign (show _ = Value.int _ _ from rfl)) rfl ?_
   refine LJ_nil (seqK_normal (CJ_seq (CJ_seq ?_)))
   dsimp only
   have hkb := modS_bounds (k := at_) (n := (x.pres.l.length : Int) + (x.flows.l.length : Int)) (by omega)
   obtain ⟨kk, hkk⟩ : ∃ kk, kk = modS at_ ((x.pres.l.length : Int) + (x.flows.l.length : Int)) := ⟨_, rfl⟩
   rw [← hkk] at hkb ⊢
   refine CJ_region ?_
   refine LJ_q (yv_move (show _ = Value.int _ _ from rfl)) rfl ?_
   refine LJ_q (yv_field tb rfl rfl rfl) rfl ?_
   refine LJ_q (yv_load1 tb rfl rfl rfl (by repeat (first | exact zi0 | apply zi1 | apply zi2)) (by rfl)) rfl ?_
   refine LJ_q (yv_len tb rfl rfl rfl) rfl ?_
   refine LJ_q (yv_lss rfl rfl) rfl ?_
   refine LJ_nil (seqK_normal ?_)
   refine CJ_cond (show _ = Value.bool _ from rfl) (fun hc1 => ?_) (fun hc1 => ?_)
   ·
    try simp only [zb1, zb2, zb3, zb4, zb5, zb6, zb7, zb8] at hc1
    have hpk := get_D (l := x.pres.l) (k := kk.toNat) 0 (by omega)
    have hpb := hff.pres _ (List.mem_of_getElem? hpk)
    have hmb := modS_bounds (k := by_) (n := 200) (by omega)
    refine CJ_drawn2 tb [] [0, 1, 2, 3, 4, 5, 6, 7, 8, 9] [10] (_) _ mixed (by kernel_rfl) (by repeat (first | exact zs0 _ | exact zs1 _ | apply zs2 | apply zs3 | apply zs4 | apply zs5)) (List.nil_sublist _) ?_
    refine DJ3_q (yv_field tb rfl rfl rfl) rfl rfl rfl rfl ?_
    refine DJ3_q (yv_load1 tb rfl rfl rfl (by repeat (first | exact zi0 | apply zi1 | apply zi2)) (by rfl)) rfl rfl rfl rfl ?_
    refine DJ3_q (yv_move (show _ = Value.int _ _ from rfl)) rfl rfl rfl rfl ?_
    refine DJ3_q (yv_index_ow tb ((⟨o28, x.pres.l⟩ : OwL Int)) _ rfl rfl rfl rfl (by assumption) (i := kk.toNat) (by first | rfl | omega | (simp; omega)) (by first | omega | (dsimp only; omega) | (dsimp only; rw [List.length_set]; omega))) rfl rfl rfl rfl ?_
    refine DJ3_q (yv_load1_ow tb ((⟨o28, x.pres.l⟩ : OwL Int)) rfl rfl rfl (by repeat (first | apply OSeg.cons | exact OSeg.here | exact OSeg.last | exact OSeg.at (by assumption) | apply OSeg.app)) (by assumption) (fun _ => rfl) (by assumption) (by rfl)) rfl rfl rfl rfl ?_
    refine DJ3_q (yv_move (show _ = Value.int _ _ from rfl)) rfl rfl rfl rfl ?_
    refine DJ3_call rfl (mod_tri _ _ _ _ h4 (by omega)) rfl rfl ?_
    rintro v L' R' ⟨rfl, rfl, rfl⟩
    refine ⟨(by repeat (first | exact zs0 _ | exact zs1 _ | apply zs2 | apply zs3 | apply zs4 | apply zs5)), (by first | exact allR_self _ | exact (fun r h => inR_self (by simp [h]))), ?_⟩
    refine DJ3_q (by first | exact yv_sub64 rfl rfl (by omega) (by omega) | exact yv_sub rfl rfl) rfl rfl rfl rfl ?_
    refine DJ3_q (by first | exact yv_add64 rfl rfl (by omega) (by omega) | exact yv_addU rfl rfl (by omega) (by omega) | exact yv_add rfl rfl) rfl rfl rfl rfl ?_
    refine DJ3_q (yv_index_ow tb ((⟨o28, x.pres.l⟩ : OwL Int)) _ rfl rfl rfl rfl (by assumption) (i := kk.toNat) (by first | rfl | omega | (simp; omega)) (by first | omega | (dsimp only; omega) | (dsimp only; rw [List.length_set]; omega))) rfl rfl rfl rfl ?_
    refine DJ3_phase ?_
    refine DJ_g0 (gives_store1_ow tb ((⟨o28, x.pres.l⟩ : OwL Int)) ((x.pres.l.getD kk.toNat 0 + (modS by_ 200 - 100))) rfl rfl rfl rfl (by repeat (first | apply OSeg.cons | exact OSeg.here | exact OSeg.last | exact OSeg.at (by assumption) | apply OSeg.app)) (by assumption) (fun _ => rfl) (by assumption) (by decide) (by rfl) (by rfl)) rfl rfl ?_
    rintro v L' R' ⟨rfl, rfl⟩
    refine ⟨(by repeat (first | exact zs0 _ | exact zs1 _ | apply zs2 | apply zs3 | apply zs4 | apply zs5)), allR_self _, ?_⟩
    refine DJ_nil (seqK_normal (CJ_seq ?_))
    refine CJ_fitsY (OwL.len_ok icell_len hok28 (by simp)) (OwL.len_ok icell_len hok31 (by simp)) (by simp) (by simp) fun y2 R2 hR2 hY => ?_
    have hA2 := airR_mono hA hR2
    have hT2 := setR_mono hT hR2
    have hraw2 := stateR_mono hraw1 hR2
    refine CJ_drawn tb [0, 1, 2, 4, 5, 6, 3, 7, 8, 9, 10, 11, 12, 14, 15, 16, 13, 17, 18, 19, 20, 21, 22, 23] _ mixed (by kernel_rfl) (List.Sublist.refl _) ?_
    refine DJ_q (yv_loadN (row := [_, _, _, _]) tb rfl rfl rfl (by repeat (first | exact zi0 | apply zi1 | apply zi2)) (by rfl) (by rfl)) rfl rfl rfl ?_
    refine DJ_q (yv_loadN (row := [_, _]) tb rfl rfl rfl (by repeat (first | exact zi0 | apply zi1 | apply zi2)) (by rfl) (by rfl)) rfl rfl rfl ?_
    refine DJ_q (yv_loadN (row := [_, _]) tb rfl rfl rfl (by repeat (first | exact zi0 | apply zi1 | apply zi2)) (by rfl) (by rfl)) rfl rfl rfl ?_
    refine DJ_q (yv_loadN (row := [_, _, _, _]) tb rfl rfl rfl (by repeat (first | exact zi0 | apply zi1 | apply zi2)) (by rfl) (by rfl)) rfl rfl rfl ?_
    refine DJ_q (yv_loadN (row := [_, _]) tb rfl rfl rfl (by repeat (first | exact zi0 | apply zi1 | apply zi2)) (by rfl) (by rfl)) rfl rfl rfl ?_
    refine DJ_q (yv_loadN (row := [_, _]) tb rfl rfl rfl (by repeat (first | exact zi0 | apply zi1 | apply zi2)) (by rfl) (by rfl)) rfl rfl rfl ?_
    refine DJ_call rfl (branchFits_tri a s y2 _ _ hA2 hT2 hY) rfl rfl ?_
    rintro v L' R' ⟨rfl, rfl, rfl⟩
    refine ⟨(by repeat (first | exact zs0 _ | exact zs1 _ | apply zs2 | apply zs3 | apply zs4 | apply zs5)), (by first | exact allR_self _ | exact (fun r h => inR_self (by simp [h]))), ?_⟩
    refine DJ_call rfl (ref09Fits_tri a s y2 _ _ hA2 hT2 hY) rfl rfl ?_
    rintro v L' R' ⟨rfl, rfl, rfl⟩
    refine ⟨(by repeat (first | exact zs0 _ | exact zs1 _ | apply zs2 | apply zs3 | apply zs4 | apply zs5)), (by first | exact allR_self _ | exact (fun r h => inR_self (by simp [h]))), ?_⟩
    refine DJ_q (yv_eql rfl rfl) rfl rfl rfl ?_
    refine DJ_q (yv_move (show _ = Value.bool _ from rfl)) rfl rfl rfl ?_
    refine DJ_case (k := 80) (show _ = Value.bool _ from rfl) (fun hg9 => ?_) (fun hg9 => ?_)
    ·
     try simp only [zb1, zb2, zb3, zb4, zb5, zb6, zb7, zb8] at hg9
     refine DJ_q (yv_loadN (row := [_, _, _, _]) tb rfl rfl rfl (by repeat (first | exact zi0 | apply zi1 | apply zi2)) (by rfl) (by rfl)) rfl rfl rfl ?_
     refine DJ_q (yv_loadN (row := [_, _]) tb rfl rfl rfl (by repeat (first | exact zi0 | apply zi1 | apply zi2)) (by rfl) (by rfl)) rfl rfl rfl ?_
     refine DJ_q (yv_loadN (row := [_, _]) tb rfl rfl rfl (by repeat (first | exact zi0 | apply zi1 | apply zi2)) (by rfl) (by rfl)) rfl rfl rfl ?_
     refine DJ_q (yv_loadN (row := [_, _, _, _]) tb rfl rfl rfl (by repeat (first | exact zi0 | apply zi1 | apply zi2)) (by rfl) (by rfl)) rfl rfl rfl ?_
     refine DJ_q (yv_loadN (row := [_, _]) tb rfl rfl rfl (by repeat (first | exact zi0 | apply zi1 | apply zi2)) (by rfl) (by rfl)) rfl rfl rfl ?_
     refine DJ_q (yv_loadN (row := [_, _]) tb rfl rfl rfl (by repeat (first | exact zi0 | apply zi1 | apply zi2)) (by rfl) (by rfl)) rfl rfl rfl ?_
     refine DJ_call rfl (branchFits_tri a s raw _ _ hA2 hT2 hraw2) rfl rfl ?_
     rintro v L' R' ⟨rfl, rfl, rfl⟩
     refine ⟨(by repeat (first | exact zs0 _ | exact zs1 _ | apply zs2 | apply zs3 | apply zs4 | apply zs5)), (by first | exact allR_self _ | exact (fun r h => inR_self (by simp [h]))), ?_⟩
     refine DJ_call rfl (ref09Fits_tri a s raw _ _ hA2 hT2 hraw2) rfl rfl ?_
     rintro v L' R' ⟨rfl, rfl, rfl⟩
     refine ⟨(by repeat (first | exact zs0 _ | exact zs1 _ | apply zs2 | apply zs3 | apply zs4 | apply zs5)), (by first | exact allR_self _ | exact (fun r h => inR_self (by simp [h]))), ?_⟩
     refine DJ_q (yv_eql rfl rfl) rfl rfl rfl ?_
     refine DJ_q (by first | exact yv_pick_true rfl rfl | exact yv_pick_false rfl rfl | exact yv_pick rfl) rfl rfl rfl ?_
     refine DJ_q (yv_move (show _ = Value.bool _ from rfl)) rfl rfl rfl ?_
     refine DJ_case (k := 91) (show _ = Value.bool _ from rfl) (fun hg20 => ?_) (fun hg20 => ?_)
     ·
      try simp only [zb1, zb2, zb3, zb4, zb5, zb6, zb7, zb8] at hg20
      refine DJ_call rfl (awake_tri _ _) rfl rfl ?_
      rintro v L' R' ⟨rfl, rfl, rfl⟩
      refine ⟨(by repeat (first | exact zs0 _ | exact zs1 _ | apply zs2 | apply zs3 | apply zs4 | apply zs5)), (by first | exact allR_self _ | exact (fun r h => inR_self (by simp [h]))), ?_⟩
      refine DJ_q (by first | exact yv_pick_true rfl rfl | exact yv_pick_false rfl rfl | exact yv_pick rfl) rfl rfl rfl ?_
      refine DJ_q (yv_assign (show _ = Value.bool _ from rfl)) rfl rfl rfl ?_
      refine DJ_nil (seqK_normal (CJ_ret ?_))
      refine retK_ret (L' := []) (R' := R) (res1 rfl (rv_tmp (show _ = Value.bool _ from rfl))) ?hp ?hL ?hR
      case hp => exact ⟨rfl, rfl, rfl⟩
      case hL => exact List.nil_sublist _
      case hR => exact fun r hr => ((hR1 r (by simp [hr])).mono hR2).mono fun s hs => inR_self (by simp [hs])
     ·
      try simp only [zb1, zb2, zb3, zb4, zb5, zb6, zb7, zb8] at hg20
      simp at hg20
    ·
     try simp only [zb1, zb2, zb3, zb4, zb5, zb6, zb7, zb8] at hg9
     simp at hg9
   ·
    try simp only [zb1, zb2, zb3, zb4, zb5, zb6, zb7, zb8] at hc1
    have hpk := get_D (l := x.flows.l) (k := (kk - (x.pres.l.length : Int)).toNat) 0 (by omega)
    have hpb := hff.flow _ (List.mem_of_getElem? hpk)
    have hmb := modS_bounds (k := by_) (n := 5) (by omega)
    refine CJ_drawn2 tb [] [0, 1, 2, 3, 4, 5, 6, 7, 8, 9, 10, 11, 12, 13] [14] (_) _ mixed (by kernel_rfl) (by repeat (first | exact zs0 _ | exact zs1 _ | apply zs2 | apply zs3 | apply zs4 | apply zs5)) (List.nil_sublist _) ?_
    refine DJ3_q (yv_field tb rfl rfl rfl) rfl rfl rfl rfl ?_
    refine DJ3_q (yv_load1 tb rfl rfl rfl (by repeat (first | exact zi0 | apply zi1 | apply zi2)) (by rfl)) rfl rfl rfl rfl ?_
    refine DJ3_q (yv_move (show _ = Value.int _ _ from rfl)) rfl rfl rfl rfl ?_
    refine DJ3_q (yv_field tb rfl rfl rfl) rfl rfl rfl rfl ?_
    refine DJ3_q (yv_load1 tb rfl rfl rfl (by repeat (first | exact zi0 | apply zi1 | apply zi2)) (by rfl)) rfl rfl rfl rfl ?_
    refine DJ3_q (yv_len tb rfl rfl rfl) rfl rfl rfl rfl ?_
    refine DJ3_q (by first | exact yv_sub64 rfl rfl (by omega) (by omega) | exact yv_sub rfl rfl) rfl rfl rfl rfl ?_
    refine DJ3_q (yv_index_ow tb ((⟨o31, x.flows.l⟩ : OwL Int)) _ rfl rfl rfl rfl (by assumption) (i := (kk - (x.pres.l.length : Int)).toNat) (by first | rfl | omega | (simp; omega)) (by first | omega | (dsimp only; omega) | (dsimp only; rw [List.length_set]; omega))) rfl rfl rfl rfl ?_
    refine DJ3_q (yv_load1_ow tb ((⟨o31, x.flows.l⟩ : OwL Int)) rfl rfl rfl (by repeat (first | apply OSeg.cons | exact OSeg.here | exact OSeg.last | exact OSeg.at (by assumption) | apply OSeg.app)) (by assumption) (fun _ => rfl) (by assumption) (by rfl)) rfl rfl rfl rfl ?_
    refine DJ3_q (yv_move (show _ = Value.int _ _ from rfl)) rfl rfl rfl rfl ?_
    refine DJ3_call rfl (mod_tri _ _ _ _ h4 (by omega)) rfl rfl ?_
    rintro v L' R' ⟨rfl, rfl, rfl⟩
    refine ⟨(by repeat (first | exact zs0 _ | exact zs1 _ | apply zs2 | apply zs3 | apply zs4 | apply zs5)), (by first | exact allR_self _ | exact (fun r h => inR_self (by simp [h]))), ?_⟩
    refine DJ3_q (by first | exact yv_sub64 rfl rfl (by omega) (by omega) | exact yv_sub rfl rfl) rfl rfl rfl rfl ?_
    refine DJ3_q (by first | exact yv_add64 rfl rfl (by omega) (by omega) | exact yv_addU rfl rfl (by omega) (by omega) | exact yv_add rfl rfl) rfl rfl rfl rfl ?_
    refine DJ3_q (yv_index_ow tb ((⟨o31, x.flows.l⟩ : OwL Int)) _ rfl rfl rfl rfl (by assumption) (i := (kk - (x.pres.l.length : Int)).toNat) (by first | rfl | omega | (simp; omega)) (by first | omega | (dsimp only; omega) | (dsimp only; rw [List.length_set]; omega))) rfl rfl rfl rfl ?_
    refine DJ3_phase ?_
    refine DJ_g0 (gives_store1_ow tb ((⟨o31, x.flows.l⟩ : OwL Int)) ((x.flows.l.getD (kk - (x.pres.l.length : Int)).toNat 0 + (modS by_ 5 - 2))) rfl rfl rfl rfl (by repeat (first | apply OSeg.cons | exact OSeg.here | exact OSeg.last | exact OSeg.at (by assumption) | apply OSeg.app)) (by assumption) (fun _ => rfl) (by assumption) (by decide) (by rfl) (by rfl)) rfl rfl ?_
    rintro v L' R' ⟨rfl, rfl⟩
    refine ⟨(by repeat (first | exact zs0 _ | exact zs1 _ | apply zs2 | apply zs3 | apply zs4 | apply zs5)), allR_self _, ?_⟩
    refine DJ_nil (seqK_normal (CJ_seq ?_))
    refine CJ_fitsY (OwL.len_ok icell_len hok28 (by simp)) (OwL.len_ok icell_len hok31 (by simp)) (by simp) (by simp) fun y2 R2 hR2 hY => ?_
    have hA2 := airR_mono hA hR2
    have hT2 := setR_mono hT hR2
    have hraw2 := stateR_mono hraw1 hR2
    refine CJ_drawn tb [0, 1, 2, 4, 5, 6, 3, 7, 8, 9, 10, 11, 12, 14, 15, 16, 13, 17, 18, 19, 20, 21, 22, 23] _ mixed (by kernel_rfl) (List.Sublist.refl _) ?_
    refine DJ_q (yv_loadN (row := [_, _, _, _]) tb rfl rfl rfl (by repeat (first | exact zi0 | apply zi1 | apply zi2)) (by rfl) (by rfl)) rfl rfl rfl ?_
    refine DJ_q (yv_loadN (row := [_, _]) tb rfl rfl rfl (by repeat (first | exact zi0 | apply zi1 | apply zi2)) (by rfl) (by rfl)) rfl rfl rfl ?_
    refine DJ_q (yv_loadN (row := [_, _]) tb rfl rfl rfl (by repeat (first | exact zi0 | apply zi1 | apply zi2)) (by rfl) (by rfl)) rfl rfl rfl ?_
    refine DJ_q (yv_loadN (row := [_, _, _, _]) tb rfl rfl rfl (by repeat (first | exact zi0 | apply zi1 | apply zi2)) (by rfl) (by rfl)) rfl rfl rfl ?_
    refine DJ_q (yv_loadN (row := [_, _]) tb rfl rfl rfl (by repeat (first | exact zi0 | apply zi1 | apply zi2)) (by rfl) (by rfl)) rfl rfl rfl ?_
    refine DJ_q (yv_loadN (row := [_, _]) tb rfl rfl rfl (by repeat (first | exact zi0 | apply zi1 | apply zi2)) (by rfl) (by rfl)) rfl rfl rfl ?_
    refine DJ_call rfl (branchFits_tri a s y2 _ _ hA2 hT2 hY) rfl rfl ?_
    rintro v L' R' ⟨rfl, rfl, rfl⟩
    refine ⟨(by repeat (first | exact zs0 _ | exact zs1 _ | apply zs2 | apply zs3 | apply zs4 | apply zs5)), (by first | exact allR_self _ | exact (fun r h => inR_self (by simp [h]))), ?_⟩
    refine DJ_call rfl (ref09Fits_tri a s y2 _ _ hA2 hT2 hY) rfl rfl ?_
    rintro v L' R' ⟨rfl, rfl, rfl⟩
    refine ⟨(by repeat (first | exact zs0 _ | exact zs1 _ | apply zs2 | apply zs3 | apply zs4 | apply zs5)), (by first | exact allR_self _ | exact (fun r h => inR_self (by simp [h]))), ?_⟩
    refine DJ_q (yv_eql rfl rfl) rfl rfl rfl ?_
    refine DJ_q (yv_move (show _ = Value.bool _ from rfl)) rfl rfl rfl ?_
    refine DJ_case (k := 80) (show _ = Value.bool _ from rfl) (fun hg9 => ?_) (fun hg9 => ?_)
    ·
     try simp only [zb1, zb2, zb3, zb4, zb5, zb6, zb7, zb8] at hg9
     refine DJ_q (yv_loadN (row := [_, _, _, _]) tb rfl rfl rfl (by repeat (first | exact zi0 | apply zi1 | apply zi2)) (by rfl) (by rfl)) rfl rfl rfl ?_
     refine DJ_q (yv_loadN (row := [_, _]) tb rfl rfl rfl (by repeat (first | exact zi0 | apply zi1 | apply zi2)) (by rfl) (by rfl)) rfl rfl rfl ?_
     refine DJ_q (yv_loadN (row := [_, _]) tb rfl rfl rfl (by repeat (first | exact zi0 | apply zi1 | apply zi2)) (by rfl) (by rfl)) rfl rfl rfl ?_
     refine DJ_q (yv_loadN (row := [_, _, _, _]) tb rfl rfl rfl (by repeat (first | exact zi0 | apply zi1 | apply zi2)) (by rfl) (by rfl)) rfl rfl rfl ?_
     refine DJ_q (yv_loadN (row := [_, _]) tb rfl rfl rfl (by repeat (first | exact zi0 | apply zi1 | apply zi2)) (by rfl) (by rfl)) rfl rfl rfl ?_
     refine DJ_q (yv_loadN (row := [_, _]) tb rfl rfl rfl (by repeat (first | exact zi0 | apply zi1 | apply zi2)) (by rfl) (by rfl)) rfl rfl rfl ?_
     refine DJ_call rfl (branchFits_tri a s raw _ _ hA2 hT2 hraw2) rfl rfl ?_
     rintro v L' R' ⟨rfl, rfl, rfl⟩
     refine ⟨(by repeat (first | exact zs0 _ | exact zs1 _ | apply zs2 | apply zs3 | apply zs4 | apply zs5)), (by first | exact allR_self _ | exact (fun r h => inR_self (by simp [h]))), ?_⟩
     refine DJ_call rfl (ref09Fits_tri a s raw _ _ hA2 hT2 hraw2) rfl rfl ?_
     rintro v L' R' ⟨rfl, rfl, rfl⟩
     refine ⟨(by repeat (first | exact zs0 _ | exact zs1 _ | apply zs2 | apply zs3 | apply zs4 | apply zs5)), (by first | exact allR_self _ | exact (fun r h => inR_self (by simp [h]))), ?_⟩
     refine DJ_q (yv_eql rfl rfl) rfl rfl rfl ?_
     refine DJ_q (by first | exact yv_pick_true rfl rfl | exact yv_pick_false rfl rfl | exact yv_pick rfl) rfl rfl rfl ?_
     refine DJ_q (yv_move (show _ = Value.bool _ from rfl)) rfl rfl rfl ?_
     refine DJ_case (k := 91) (show _ = Value.bool _ from rfl) (fun hg20 => ?_) (fun hg20 => ?_)
     ·
      try simp only [zb1, zb2, zb3, zb4, zb5, zb6, zb7, zb8] at hg20
      refine DJ_call rfl (awake_tri _ _) rfl rfl ?_
      rintro v L' R' ⟨rfl, rfl, rfl⟩
      refine ⟨(by repeat (first | exact zs0 _ | exact zs1 _ | apply zs2 | apply zs3 | apply zs4 | apply zs5)), (by first | exact allR_self _ | exact (fun r h => inR_self (by simp [h]))), ?_⟩
      refine DJ_q (by first | exact yv_pick_true rfl rfl | exact yv_pick_false rfl rfl | exact yv_pick rfl) rfl rfl rfl ?_
      refine DJ_q (yv_assign (show _ = Value.bool _ from rfl)) rfl rfl rfl ?_
      refine DJ_nil (seqK_normal (CJ_ret ?_))
      refine retK_ret (L' := []) (R' := R) (res1 rfl (rv_tmp (show _ = Value.bool _ from rfl))) ?hp ?hL ?hR
      case hp => exact ⟨rfl, rfl, rfl⟩
      case hL => exact List.nil_sublist _
      case hR => exact fun r hr => ((hR1 r (by simp [hr])).mono hR2).mono fun s hs => inR_self (by simp [hs])
     ·
      try simp only [zb1, zb2, zb3, zb4, zb5, zb6, zb7, zb8] at hg20
      simp at hg20
    ·
     try simp only [zb1, zb2, zb3, zb4, zb5, zb6, zb7, zb8] at hg9
     simp at hg9
end Go.Proofs.Ytimnnhdeicpenaa
