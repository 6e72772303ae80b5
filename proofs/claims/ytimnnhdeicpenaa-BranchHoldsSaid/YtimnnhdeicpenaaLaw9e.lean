/-
  Statements about chapter 9: what holds. By an AI agent; no person has read it.
-/
import Derived.Test.YtimnnhdeicpenaaLaw9b
import Derived.Test.YtimnnhdeicpenaaFitsF
set_option linter.unusedSimpArgs false
set_option linter.unusedVariables false
namespace Go.Proofs.Ytimnnhdeicpenaa
open Go.Aw Go
set_option maxRecDepth 20000
attribute [local irreducible] CJ LJ DJ Tri YV Gives seqK blockK loopK retK RV mergeK OwL.L

theorem branchHolds_tri (y : Arr Int) (road pr : Int) (R : List Sl) (hy : CodesR y R) (h1 : I64 road) (h4 : I64 pr) :
    Tri Try.prog 8 [y.val, .int .i64 road, .int .i64 pr].toArray [] R (fun v L' R' => v = .bool true ∧ [] = L' ∧ R = R') := by
  refine tri_enter 143 Try.call8 Try.func8 rfl rfl rfl ?_
  refine CJ_seq (CJ_region ?_)
  refine LJ_q (yv_assign (show _ = Value.bool _ from rfl)) rfl ?_
  refine LJ_nil (seqK_normal (CJ_seq (CJ_region ?_)))
  refine LJ_q (yv_move (show _ = Value.slice _ _ _ from rfl)) rfl ?_
  refine LJ_call rfl (new_tri y _ _ hy) rfl ?_
  rintro v L' R' ⟨c, rfl, hx, rfl, rfl⟩
  refine LJ_call rfl (made1 (.consL .nil) hx (Nat.zero_le _)) rfl ?_
  rintro v L' R' ⟨m, k1, S, rfl, hm, hMA, hif, hid, hk1, rfl, rfl⟩
  simp only [List.append_assoc, List.cons_append, List.nil_append]
  refine LJ_q (yv_move rfl) rfl ?_
  refine LJ_q (yv_extract rfl rfl) rfl ?_
  refine LJ_q (yv_extract rfl rfl) rfl ?_
  refine LJ_q (yv_extract rfl rfl) rfl ?_
  refine LJ_alloc tb rfl rfl ?_
  intro b7
  refine LJ_alloc tb rfl rfl ?_
  intro b8
  refine LJ_alloc tb rfl rfl ?_
  intro b9
  refine LJ_storeW tb rfl rfl rfl rfl (by repeat (first | apply zu0 | apply zu1 | apply zu2)) (by rfl) (by rfl) ?_
  refine LJ_storeW tb rfl rfl rfl rfl (by repeat (first | apply zu0 | apply zu1 | apply zu2)) (by rfl) (by rfl) ?_
  refine LJ_storeW tb rfl rfl rfl rfl (by repeat (first | apply zu0 | apply zu1 | apply zu2)) (by rfl) (by rfl) ?_
  refine LJ_nil (seqK_normal (CJ_seq (CJ_seq ?_)))
  have hae := airOk_of hMA.err
  have hff := fitsF_of hMA.err hMA.fit hMA.fits
  have hplen := hff.plen
  have hflen := hff.flen
  have hplen2 : m.pres.arr.l.length = m.a.mine.places.l.length := hff.plen
  have hflen2 : m.flows.arr.l.length = m.a.mine.roads.l.length := hff.flen
  have hnr := hMA.nroads
  have hnp := hMA.nplaces
  have hnr2 : m.roads.arr.l.length ≤ 9 := hMA.nroads
  have hnr3 : m.roads.l.length = m.a.mine.roads.l.length := rfl
  refine CJ_frzMade (A := [_, _, _]) hm (fun f hf => (hif f hf).mono fun r hr => inR_self (by simp [hr])) (fun f hf => (hid f hf).mono fun r hr => inR_self (by simp [hr])) fun R1 hA hT hX hR1 => ?_
  refine CJ_L (by simp only [List.cons_append, List.nil_append]; rfl) ?_
  have hro := hA.roads
  have hxp := hX.pres
  have hxf := hX.flows
  have hrt : rightB m.a m.t = true := rightB_true hMA.err hMA.fit
  refine CJ_region ?_
  refine LJ_q (yv_field tb rfl rfl rfl) rfl ?_
  refine LJ_q (yv_field tb rfl rfl rfl) rfl ?_
  refine LJ_q (yv_load1 tb rfl rfl rfl (by repeat (first | exact zi0 | apply zi1 | apply zi2)) (by rfl)) rfl ?_
  refine LJ_q (yv_len tb rfl rfl rfl) rfl ?_
  refine LJ_q (yv_move (show _ = Value.int _ _ from rfl)) rfl ?_
  refine LJ_nil (seqK_normal (CJ_block ?_))
  refine CJ_forget [(1, Value.int _ _), (2, Value.int _ _), (7, Value.pointer _), (8, Value.pointer _), (9, Value.pointer _), (25, Value.slice _ _ _), (26, Value.int _ _), (27, Value.int _ _)] (by repeat' (first | exact trivial | refine And.intro rfl ?_)) fun tq0 => ?_
  refine CJ_loopS [6, 10, 11, 12, 27, 28, 29, 30, 31, 32, 33, 34, 35, 36, 37, 38, 39, 40, 41, 42, 43, 44, 45, 46, 47, 48, 49, 50, 51, 52, 53, 54, 55, 56, 57, 58, 59, 60, 61, 62, 63, 64, 65, 66, 67] (fun g : {k : Nat // k ≤ m.a.mine.roads.l.length} => [(27, .int .i64 ((g.1 : Nat) : Int))]) (fun g => m.a.mine.roads.l.length - g.1) (⟨0, by omega⟩) (by repeat' (first | exact trivial | refine And.intro rfl ?_)) ?_
  rintro ⟨j, hj⟩ junk
  try dsimp only
  refine CJ_seq (CJ_region ?_)
  refine LJ_q (yv_lss rfl rfl) rfl ?_
  refine LJ_nil (seqK_normal (CJ_seq ?_))
  refine CJ_cond (show _ = Value.bool _ from rfl) (fun hc0 => ?_) (fun hc0 => ?_)
  ·
   try simp only [zb1, zb2, zb3, zb4, zb5, zb6, zb7, zb8] at hc0
   have hrd := get_D (l := m.a.mine.roads.l) (k := j) default (by omega)
   have hrk := hae.mine.road _ _ hrd
   have hr1 := hrk.fr
   have hr2 := hrk.to
   have hpf := get_D (l := m.x.pres.l) (k := (m.a.mine.roads.l.getD j default).fr.toNat) 0 (by omega)
   have hpt := get_D (l := m.x.pres.l) (k := (m.a.mine.roads.l.getD j default).to.toNat) 0 (by omega)
   have hpfb := hff.pres _ (List.mem_of_getElem? hpf)
   have hptb := hff.pres _ (List.mem_of_getElem? hpt)
   have hfl := get_D (l := m.x.flows.l) (k := j) 0 (by omega)
   have hop := openB_eq hrt (r := (j : Int)) (by omega)
   obtain ⟨d, hdd⟩ : ∃ d, d = m.pres.l.getD (m.roads.l.getD j default).fr.toNat 0 - m.pres.l.getD (m.roads.l.getD j default).to.toNat 0 := ⟨_, rfl⟩
   have hins : (flowS m.a m.t (j : Int) d).low ≤ m.flows.l.getD j 0 ∧ m.flows.l.getD j 0 ≤ (flowS m.a m.t (j : Int) d).high := by
     cases hcl : (m.a.mine.roads.l.getD j default).closed with
     | true =>
       rw [flowS_shut (by rw [hop, Int.toNat_natCast, hcl]; rfl)]
       have h0 : m.flows.l.getD j 0 = 0 := hff.shut (by omega) hcl
       rw [h0]
       exact ⟨Int.le_refl _, Int.le_refl _⟩
     | false =>
       rw [flowS_open (by rw [hop, Int.toNat_natCast, hcl]; rfl)]
       exact hff.inside hae (by omega) hcl hdd
   rw [hdd] at hins
   refine CJ_skip (seqK_normal (CJ_seq (CJ_block (CJ_seq (CJ_region ?_)))))
   refine LJ_q (yv_move (show _ = Value.int _ _ from rfl)) rfl ?_
   refine LJ_q (by first | exact yv_index_ro tb rfl rfl rfl rfl (by first | assumption | exact zr (by simp)) rfl (by omega) | exact yv_index tb rfl rfl rfl rfl rfl (by omega)) rfl ?_
   refine LJ_q (by first | exact yv_loadN_ro (row := [_, _, _, _, _, _, _, _, _, _]) tb rfl rfl rfl (by first | assumption | exact zr (by simp)) (by assumption) (by rfl) (by rfl) | exact yv_loadN (row := [_, _, _, _, _, _, _, _, _, _]) tb rfl rfl rfl (by repeat (first | exact zi0 | apply zi1 | apply zi2)) (by rfl) (by rfl)) rfl ?_
   refine LJ_alloc tb rfl rfl ?_
   intro b11
   refine LJ_q (yv_assign (show _ = Value.int _ _ from rfl)) rfl ?_
   refine LJ_storeW tb rfl rfl rfl rfl (by repeat (first | apply zu0 | apply zu1 | apply zu2)) (by rfl) (by rfl) ?_
   refine LJ_nil (seqK_normal (CJ_seq ?_))
   refine CJ_drawn tb [0, 1, 2, 3, 4, 5, 6, 7, 8, 9, 10, 11, 12, 13, 14, 15, 16, 17, 18] _ mixed (by kernel_rfl) (List.Sublist.refl _) ?_
   refine DJ_q (yv_loadN (row := [_, _, _, _]) tb rfl rfl rfl (by repeat (first | exact zi0 | apply zi1 | apply zi2)) (by rfl) (by rfl)) rfl rfl rfl ?_
   refine DJ_q (yv_loadN (row := [_, _]) tb rfl rfl rfl (by repeat (first | exact zi0 | apply zi1 | apply zi2)) (by rfl) (by rfl)) rfl rfl rfl ?_
   refine DJ_q (yv_move (show _ = Value.int _ _ from rfl)) rfl rfl rfl ?_
   refine DJ_q (yv_field tb rfl rfl rfl) rfl rfl rfl ?_
   refine DJ_q (yv_load1 tb rfl rfl rfl (by repeat (first | exact zi0 | apply zi1 | apply zi2)) (by rfl)) rfl rfl rfl ?_
   refine DJ_q (yv_field tb rfl rfl rfl) rfl rfl rfl ?_
   refine DJ_q (yv_load1 tb rfl rfl rfl (by repeat (first | exact zi0 | apply zi1 | apply zi2)) (by rfl)) rfl rfl rfl ?_
   refine DJ_q (by first | exact yv_index_ro tb rfl rfl rfl rfl (by first | assumption | exact zr (by simp)) (i := (m.a.mine.roads.l.getD j default).fr.toNat) (by first | rfl | omega | (simp; omega)) (by omega) | exact yv_index tb rfl rfl rfl rfl (i := (m.a.mine.roads.l.getD j default).fr.toNat) (by first | rfl | omega | (simp; omega)) (by omega)) rfl rfl rfl ?_
   refine DJ_q (by first | exact yv_load1_ro tb rfl rfl rfl (by first | assumption | exact zr (by simp)) (by assumption) (by rfl) | exact yv_load1 tb rfl rfl rfl (by repeat (first | exact zi0 | apply zi1 | apply zi2)) (by rfl) | exact yv_load1 tb rfl rfl rfl (by repeat (first | exact zi0 | apply zi1 | apply zi2)) (icell_get (by assumption)) | exact yv_load1 tb rfl rfl rfl (by repeat (first | exact zi0 | apply zi1 | apply zi2)) (rcell_get (fun _ => rfl) (by assumption) rfl)) rfl rfl rfl ?_
   refine DJ_q (yv_field tb rfl rfl rfl) rfl rfl rfl ?_
   refine DJ_q (yv_load1 tb rfl rfl rfl (by repeat (first | exact zi0 | apply zi1 | apply zi2)) (by rfl)) rfl rfl rfl ?_
   refine DJ_q (yv_field tb rfl rfl rfl) rfl rfl rfl ?_
   refine DJ_q (yv_load1 tb rfl rfl rfl (by repeat (first | exact zi0 | apply zi1 | apply zi2)) (by rfl)) rfl rfl rfl ?_
   refine DJ_q (by first | exact yv_index_ro tb rfl rfl rfl rfl (by first | assumption | exact zr (by simp)) (i := (m.a.mine.roads.l.getD j default).to.toNat) (by first | rfl | omega | (simp; omega)) (by omega) | exact yv_index tb rfl rfl rfl rfl (i := (m.a.mine.roads.l.getD j default).to.toNat) (by first | rfl | omega | (simp; omega)) (by omega)) rfl rfl rfl ?_
   refine DJ_q (by first | exact yv_load1_ro tb rfl rfl rfl (by first | assumption | exact zr (by simp)) (by assumption) (by rfl) | exact yv_load1 tb rfl rfl rfl (by repeat (first | exact zi0 | apply zi1 | apply zi2)) (by rfl) | exact yv_load1 tb rfl rfl rfl (by repeat (first | exact zi0 | apply zi1 | apply zi2)) (icell_get (by assumption)) | exact yv_load1 tb rfl rfl rfl (by repeat (first | exact zi0 | apply zi1 | apply zi2)) (rcell_get (fun _ => rfl) (by assumption) rfl)) rfl rfl rfl ?_
   refine DJ_q (by first | exact yv_sub64 rfl rfl (by omega) (by omega) | exact yv_sub rfl rfl) rfl rfl rfl ?_
   refine DJ_call rfl (branchFlow_tri m.a m.t j (m.x.pres.l.getD (m.a.mine.roads.l.getD j default).fr.toNat 0 - m.x.pres.l.getD (m.a.mine.roads.l.getD j default).to.toNat 0) _ _ hA hT) rfl rfl ?_
   rintro v L' R' ⟨rfl, rfl, rfl⟩
   refine ⟨(by repeat (first | exact zs0 _ | exact zs1 _ | apply zs2 | apply zs3 | apply zs4 | apply zs5)), (by first | exact allR_self _ | exact (fun r h => inR_self (by simp [h]))), ?_⟩
   refine DJ_alloc rfl rfl ?_
   intro b12
   refine DJ_storeW rfl rfl rfl rfl (by repeat (first | apply zu0 | apply zu1 | apply zu2)) (by rfl) (by rfl) (by repeat (first | exact zs0 _ | exact zs1 _ | apply zs2 | apply zs3 | apply zs4 | apply zs5)) ?_
   refine DJ_nil (seqK_normal (CJ_seq ?_))
   refine CJ_drawn tb [0, 1, 2, 3, 4, 5, 6, 7, 8, 9, 10, 11, 12, 13, 14, 15, 16, 17] _ mixed (by kernel_rfl) (List.Sublist.refl _) ?_
   refine DJ_q (yv_field tb rfl rfl rfl) rfl rfl rfl ?_
   refine DJ_q (yv_load1 tb rfl rfl rfl (by repeat (first | exact zi0 | apply zi1 | apply zi2)) (by rfl)) rfl rfl rfl ?_
   refine DJ_q (yv_move (show _ = Value.int _ _ from rfl)) rfl rfl rfl ?_
   refine DJ_q (by first | exact yv_index_ro tb rfl rfl rfl rfl (by first | assumption | exact zr (by simp)) rfl (by omega) | exact yv_index tb rfl rfl rfl rfl rfl (by omega)) rfl rfl rfl ?_
   refine DJ_q (by first | exact yv_load1_ro tb rfl rfl rfl (by first | assumption | exact zr (by simp)) (by assumption) (by rfl) | exact yv_load1 tb rfl rfl rfl (by repeat (first | exact zi0 | apply zi1 | apply zi2)) (by rfl) | exact yv_load1 tb rfl rfl rfl (by repeat (first | exact zi0 | apply zi1 | apply zi2)) (icell_get (by assumption)) | exact yv_load1 tb rfl rfl rfl (by repeat (first | exact zi0 | apply zi1 | apply zi2)) (rcell_get (fun _ => rfl) (by assumption) rfl)) rfl rfl rfl ?_
   refine DJ_q (yv_field tb rfl rfl rfl) rfl rfl rfl ?_
   refine DJ_q (yv_load1 tb rfl rfl rfl (by repeat (first | exact zi0 | apply zi1 | apply zi2)) (by rfl)) rfl rfl rfl ?_
   refine DJ_q (yv_lss rfl rfl) rfl rfl rfl ?_
   refine DJ_q (yv_move (show _ = Value.bool _ from rfl)) rfl rfl rfl ?_
   refine DJ_case (k := 57) (show _ = Value.bool _ from rfl) (fun hg8 => ?_) (fun hg8 => ?_)
   ·
    try simp only [zb1, zb2, zb3, zb4, zb5, zb6, zb7, zb8] at hg8
    (exfalso; omega)
   ·
    try simp only [zb1, zb2, zb3, zb4, zb5, zb6, zb7, zb8] at hg8
    refine DJ_q (yv_field tb rfl rfl rfl) rfl rfl rfl ?_
    refine DJ_q (yv_load1 tb rfl rfl rfl (by repeat (first | exact zi0 | apply zi1 | apply zi2)) (by rfl)) rfl rfl rfl ?_
    refine DJ_q (yv_move (show _ = Value.int _ _ from rfl)) rfl rfl rfl ?_
    refine DJ_q (by first | exact yv_index_ro tb rfl rfl rfl rfl (by first | assumption | exact zr (by simp)) rfl (by omega) | exact yv_index tb rfl rfl rfl rfl rfl (by omega)) rfl rfl rfl ?_
    refine DJ_q (by first | exact yv_load1_ro tb rfl rfl rfl (by first | assumption | exact zr (by simp)) (by assumption) (by rfl) | exact yv_load1 tb rfl rfl rfl (by repeat (first | exact zi0 | apply zi1 | apply zi2)) (by rfl) | exact yv_load1 tb rfl rfl rfl (by repeat (first | exact zi0 | apply zi1 | apply zi2)) (icell_get (by assumption)) | exact yv_load1 tb rfl rfl rfl (by repeat (first | exact zi0 | apply zi1 | apply zi2)) (rcell_get (fun _ => rfl) (by assumption) rfl)) rfl rfl rfl ?_
    refine DJ_q (yv_field tb rfl rfl rfl) rfl rfl rfl ?_
    refine DJ_q (yv_load1 tb rfl rfl rfl (by repeat (first | exact zi0 | apply zi1 | apply zi2)) (by rfl)) rfl rfl rfl ?_
    refine DJ_q (yv_gtr rfl rfl) rfl rfl rfl ?_
    refine DJ_q (by first | exact yv_pick_true rfl rfl | exact yv_pick_false rfl rfl | exact yv_pick rfl) rfl rfl rfl ?_
    refine DJ_nil (seqK_normal ?_)
    refine CJ_cond (show _ = Value.bool _ from rfl) (fun hc1 => ?_) (fun hc1 => ?_)
    ·
     try simp only [zb1, zb2, zb3, zb4, zb5, zb6, zb7, zb8] at hc1
     (exfalso; omega)
    ·
     try simp only [zb1, zb2, zb3, zb4, zb5, zb6, zb7, zb8] at hc1
     refine CJ_skip (blockK_normal (seqK_normal (CJ_region ?_)))
     refine LJ_q (by first | exact yv_add64 rfl rfl (by omega) (by omega) | exact yv_addU rfl rfl (by omega) (by omega) | exact yv_add rfl rfl) rfl ?_
     refine LJ_q (yv_move (show _ = Value.int _ _ from rfl)) rfl ?_
     refine LJ_nil ?_
     exact loopK_mk ⟨j + 1, by omega⟩ (by repeat (first | exact Off.refl | apply Off.upd rfl | apply Off.havoc rfl | apply Off.updL rfl | apply Off.left rfl)) (by repeat' (first | exact trivial | refine And.intro rfl ?_)) (by repeat (first | exact zs0 _ | exact zs1 _ | apply zs2 | apply zs3 | apply zs4 | apply zs5)) (allR_self _) (by dsimp only; omega)
  ·
   try simp only [zb1, zb2, zb3, zb4, zb5, zb6, zb7, zb8] at hc0
   refine CJ_exit (seqK_exit (loopK_exit (blockK_exit (seqK_normal (CJ_seq (CJ_seq (CJ_region ?_)))))))
   refine LJ_q (yv_field tb rfl rfl rfl) rfl ?_
   refine LJ_q (yv_field tb rfl rfl rfl) rfl ?_
   refine LJ_q (yv_load1 tb rfl rfl rfl (by repeat (first | exact zi0 | apply zi1 | apply zi2)) (by rfl)) rfl ?_
   refine LJ_q (yv_len tb rfl rfl rfl) rfl ?_
   refine LJ_q (yv_eql rfl rfl) rfl ?_
   refine LJ_nil (seqK_normal ?_)
   refine CJ_cond (show _ = Value.bool _ from rfl) (fun hc2 => ?_) (fun hc2 => ?_)
   ·
    try simp only [zb1, zb2, zb3, zb4, zb5, zb6, zb7, zb8] at hc2
    refine CJ_seq (CJ_region ?_)
    refine LJ_call rfl (awake_tri _ _) rfl ?_
    rintro v L' R' ⟨rfl, rfl, rfl⟩
    refine LJ_q (yv_assign (show _ = Value.bool _ from rfl)) rfl ?_
    refine LJ_nil (seqK_normal (CJ_ret (seqK_ret ?_)))
    refine retK_ret (L' := []) (R' := R) (res1 rfl (rv_tmp (show _ = Value.bool _ from rfl))) ?hp ?hL ?hR
    case hp => exact ⟨rfl, rfl, rfl⟩
    case hL => exact List.nil_sublist _
    case hR => exact fun r hr => (hR1 r (by simp [hr])).mono fun s hs => inR_self (by simp [hs])
   ·
    try simp only [zb1, zb2, zb3, zb4, zb5, zb6, zb7, zb8] at hc2
    refine CJ_skip (seqK_normal (CJ_seq (CJ_region ?_)))
    refine LJ_q (yv_move (show _ = Value.int _ _ from rfl)) rfl ?_
    refine LJ_q (yv_field tb rfl rfl rfl) rfl ?_
    refine LJ_q (yv_field tb rfl rfl rfl) rfl ?_
    refine LJ_q (yv_load1 tb rfl rfl rfl (by repeat (first | exact zi0 | apply zi1 | apply zi2)) (by rfl)) rfl ?_
    refine LJ_q (yv_len tb rfl rfl rfl) rfl ?_
    refine LJ_call rfl (mod_tri _ _ _ _ h1 (by omega)) rfl ?_
    rintro v L' R' ⟨rfl, rfl, rfl⟩
    refine LJ_q (yv_assign (show _ = Value.int _ _ from rfl)) rfl ?_
    refine LJ_nil (seqK_normal (CJ_seq (CJ_seq ?_)))
    have hkb := modS_bounds (k := road) (n := (m.roads.arr.l.length : Int)) (by show (1 : Int) ≤ ((m.roads.l.length : Nat) : Int); omega)
    obtain ⟨kk, hkk⟩ : ∃ kk, kk = modS road m.roads.arr.l.length := ⟨_, rfl⟩
    rw [← hkk] at hkb ⊢
    have hrd := get_D (l := m.roads.arr.l) (k := kk.toNat) default (by omega)
    have hkr : 0 ≤ kk ∧ kk < m.a.mine.roads.l.length := hkb
    have hop := openB_eq hrt hkr
    refine CJ_region ?_
    refine LJ_q (yv_field tb rfl rfl rfl) rfl ?_
    refine LJ_q (yv_field tb rfl rfl rfl) rfl ?_
    refine LJ_q (yv_load1 tb rfl rfl rfl (by repeat (first | exact zi0 | apply zi1 | apply zi2)) (by rfl)) rfl ?_
    refine LJ_q (yv_move (show _ = Value.int _ _ from rfl)) rfl ?_
    refine LJ_q (by first | exact yv_index_ro tb rfl rfl rfl rfl (by first | assumption | exact zr (by simp)) (i := kk.toNat) (by first | rfl | omega | (simp; omega)) (by omega) | exact yv_index tb rfl rfl rfl rfl (i := kk.toNat) (by first | rfl | omega | (simp; omega)) (by omega)) rfl ?_
    refine LJ_q (yv_field_eo tb rfl rfl rfl) rfl ?_
    refine LJ_q (by first | exact yv_load1_ro tb rfl rfl rfl (by first | assumption | exact zr (by simp)) (by assumption) (by rfl) | exact yv_load1 tb rfl rfl rfl (by repeat (first | exact zi0 | apply zi1 | apply zi2)) (by rfl) | exact yv_load1 tb rfl rfl rfl (by repeat (first | exact zi0 | apply zi1 | apply zi2)) (icell_get (by assumption)) | exact yv_load1 tb rfl rfl rfl (by repeat (first | exact zi0 | apply zi1 | apply zi2)) (rcell_get (fun _ => rfl) (by assumption) rfl)) rfl ?_
    refine LJ_nil (seqK_normal ?_)
    refine CJ_cond (show _ = Value.bool _ from rfl) (fun hc3 => ?_) (fun hc3 => ?_)
    ·
     try simp only [zb1, zb2, zb3, zb4, zb5, zb6, zb7, zb8] at hc3
     refine CJ_seq (CJ_region ?_)
     refine LJ_call rfl (awake_tri _ _) rfl ?_
     rintro v L' R' ⟨rfl, rfl, rfl⟩
     refine LJ_q (yv_assign (show _ = Value.bool _ from rfl)) rfl ?_
     refine LJ_nil (seqK_normal (CJ_ret (seqK_ret ?_)))
     refine retK_ret (L' := []) (R' := R) (res1 rfl (rv_tmp (show _ = Value.bool _ from rfl))) ?hp ?hL ?hR
     case hp => exact ⟨rfl, rfl, rfl⟩
     case hL => exact List.nil_sublist _
     case hR => exact fun r hr => (hR1 r (by simp [hr])).mono fun s hs => inR_self (by simp [hs])
    ·
     try simp only [zb1, zb2, zb3, zb4, zb5, zb6, zb7, zb8] at hc3
     refine CJ_skip (seqK_normal (CJ_seq (CJ_region ?_)))
     refine LJ_q (yv_move (show _ = Value.int _ _ from rfl)) rfl ?_
     refine LJ_call rfl (mod_tri _ _ _ _ h4 (by omega)) rfl ?_
     rintro v L' R' ⟨rfl, rfl, rfl⟩
     have hp := modS_bounds (k := pr) (n := 200000) (by omega)
     refine LJ_q (by first | exact yv_sub64 rfl rfl (by omega) (by omega) | exact yv_sub rfl rfl) rfl ?_
     refine LJ_q (yv_assign (show _ = Value.int _ _ from rfl)) rfl ?_
     refine LJ_nil (seqK_normal (CJ_seq ?_))
     obtain ⟨p, hpp⟩ : ∃ p, p = modS pr 200000 - 100000 := ⟨_, rfl⟩
     rw [← hpp]
     have hcl : openB m.a m.t kk = true := by rw [hop]; simpa using hc3
     have hu := flowS_open (p := p) hcl
     obtain ⟨⟨f1, f2, f3, f4⟩, f5, f6, f7, f8⟩ := flow_inside (s := m.t) hMA hkr (p := p) (by omega)
     obtain ⟨lo, hlo⟩ : ∃ lo, lo = (flowS m.a m.t kk p).low := ⟨_, rfl⟩
     obtain ⟨hi, hhi⟩ : ∃ hi, hi = (flowS m.a m.t kk p).high := ⟨_, rfl⟩
     have el : flowLow (innerS m.a m.t kk) p = lo := by rw [hlo, hu]
     have eh : flowHigh (innerS m.a m.t kk) p = hi := by rw [hhi, hu]
     rw [el] at f1 f2 f3 f4
     rw [eh] at f5 f6 f7 f8
     have e1 := dropS_open (q := lo) hcl (by omega)
     have e2 := dropS_open (q := lo + 1) hcl (by omega)
     have e3 := dropS_open (q := hi) hcl (by omega)
     have e4 := dropS_open (q := hi - 1) hcl (by omega)
     rw [← e1] at f1
     rw [← e2] at f2
     rw [← e3] at f5
     rw [← e4] at f6
     refine CJ_region ?_
     refine LJ_q (yv_loadN (row := [_, _, _, _]) tb rfl rfl rfl (by repeat (first | exact zi0 | apply zi1 | apply zi2)) (by rfl) (by rfl)) rfl ?_
     refine LJ_q (yv_loadN (row := [_, _]) tb rfl rfl rfl (by repeat (first | exact zi0 | apply zi1 | apply zi2)) (by rfl) (by rfl)) rfl ?_
     refine LJ_q (yv_move (show _ = Value.int _ _ from rfl)) rfl ?_
     refine LJ_q (yv_move (show _ = Value.int _ _ from rfl)) rfl ?_
     refine LJ_call rfl (branchFlow_tri m.a m.t kk p _ _ hA hT) rfl ?_
     rintro v L' R' ⟨rfl, rfl, rfl⟩
     refine LJ_alloc tb rfl rfl ?_
     intro b15
     refine LJ_storeW tb rfl rfl rfl rfl (by repeat (first | apply zu0 | apply zu1 | apply zu2)) (by rfl) (by rfl) ?_
     refine LJ_nil (seqK_normal (CJ_seq ?_))
     rw [← hlo, ← hhi]
     refine CJ_region ?_
     refine LJ_q (yv_loadN (row := [_, _, _, _]) tb rfl rfl rfl (by repeat (first | exact zi0 | apply zi1 | apply zi2)) (by rfl) (by rfl)) rfl ?_
     refine LJ_q (yv_loadN (row := [_, _]) tb rfl rfl rfl (by repeat (first | exact zi0 | apply zi1 | apply zi2)) (by rfl) (by rfl)) rfl ?_
     refine LJ_q (yv_move (show _ = Value.int _ _ from rfl)) rfl ?_
     refine LJ_q (yv_field tb rfl rfl rfl) rfl ?_
     refine LJ_q (yv_load1 tb rfl rfl rfl (by repeat (first | exact zi0 | apply zi1 | apply zi2)) (by rfl)) rfl ?_
     refine LJ_call rfl (branchDrop_tri m.a m.t kk lo _ _ hA hT) rfl ?_
     rintro v L' R' ⟨rfl, rfl, rfl⟩
     refine LJ_q (yv_fieldv (e := 3) tb rfl (by kernel_rfl) rfl rfl rfl rfl rfl) rfl ?_
     refine LJ_q (yv_move (show _ = Value.int _ _ from rfl)) rfl ?_
     refine LJ_q (yv_leq rfl rfl) rfl ?_
     refine LJ_q (yv_move (show _ = Value.bool _ from rfl)) rfl ?_
     apply LJ_and (G := [_, _, _, _, _, _, _, _, _, _]) (j := 9) (cj := 105) rfl rfl (by rfl) rfl (show _ = Value.bool _ from rfl) rfl
     ·
      intro hg10
      try simp only [zb1, zb2, zb3, zb4, zb5, zb6, zb7, zb8] at hg10
      refine LJ_q (yv_loadN (row := [_, _, _, _]) tb rfl rfl rfl (by repeat (first | exact zi0 | apply zi1 | apply zi2)) (by rfl) (by rfl)) rfl ?_
      refine LJ_q (yv_loadN (row := [_, _]) tb rfl rfl rfl (by repeat (first | exact zi0 | apply zi1 | apply zi2)) (by rfl) (by rfl)) rfl ?_
      refine LJ_q (yv_move (show _ = Value.int _ _ from rfl)) rfl ?_
      refine LJ_q (yv_field tb rfl rfl rfl) rfl ?_
      refine LJ_q (yv_load1 tb rfl rfl rfl (by repeat (first | exact zi0 | apply zi1 | apply zi2)) (by rfl)) rfl ?_
      refine LJ_q (by first | exact yv_add64 rfl rfl (by omega) (by omega) | exact yv_addU rfl rfl (by omega) (by omega) | exact yv_add rfl rfl) rfl ?_
      refine LJ_call rfl (branchDrop_tri m.a m.t kk (lo + 1) _ _ hA hT) rfl ?_
      rintro v L' R' ⟨rfl, rfl, rfl⟩
      refine LJ_q (yv_fieldv (e := 3) tb rfl (by kernel_rfl) rfl rfl rfl rfl rfl) rfl ?_
      refine LJ_q (yv_move (show _ = Value.int _ _ from rfl)) rfl ?_
      refine LJ_q (yv_gtr rfl rfl) rfl ?_
      exact LJ_merge_end (show _ = Value.bool _ from rfl) (by repeat (first | exact Off.refl | apply Off.upd rfl | apply Off.havoc rfl | apply Off.updL rfl | apply Off.left rfl)) (by repeat (first | exact zs0 _ | exact zs1 _ | apply zs2 | apply zs3 | apply zs4 | apply zs5)) (by first | exact allR_self _ | exact fun r h => inR_self (by simp [h]))
     intro junk10
     refine LJ_q (yv_move (show _ = Value.bool _ from rfl)) rfl ?_
     apply LJ_and (G := [_, _, _, _, _, _, _, _, _]) (j := 21) (cj := 117) rfl rfl (by rfl) rfl (show _ = Value.bool _ from rfl) rfl
     ·
      intro hg22
      try simp only [zb1, zb2, zb3, zb4, zb5, zb6, zb7, zb8] at hg22
      refine LJ_q (yv_loadN (row := [_, _, _, _]) tb rfl rfl rfl (by repeat (first | exact zi0 | apply zi1 | apply zi2)) (by rfl) (by rfl)) rfl ?_
      refine LJ_q (yv_loadN (row := [_, _]) tb rfl rfl rfl (by repeat (first | exact zi0 | apply zi1 | apply zi2)) (by rfl) (by rfl)) rfl ?_
      refine LJ_q (yv_move (show _ = Value.int _ _ from rfl)) rfl ?_
      refine LJ_q (yv_field tb rfl rfl rfl) rfl ?_
      refine LJ_q (yv_load1 tb rfl rfl rfl (by repeat (first | exact zi0 | apply zi1 | apply zi2)) (by rfl)) rfl ?_
      refine LJ_call rfl (branchDrop_tri m.a m.t kk hi _ _ hA hT) rfl ?_
      rintro v L' R' ⟨rfl, rfl, rfl⟩
      refine LJ_q (yv_fieldv (e := 3) tb rfl (by kernel_rfl) rfl rfl rfl rfl rfl) rfl ?_
      refine LJ_q (yv_move (show _ = Value.int _ _ from rfl)) rfl ?_
      refine LJ_q (yv_geq rfl rfl) rfl ?_
      exact LJ_merge_end (show _ = Value.bool _ from rfl) (by repeat (first | exact Off.refl | apply Off.upd rfl | apply Off.havoc rfl | apply Off.updL rfl | apply Off.left rfl)) (by repeat (first | exact zs0 _ | exact zs1 _ | apply zs2 | apply zs3 | apply zs4 | apply zs5)) (by first | exact allR_self _ | exact fun r h => inR_self (by simp [h]))
     intro junk22
     refine LJ_q (yv_move (show _ = Value.bool _ from rfl)) rfl ?_
     apply LJ_and (G := [_, _, _, _, _, _, _, _, _, _]) (j := 32) (cj := 128) rfl rfl (by rfl) rfl (show _ = Value.bool _ from rfl) rfl
     ·
      intro hg33
      try simp only [zb1, zb2, zb3, zb4, zb5, zb6, zb7, zb8] at hg33
      refine LJ_q (yv_loadN (row := [_, _, _, _]) tb rfl rfl rfl (by repeat (first | exact zi0 | apply zi1 | apply zi2)) (by rfl) (by rfl)) rfl ?_
      refine LJ_q (yv_loadN (row := [_, _]) tb rfl rfl rfl (by repeat (first | exact zi0 | apply zi1 | apply zi2)) (by rfl) (by rfl)) rfl ?_
      refine LJ_q (yv_move (show _ = Value.int _ _ from rfl)) rfl ?_
      refine LJ_q (yv_field tb rfl rfl rfl) rfl ?_
      refine LJ_q (yv_load1 tb rfl rfl rfl (by repeat (first | exact zi0 | apply zi1 | apply zi2)) (by rfl)) rfl ?_
      refine LJ_q (by first | exact yv_sub64 rfl rfl (by omega) (by omega) | exact yv_sub rfl rfl) rfl ?_
      refine LJ_call rfl (branchDrop_tri m.a m.t kk (hi - 1) _ _ hA hT) rfl ?_
      rintro v L' R' ⟨rfl, rfl, rfl⟩
      refine LJ_q (yv_fieldv (e := 3) tb rfl (by kernel_rfl) rfl rfl rfl rfl rfl) rfl ?_
      refine LJ_q (yv_move (show _ = Value.int _ _ from rfl)) rfl ?_
      refine LJ_q (yv_lss rfl rfl) rfl ?_
      exact LJ_merge_end (show _ = Value.bool _ from rfl) (by repeat (first | exact Off.refl | apply Off.upd rfl | apply Off.havoc rfl | apply Off.updL rfl | apply Off.left rfl)) (by repeat (first | exact zs0 _ | exact zs1 _ | apply zs2 | apply zs3 | apply zs4 | apply zs5)) (by first | exact allR_self _ | exact fun r h => inR_self (by simp [h]))
     intro junk33
     refine LJ_q (yv_move (show _ = Value.bool _ from rfl)) rfl ?_
     apply LJ_and (G := [_]) (j := 44) (cj := 140) rfl rfl (by rfl) rfl (show _ = Value.bool _ from rfl) rfl
     ·
      intro hg45
      try simp only [zb1, zb2, zb3, zb4, zb5, zb6, zb7, zb8] at hg45
      refine LJ_call rfl (awake_tri _ _) rfl ?_
      rintro v L' R' ⟨rfl, rfl, rfl⟩
      exact LJ_merge_end (show _ = Value.bool _ from rfl) (by repeat (first | exact Off.refl | apply Off.upd rfl | apply Off.havoc rfl | apply Off.updL rfl | apply Off.left rfl)) (by repeat (first | exact zs0 _ | exact zs1 _ | apply zs2 | apply zs3 | apply zs4 | apply zs5)) (by first | exact allR_self _ | exact fun r h => inR_self (by simp [h]))
     intro junk45
     refine LJ_q (yv_assign (show _ = Value.bool _ from rfl)) rfl ?_
     refine LJ_nil (seqK_normal (CJ_ret ?_))
     refine retK_ret (L' := []) (R' := R) (res1 rfl (rv_tmp (show _ = Value.bool _ from rfl))) ?hp ?hL ?hR
     case hp =>
      refine ⟨?_, rfl, rfl⟩
      rw [decide_eq_true f1, decide_eq_true f2, decide_eq_true f5, decide_eq_true f6]
      rfl
     case hL => exact List.nil_sublist _
     case hR => exact fun r hr => (hR1 r (by simp [hr])).mono fun s hs => inR_self (by simp [hs])
end Go.Proofs.Ytimnnhdeicpenaa
