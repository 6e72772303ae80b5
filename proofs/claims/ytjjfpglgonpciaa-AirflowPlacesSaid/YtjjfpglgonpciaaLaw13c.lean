/-
  Statements about chapter 13: places below ground. By an AI agent; no person has read it.
-/
import Derived.Test.YtjjfpglgonpciaaPlaceP
import Derived.Test.YtjjfpglgonpciaaLaw13a
set_option linter.unusedSimpArgs false
set_option linter.unusedVariables false
namespace Go.Proofs.Ytjjfpglgonpciaa
open Go.Aw Go
set_option maxRecDepth 20000
attribute [local irreducible] CJ LJ DJ Tri YV Gives seqK blockK loopK retK RV mergeK OwL.L

theorem airflowPlaces_law (y : Arr Int) (R : List Sl) (hy : CodesR y R) :
    Tri Try.prog 15 [y.val].toArray [] R (fun v L' R' => v = .bool true ∧ [] = L' ∧ R = R') := by
  refine tri_enter 115 Try.call15 Try.func15 rfl rfl rfl ?_
  refine qae ?_
  refine qaz ?_
  refine qam ?_
  refine qbm ?_
  refine LJ_call rfl (new_tri y _ _ hy) rfl ?_
  rintro v L' R' ⟨c, rfl, hx, rfl, rfl⟩
  refine qc1 ?_
  refine qam ?_
  refine qa6 ?_
  refine LJ_call rfl (made1 (.consL .nil) hx (Nat.zero_le _)) rfl ?_
  rintro v L' R' ⟨m, k1, S, rfl, hm, hMA, hif, hid, hk1, rfl, rfl⟩
  simp only [List.append_assoc, List.cons_append, List.nil_append]
  refine LJ_q (yv_move rfl) rfl ?_
  refine qbs ?_
  refine qbs ?_
  refine qbs ?_
  refine qaq ?_
  intro b4
  refine qaq ?_
  intro b5
  refine qaq ?_
  intro b6
  refine qak ?_
  refine qak ?_
  refine qak ?_
  refine qa4 ?_
  refine CJ_made (A := []) hm hMA (fun f hf => (hif f hf).mono fun r hr => inR_self (by simp [hr])) (fun f hf => (hid f hf).mono fun r hr => inR_self (by simp [hr])) fun a s x R1 hMA hA hT hX hR1 => ?_
  refine qb1 ?_
  obtain ⟨_, hae, hF, hri, hfo⟩ := hMA.b
  have hR0 : ∀ r ∈ R, InR r R1 := fun r hr => hR1 r (by simp [hr])
  have hnp := hMA.nplaces
  have hnr := hMA.nroads
  obtain ⟨A, hAA⟩ := airy_ex a.mine
  have hAl := hAA.length
  have hmp := hA.places
  have hmr := hA.roads
  refine qay ?_
  refine qa8 ?_
  refine qbe ?_
  refine LJ_call rfl (analyse_tri a s A _ _ hA hT (fun _ => hAA)) rfl ?_
  rintro v L' R' ⟨p, rfl, hpk, hpl, rfl, rfl⟩
  have han := (ana_ok hMA.err hMA.fit hAA).1
  have hpn : p.l.length = a.mine.roads.l.length := by rw [hpl]; exact ana_len hMA.err hMA.fit hAA
  have hpb : SpanB p.l := by rw [hpl]; exact ana_bnd hMA.err hMA.fit hAA
  rw [han]
  refine LJ_q (yv_move rfl) rfl ?_
  refine qbs ?_
  refine qbs ?_
  refine qc4 ?_
  refine qad ?_
  refine qaw ?_
  refine qaa ?_
  refine qbq ?_
  refine qah ?_
  apply LJ_or (G := [_, _, _, _, _, _, _]) (j := 2) (cj := 30) rfl rfl (by rfl) rfl (show _ = Value.bool _ from rfl) rfl
  ·
   intro hg3
   replace hg3 := qb hg3
   refine qbm ?_
   refine qag ?_
   refine qab ?_
   refine qab ?_
   refine qac ?_
   refine qag ?_
   refine qbq ?_
   exact qai
  intro junk3
  refine qaf ?_
  refine q_c (fun hc0 => ?_) (fun hc0 => ?_)
  ·
   (exfalso; rcases hc0 with h | h; exact h trivial; omega)
  ·
   refine CJ_skip (seqK_normal (CJ_seq (CJ_seq ?_)))
   refine CJ_frz1 (A := []) (wd := 2) [] (fun _ => rfl) (by decide) hpk (fun s hs => by cases hs) ?_
   refine CJ_L (by simp only [List.nil_append]; rfl) ?_
   obtain ⟨R2, hR2e⟩ : ∃ R2, R2 = spsl p.arr :: R1 := ⟨_, rfl⟩
   have hR2 : ∀ r ∈ R1, InR r R2 := fun r hr => inR_self (by rw [hR2e]; exact .tail _ hr)
   have hpR : InR (spsl p.arr) R2 := inR_self (by rw [hR2e]; exact .head _)
   refine CJ_R (show _ = R2 by rw [hR2e]) ?_
   have hmp := hmp.mono hR2
   have hmr := hmr.mono hR2
   refine qay ?_
   refine qab ?_
   refine qab ?_
   refine qac ?_
   refine qag ?_
   refine qaa ?_
   refine qa2 ?_
   refine CJ_forget [(4, Value.pointer _), (7, Value.slice _ _ _), (41, Value.slice _ _ _), (42, Value.int _ _), (43, Value.int _ _)] (by repeat' (first | exact trivial | refine And.intro rfl ?_)) fun tq0 => ?_
   refine q_s [2, 9, 10, 11, 12, 13, 43, 44, 45, 46, 47, 48, 49, 50, 51, 52, 53, 54, 55, 56, 57, 58, 59, 60, 61, 62, 63, 64, 65, 66, 67, 68, 69, 70, 71, 72, 73, 74, 75, 76, 77, 78, 79, 80, 81, 82, 83, 84, 85, 86, 87, 88, 89, 90, 91, 92, 93, 94, 95, 96, 97, 98, 99, 100, 101, 102, 103, 104, 105, 106, 107, 108, 109, 110, 111, 112, 113] (fun g : {i : Nat // i ≤ a.mine.places.l.length} => [(43, .int .i64 ((g.1 : Nat) : Int))]) (fun g => a.mine.places.l.length - g.1) (⟨0, by omega⟩) ?_
   rintro ⟨i, hi⟩ junk
   try dsimp only
   refine qae ?_
   refine qaj ?_
   refine qa4 ?_
   refine q_c (fun hc1 => ?_) (fun hc1 => ?_)
   ·
    have hpg := get_D (l := a.mine.places.l) (k := i) default (by omega)
    refine qbb ?_
    refine qaa ?_
    refine LJ_q (by first | exact yv_index_ro tb rfl rfl rfl rfl (by first | assumption | exact zr (by simp)) (i := i) (by first | rfl | omega | (simp; omega)) (by omega) | exact yv_index tb rfl rfl rfl rfl (i := i) (by first | rfl | omega | (simp; omega)) (by omega)) rfl ?_
    refine qdl ?_
    refine qaq ?_
    intro b10
    refine qad ?_
    refine qak ?_
    refine qaw ?_
    refine qab ?_
    refine qac ?_
    refine qaf ?_
    refine q_c (fun hc2 => ?_) (fun hc2 => ?_)
    ·
     refine CJ_exit (seqK_exit (blockK_exit (seqK_normal (CJ_region ?_))))
     refine qar ?_
     refine qaa ?_
     refine qav ?_
     exact q_k ⟨i + 1, by omega⟩
    ·
     have hnet := ana_net hMA.err hMA.fit hAA (i := i) (by omega) (by simpa using hc2)
     rw [← hpl] at hnet
     refine qbv ?_
     refine qck ?_
     refine qaq ?_
     intro b11
     refine qak ?_
     refine qaw ?_
     refine qab ?_
     refine qab ?_
     refine qac ?_
     refine qag ?_
     refine qaa ?_
     refine qa2 ?_
     refine CJ_forgetW [2, 9, 10, 11, 12, 13, 43, 44, 45, 46, 47, 48, 49, 50, 51, 52, 53, 54, 55, 56, 57, 58, 59, 60, 61, 62, 63, 64, 65, 66, 67, 68, 69, 70, 71, 72, 73, 74, 75, 76, 77, 78, 79, 80, 81, 82, 83, 84, 85, 86, 87, 88, 89, 90, 91, 92, 93, 94, 95, 96, 97, 98, 99, 100, 101, 102, 103, 104, 105, 106, 107, 108, 109, 110, 111, 112, 113] (by repeat (first | apply Off.upd rfl | apply Off.havoc rfl | refine Off.updL (t' := havoc _ _ _) rfl ?_ | exact Off.refl)) [(9, Value.int _ _), (11, Value.pointer _), (43, Value.int _ _), (53, Value.slice _ _ _), (54, Value.int _ _), (55, Value.int _ _)] (by repeat' (first | exact trivial | refine And.intro rfl ?_)) fun tq1 => ?_
     refine q_p [12, 13, 55, 56, 57, 58, 59, 60, 61, 62, 63, 64, 65, 66, 67, 68, 69, 70, 71, 72, 73, 74, 75, 76, 77, 78, 79, 80, 81, 82, 83, 84, 85, 86, 87, 88, 89, 90, 91, 92, 93, 94, 95, 96, 97, 98, 99, 100, 101, 102, 103, 104] ((⟨fun g => [(55, .int .i64 ((g.1 : Nat) : Int))], fun g => ⟨b11, (netQ a.mine.roads.l p.l (i : Int) g.1).cells, 48⟩ :: (⟨b6, x.cells, 37⟩ :: ⟨b5, s.cells, 35⟩ :: ⟨b4, a.cells, 32⟩ :: cblk c (codes300 y) k1 :: []), fun _ => R2, fun g => a.mine.roads.l.length - g.1⟩ : Head {g : Nat // g ≤ a.mine.roads.l.length})) (⟨0, by omega⟩) ?_
     rintro ⟨k, hk⟩ junk
     try dsimp only
     refine qae ?_
     refine qaj ?_
     refine qa4 ?_
     refine q_c (fun hc3 => ?_) (fun hc3 => ?_)
     ·
      have hrg := get_D (l := a.mine.roads.l) (k := k) default (by omega)
      have hsg := get_D (l := p.l) (k := k) default (by omega)
      have hsb := hpb k
      have hqb := netQ_bnd (rs := a.mine.roads.l) (i := (i : Int)) hpb k
      refine qbb ?_
      refine qaa ?_
      refine LJ_q (by first | exact yv_index_ro tb rfl rfl rfl rfl (by first | assumption | exact zr (by simp)) (i := k) (by first | rfl | omega | (simp; omega)) (by omega) | exact yv_index tb rfl rfl rfl rfl (i := k) (by first | rfl | omega | (simp; omega)) (by omega)) rfl ?_
      refine qc8 ?_
      refine qaq ?_
      intro b13
      refine qad ?_
      refine qak ?_
      refine qaw ?_
      refine qab ?_
      refine qac ?_
      refine qaa ?_
      refine qbn ?_
      refine qaf ?_
      refine q_c (fun hc4 => ?_) (fun hc4 => ?_)
      ·
       refine CJ_drawn2 tb [74, 75, 76, 77, 78, 79] [0, 1, 2, 3, 4, 5, 6, 7, 8, 9, 10, 11, 12, 13, 14, 15, 16] [17, 18, 19] (_) _ mixed (by kernel_rfl) (by repeat (first | exact zs0 _ | exact zs1 _ | apply zs2 | apply zs3 | apply zs4 | apply zs5)) (by (repeat (first | apply List.Sublist.cons (a := Blk.mk b11 _ _) | apply List.Sublist.cons_cons)); exact List.Sublist.refl _) ?_
       refine qan ?_
       refine qau ?_
       refine qct ?_
       refine qbf ?_
       refine DJ3_q (by first | exact yv_index_ro tb rfl rfl rfl rfl (by first | assumption | exact zr (by simp)) (i := k) (by first | rfl | omega | (simp; omega)) (by omega) | exact yv_index tb rfl rfl rfl rfl (i := k) (by first | rfl | omega | (simp; omega)) (by omega)) rfl rfl rfl rfl ?_
       refine qcv ?_
       refine qci ?_
       refine qcj ?_
       refine qan ?_
       refine qau ?_
       refine DJ3_ql (yv_move (show _ = Value.slice _ _ _ from rfl)) rfl rfl rfl rfl ?_
       refine DJ3_ql (yv_move (show _ = Value.int _ _ from rfl)) rfl rfl rfl rfl ?_
       refine DJ3_ql (by first | exact yv_index_ro tb rfl rfl rfl rfl (by first | assumption | exact zr (by simp)) (i := k) (by first | rfl | omega | (simp; omega)) (by omega) | exact yv_index tb rfl rfl rfl rfl (i := k) (by first | rfl | omega | (simp; omega)) (by omega)) rfl rfl rfl rfl ?_
       refine DJ3_ql (yv_field_eo tb rfl rfl rfl) rfl rfl rfl rfl ?_
       refine DJ3_ql (by first | exact yv_load1_ro tb rfl rfl rfl (by first | assumption | exact zr (by simp)) (by assumption) (by rfl) | exact yv_load1 tb rfl rfl rfl (by repeat (first | exact zi0 | apply zi1 | apply zi2)) (by rfl) | exact yv_load1 tb rfl rfl rfl (by repeat (first | exact zi0 | apply zi1 | apply zi2)) (icell_get (by assumption)) | exact yv_load1 tb rfl rfl rfl (by repeat (first | exact zi0 | apply zi1 | apply zi2)) (rcell_get (fun _ => rfl) (by assumption) rfl)) rfl rfl rfl rfl ?_
       refine DJ3_ql (by first | exact yv_add64 rfl rfl (by omega) (by omega) | exact yv_addU rfl rfl (by omega) (by omega) | exact yv_add rfl rfl) rfl rfl rfl rfl ?_
       refine qan ?_
       refine qba ?_
       refine qb6 ?_
       refine qal ?_
       refine qb6 ?_
       refine DJ_nil (seqK_normal (CJ_seq (CJ_region ?_)))
       refine qab ?_
       refine qac ?_
       refine qaa ?_
       refine qbn ?_
       refine qaf ?_
       refine q_c (fun hc5 => ?_) (fun hc5 => ?_)
       ·
        refine CJ_drawn2 tb [96, 97, 98, 99, 100, 101] [0, 1, 2, 3, 4, 5, 6, 7, 8, 9, 10, 11, 12, 13, 14, 15, 16] [17, 18, 19] (_) _ mixed (by kernel_rfl) (by repeat (first | exact zs0 _ | exact zs1 _ | apply zs2 | apply zs3 | apply zs4 | apply zs5)) (by (repeat (first | apply List.Sublist.cons (a := Blk.mk b11 _ _) | apply List.Sublist.cons_cons)); exact List.Sublist.refl _) ?_
        refine qan ?_
        refine qau ?_
        refine qct ?_
        refine qbf ?_
        refine DJ3_q (by first | exact yv_index_ro tb rfl rfl rfl rfl (by first | assumption | exact zr (by simp)) (i := k) (by first | rfl | omega | (simp; omega)) (by omega) | exact yv_index tb rfl rfl rfl rfl (i := k) (by first | rfl | omega | (simp; omega)) (by omega)) rfl rfl rfl rfl ?_
        refine qcv ?_
        refine qci ?_
        refine qcc ?_
        refine qan ?_
        refine qau ?_
        refine DJ3_ql (yv_move (show _ = Value.slice _ _ _ from rfl)) rfl rfl rfl rfl ?_
        refine DJ3_ql (yv_move (show _ = Value.int _ _ from rfl)) rfl rfl rfl rfl ?_
        refine DJ3_ql (by first | exact yv_index_ro tb rfl rfl rfl rfl (by first | assumption | exact zr (by simp)) (i := k) (by first | rfl | omega | (simp; omega)) (by omega) | exact yv_index tb rfl rfl rfl rfl (i := k) (by first | rfl | omega | (simp; omega)) (by omega)) rfl rfl rfl rfl ?_
        refine DJ3_ql (yv_field_eo tb rfl rfl rfl) rfl rfl rfl rfl ?_
        refine DJ3_ql (by first | exact yv_load1_ro tb rfl rfl rfl (by first | assumption | exact zr (by simp)) (by assumption) (by rfl) | exact yv_load1 tb rfl rfl rfl (by repeat (first | exact zi0 | apply zi1 | apply zi2)) (by rfl) | exact yv_load1 tb rfl rfl rfl (by repeat (first | exact zi0 | apply zi1 | apply zi2)) (icell_get (by assumption)) | exact yv_load1 tb rfl rfl rfl (by repeat (first | exact zi0 | apply zi1 | apply zi2)) (rcell_get (fun _ => rfl) (by assumption) rfl)) rfl rfl rfl rfl ?_
        refine qdj ?_
        refine qan ?_
        refine qba ?_
        refine qb6 ?_
        refine qal ?_
        refine qb6 ?_
        refine qby ?_
        refine qar ?_
        refine qaa ?_
        refine qav ?_
        exact loopK_mk ⟨k + 1, by omega⟩ (by repeat (first | exact Off.refl | apply Off.upd rfl | apply Off.havoc rfl | apply Off.updL rfl | apply Off.left rfl)) (by repeat' (first | exact trivial | refine And.intro rfl ?_)) (by dsimp only; rw [netQ]; (first | rw [if_pos hc5, if_pos hc4] | rw [if_pos hc5, if_neg hc4] | rw [if_neg hc5, if_pos hc4] | rw [if_neg hc5, if_neg hc4]); exact zs3 (zs2 (zs0 _))) (allR_self _) (by dsimp only; omega)
       ·
        refine qbj ?_
        refine qar ?_
        refine qaa ?_
        refine qav ?_
        exact loopK_mk ⟨k + 1, by omega⟩ (by repeat (first | exact Off.refl | apply Off.upd rfl | apply Off.havoc rfl | apply Off.updL rfl | apply Off.left rfl)) (by repeat' (first | exact trivial | refine And.intro rfl ?_)) (by dsimp only; rw [netQ]; (first | rw [if_pos hc5, if_pos hc4] | rw [if_pos hc5, if_neg hc4] | rw [if_neg hc5, if_pos hc4] | rw [if_neg hc5, if_neg hc4]); exact zs3 (zs2 (zs0 _))) (allR_self _) (by dsimp only; omega)
      ·
       refine qbv ?_
       refine qab ?_
       refine qac ?_
       refine qaa ?_
       refine qbn ?_
       refine qaf ?_
       refine q_c (fun hc5 => ?_) (fun hc5 => ?_)
       ·
        refine CJ_drawn2 tb [96, 97, 98, 99, 100, 101] [0, 1, 2, 3, 4, 5, 6, 7, 8, 9, 10, 11, 12, 13, 14, 15, 16] [17, 18, 19] (_) _ mixed (by kernel_rfl) (by repeat (first | exact zs0 _ | exact zs1 _ | apply zs2 | apply zs3 | apply zs4 | apply zs5)) (by (repeat (first | apply List.Sublist.cons (a := Blk.mk b11 _ _) | apply List.Sublist.cons_cons)); exact List.Sublist.refl _) ?_
        refine qan ?_
        refine qau ?_
        refine qct ?_
        refine qbf ?_
        refine DJ3_q (by first | exact yv_index_ro tb rfl rfl rfl rfl (by first | assumption | exact zr (by simp)) (i := k) (by first | rfl | omega | (simp; omega)) (by omega) | exact yv_index tb rfl rfl rfl rfl (i := k) (by first | rfl | omega | (simp; omega)) (by omega)) rfl rfl rfl rfl ?_
        refine qcv ?_
        refine qci ?_
        refine qcc ?_
        refine qan ?_
        refine qau ?_
        refine DJ3_ql (yv_move (show _ = Value.slice _ _ _ from rfl)) rfl rfl rfl rfl ?_
        refine DJ3_ql (yv_move (show _ = Value.int _ _ from rfl)) rfl rfl rfl rfl ?_
        refine DJ3_ql (by first | exact yv_index_ro tb rfl rfl rfl rfl (by first | assumption | exact zr (by simp)) (i := k) (by first | rfl | omega | (simp; omega)) (by omega) | exact yv_index tb rfl rfl rfl rfl (i := k) (by first | rfl | omega | (simp; omega)) (by omega)) rfl rfl rfl rfl ?_
        refine DJ3_ql (yv_field_eo tb rfl rfl rfl) rfl rfl rfl rfl ?_
        refine DJ3_ql (by first | exact yv_load1_ro tb rfl rfl rfl (by first | assumption | exact zr (by simp)) (by assumption) (by rfl) | exact yv_load1 tb rfl rfl rfl (by repeat (first | exact zi0 | apply zi1 | apply zi2)) (by rfl) | exact yv_load1 tb rfl rfl rfl (by repeat (first | exact zi0 | apply zi1 | apply zi2)) (icell_get (by assumption)) | exact yv_load1 tb rfl rfl rfl (by repeat (first | exact zi0 | apply zi1 | apply zi2)) (rcell_get (fun _ => rfl) (by assumption) rfl)) rfl rfl rfl rfl ?_
        refine qdj ?_
        refine qan ?_
        refine qba ?_
        refine qb6 ?_
        refine qal ?_
        refine qb6 ?_
        refine qby ?_
        refine qar ?_
        refine qaa ?_
        refine qav ?_
        exact loopK_mk ⟨k + 1, by omega⟩ (by repeat (first | exact Off.refl | apply Off.upd rfl | apply Off.havoc rfl | apply Off.updL rfl | apply Off.left rfl)) (by repeat' (first | exact trivial | refine And.intro rfl ?_)) (by dsimp only; rw [netQ]; (first | rw [if_pos hc5, if_pos hc4] | rw [if_pos hc5, if_neg hc4] | rw [if_neg hc5, if_pos hc4] | rw [if_neg hc5, if_neg hc4]); exact zs3 (zs2 (zs0 _))) (allR_self _) (by dsimp only; omega)
       ·
        refine qbj ?_
        refine qar ?_
        refine qaa ?_
        refine qav ?_
        exact loopK_mk ⟨k + 1, by omega⟩ (by repeat (first | exact Off.refl | apply Off.upd rfl | apply Off.havoc rfl | apply Off.updL rfl | apply Off.left rfl)) (by repeat' (first | exact trivial | refine And.intro rfl ?_)) (by dsimp only; rw [netQ]; (first | rw [if_pos hc5, if_pos hc4] | rw [if_pos hc5, if_neg hc4] | rw [if_neg hc5, if_pos hc4] | rw [if_neg hc5, if_neg hc4]); exact zs3 (zs2 (zs0 _))) (allR_self _) (by dsimp only; omega)
     ·
      obtain rfl : k = a.mine.roads.l.length := by omega
      refine qbk ?_
      refine qab ?_
      refine qac ?_
      refine qa5 ?_
      refine qah ?_
      apply LJ_or (G := [_, _, _]) (j := 3) (cj := 108) rfl rfl (by rfl) rfl (show _ = Value.bool _ from rfl) rfl
      ·
       intro hg4
       replace hg4 := qb hg4
       refine qab ?_
       refine qac ?_
       refine qaj ?_
       exact qai
      intro junk4
      refine qaf ?_
      refine q_c (fun hc6 => ?_) (fun hc6 => ?_)
      ·
       (exfalso; omega)
      ·
       refine qbj ?_
       refine qar ?_
       refine qaa ?_
       refine qav ?_
       exact q_k ⟨i + 1, by omega⟩
   ·
    refine qbk ?_
    refine q_l rfl (awake13_tri _ _) ?_
    refine qaz ?_
    refine qa0 ?_
    refine retK_ret (L' := []) (R' := R) (res1 rfl (rv_tmp (show _ = Value.bool _ from rfl))) ?hp ?hL ?hR
    case hp => exact ⟨rfl, rfl, rfl⟩
    case hL => exact List.nil_sublist _
    case hR => exact fun r hr => (hR0 r hr).mono hR2
end Go.Proofs.Ytjjfpglgonpciaa
