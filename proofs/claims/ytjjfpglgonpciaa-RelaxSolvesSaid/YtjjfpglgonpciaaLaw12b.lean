/-
  Statements about chapter 12: raising and lowering; bounds. By an AI agent; no person has read it.
-/
import Derived.Test.YtjjfpglgonpciaaLaw12a
set_option linter.unusedSimpArgs false
set_option linter.unusedVariables false
namespace Go.Proofs.Ytjjfpglgonpciaa
open Go.Aw Go
set_option maxRecDepth 20000
attribute [local irreducible] CJ LJ DJ Tri YV Gives seqK blockK loopK retK RV mergeK OwL.L

theorem relaxRises_law (y raw : Arr Int) (R : List Sl) (hy : CodesR y R) (hraw : InR (isl raw) R) (_ : ∀ n ∈ raw.l, I64 n) :
    Tri Try.prog 4 [y.val, raw.val].toArray [] R (fun v L' R' => v = .bool true ∧ [] = L' ∧ R = R') := by
  refine tri_enter 92 Try.call4 Try.func4 rfl rfl rfl ?_
  refine qae ?_
  refine qaz ?_
  refine qam ?_
  refine qbm ?_
  refine LJ_call rfl (new_tri y _ _ hy) rfl ?_
  rintro v L' R' ⟨c, rfl, hx, rfl, rfl⟩
  refine qc1 ?_
  refine qam ?_
  refine qa6 ?_
  refine LJ_call rfl (made1 (.consL .nil) hx (Nat.zero_le _)) rfl ?_
  rintro v L' R' ⟨m, k1, S, rfl, hm, hMA, hif, hid, hk1, rfl, rfl⟩
  simp only [List.append_assoc, List.cons_append, List.nil_append]
  refine LJ_q (yv_move rfl) rfl ?_
  refine qbs ?_
  refine qbs ?_
  refine qbs ?_
  refine qaq ?_
  intro b6
  refine qaq ?_
  intro b7
  refine qaq ?_
  intro b8
  refine qak ?_
  refine qak ?_
  refine qak ?_
  refine qa4 ?_
  refine CJ_made (A := []) hm hMA (fun f hf => (hif f hf).mono fun r hr => inR_self (by simp [hr])) (fun f hf => (hid f hf).mono fun r hr => inR_self (by simp [hr])) fun a s x R1 hMA hA hT hX hR1 => ?_
  refine qb1 ?_
  obtain ⟨_, hae, hF, hri, hfo⟩ := hMA.b
  have hx1 : CodesR (codes300 y) R1 := hx.mono fun r hr => hR1 r (by simp [hr])
  have hR0 : ∀ r ∈ R, InR r R1 := fun r hr => hR1 r (by simp [hr])
  have hnp := hMA.nplaces
  have hnr := hMA.nroads
  have hnf := hMA.nfans
  have hnd := hMA.ndoors
  have hpn := hF.plen
  have hfn := hF.flen
  obtain ⟨A, hAA⟩ := airy_ex a.mine
  have hAl := hAA.length
  refine qay ?_
  refine qa6 ?_
  refine qa8 ?_
  refine qbe ?_
  refine LJ_call rfl (start1 (.consB (.consB (.consB (.consL .nil)))) hx1 hk1 hA hX hMA hAA) rfl ?_
  rintro v L' R' ⟨l, k2, rfl, hl, hst, hk2, rfl, rfl⟩
  simp only [List.append_assoc, List.cons_append, List.nil_append]
  refine qc4 ?_
  refine qco ?_
  refine CJ_frz1 (A := [_, _, _]) (wd := 1) [] (fun _ => rfl) (by decide) hl (fun s hs => by cases hs) ?_
  refine qb1 ?_
  have hR2 : ∀ r ∈ R1, InR r (isl l.arr :: R1) := fun r hr => inR_self (.tail _ hr)
  refine qay ?_
  refine qbm ?_
  refine qbm ?_
  refine qab ?_
  refine qac ?_
  refine LJ_g (gives_buildSlice (qs := [(0, (Value.slice _ _ _).cells.toList), (1, (Value.slice _ _ _).cells.toList), (2, (Value.slice _ _ _).cells.toList)]) (out := [_, _, _]) tb rfl rfl rfl rfl rfl rfl rfl) rfl ?_
  rintro v L' R' ⟨b36, rfl, rfl, hR36⟩
  replace hR36 := hR36.symm; subst hR36
  refine qag ?_
  refine qaa ?_
  refine qa2 ?_
  refine CJ_forget [(6, Value.pointer _), (7, Value.pointer _), (36, Value.slice _ _ _), (37, Value.int _ _), (38, Value.int _ _)] (by repeat' (first | exact trivial | refine And.intro rfl ?_)) fun tq0 => ?_
  refine CJ_frzB (A := []) (wd := 1) (len := 3) (cap := 3) (rows := [acell l.arr, acell raw, acell x.pres]) (subs := [isl l.arr, isl raw, isl x.pres]) rfl (by decide) (by decide) (fun r hr => by simp only [List.mem_cons, List.not_mem_nil, or_false] at hr; rcases hr with rfl | rfl | rfl <;> rfl) (by decide) rfl (fun s hs => by
    simp only [List.mem_cons, List.not_mem_nil, or_false] at hs
    rcases hs with rfl | rfl | rfl
    · exact inR_self (.head _)
    · exact ((hraw.mono hR0).mono hR2)
    · exact (hX.pres).mono hR2) ?_
  refine CJ_L (by simp only [List.nil_append]; rfl) ?_
  obtain ⟨R3, hR3e⟩ : ∃ R3, R3 = aasl (⟨some ⟨b36, 0, none⟩, 3, [l.arr, raw, x.pres]⟩ : Arr (Arr Int)) :: isl l.arr :: R1 := ⟨_, rfl⟩
  have hR4 : ∀ r ∈ isl l.arr :: R1, InR r R3 := fun r hr => inR_self (by rw [hR3e]; exact .tail _ hr)
  have hyR : InR (aasl (⟨some ⟨b36, 0, none⟩, 3, [l.arr, raw, x.pres]⟩ : Arr (Arr Int))) R3 := inR_self (by rw [hR3e]; exact .head _)
  refine CJ_weak (R' := R3) (List.Sublist.refl _) (fun r hr => inR_self (by rw [hR3e] at hr; exact hr)) ?_
  have hA3 := airR_mono (airR_mono hA hR2) hR4
  have hT3 := setR_mono (setR_mono hT hR2) hR4
  refine q_s [4, 11, 12, 13, 14, 15, 16, 17, 18, 19, 38, 39, 40, 41, 42, 43, 44, 45, 46, 47, 48, 49, 50, 51, 52, 53, 54, 55, 56, 57, 58, 59, 60, 61, 62, 63, 64, 65, 66, 67, 68, 69, 70, 71, 72, 73, 74, 75, 76, 77, 78, 79, 80, 81, 82, 83, 84, 85, 86, 87, 88, 89, 90] (fun g : {k : Nat // k ≤ 3} => [(38, .int .i64 ((g.1 : Nat) : Int))]) (fun g => 3 - g.1) (⟨0, by omega⟩) ?_
  rintro ⟨k, hk⟩ junk
  try dsimp only
  refine qae ?_
  refine qaj ?_
  refine qa4 ?_
  refine q_c (fun hc0 => ?_) (fun hc0 => ?_)
  ·
   obtain ⟨b, hyk⟩ := get_some (l := (⟨some ⟨b36, 0, none⟩, 3, [l.arr, raw, x.pres]⟩ : Arr (Arr Int)).l) (k := k) (by show k < 3; omega)
   have hbR := InR.arr hyR hyk
   refine qbb ?_
   refine LJ_q (by first | exact yv_index_ro tb rfl rfl rfl rfl (by first | assumption | exact zr (by simp)) (i := k) (by first | rfl | omega | (simp; omega)) (by omega) | exact yv_index tb rfl rfl rfl rfl (i := k) (by first | rfl | omega | (simp; omega)) (by omega)) rfl ?_
   refine qa7 ?_
   refine qc4 ?_
   refine qam ?_
   refine qa8 ?_
   refine qbe ?_
   refine qbm ?_
   refine LJ_call rfl (relRise0 a s b A _ _ hA3 hT3 hbR (fun _ => hAA)) rfl ?_
   rintro v L' R' ⟨p1, rfl, o1, e1, rfl, rfl⟩
   refine LJ_q (yv_move rfl) rfl ?_
   refine qbs ?_
   refine qbs ?_
   refine qc4 ?_
   refine qad ?_
   refine qam ?_
   refine qa8 ?_
   refine qbe ?_
   refine qbm ?_
   refine LJ_call rfl (ref12rise_tri a s b A _ _ hA3 hT3 hbR (fun _ => hAA)) rfl ?_
   rintro v L' R' ⟨p2, rfl, o2, e2, rfl, rfl⟩
   refine LJ_q (yv_move rfl) rfl ?_
   refine qbs ?_
   refine qbs ?_
   refine qc4 ?_
   refine qad ?_
   refine qam ?_
   refine qa8 ?_
   refine qbe ?_
   refine qbm ?_
   refine LJ_call rfl (relFall0 a s b A _ _ hA3 hT3 hbR (fun _ => hAA)) rfl ?_
   rintro v L' R' ⟨p3, rfl, o3, e3, rfl, rfl⟩
   refine LJ_q (yv_move rfl) rfl ?_
   refine qbs ?_
   refine qbs ?_
   refine qc4 ?_
   refine qad ?_
   refine qam ?_
   refine qa8 ?_
   refine qbe ?_
   refine qbm ?_
   refine LJ_call rfl (ref12fall_tri a s b A _ _ hA3 hT3 hbR (fun _ => hAA)) rfl ?_
   rintro v L' R' ⟨p4, rfl, o4, e4, rfl, rfl⟩
   refine LJ_q (yv_move rfl) rfl ?_
   refine qbs ?_
   refine qbs ?_
   refine qc4 ?_
   refine qad ?_
   refine qam ?_
   refine qaa ?_
   refine qaa ?_
   refine qbq ?_
   refine qah ?_
   apply LJ_or (G := [_, _, _]) (j := 3) (cj := 73) rfl rfl (by rfl) rfl (show _ = Value.bool _ from rfl) rfl
   ·
    intro hg4
    replace hg4 := qb hg4
    refine qaa ?_
    refine qaa ?_
    refine qbq ?_
    exact qai
   intro junk4
   refine qah ?_
   apply LJ_or (G := [_, _, _, _]) (j := 8) (cj := 78) rfl rfl (by rfl) rfl (show _ = Value.bool _ from rfl) rfl
   ·
    intro hg9
    replace hg9 := qb hg9
    refine qbm ?_
    refine qbm ?_
    refine q_l rfl (ints_own (by repeat (first | exact inB_here | apply inB_cons | apply inB_app)) (by repeat (first | exact inB_here | apply inB_cons | apply inB_app)) o1 o2 (e1.trans e2.symm)) ?_
    refine qb4 ?_
    exact qai
   intro junk9
   refine qah ?_
   apply LJ_or (G := [_, _, _, _]) (j := 14) (cj := 84) rfl rfl (by rfl) rfl (show _ = Value.bool _ from rfl) rfl
   ·
    intro hg15
    replace hg15 := qb hg15
    refine qbm ?_
    refine qbm ?_
    refine q_l rfl (ints_own (by repeat (first | exact inB_here | apply inB_cons | apply inB_app)) (by repeat (first | exact inB_here | apply inB_cons | apply inB_app)) o3 o4 (e3.trans e4.symm)) ?_
    refine qb4 ?_
    exact qai
   intro junk15
   refine qaf ?_
   refine q_c (fun hc1 => ?_) (fun hc1 => ?_)
   ·
    (exfalso; simp at hc1)
   ·
    refine qbj ?_
    refine qar ?_
    refine qaa ?_
    refine qav ?_
    exact q_k (⟨k + 1, by omega⟩)
  ·
   refine qbk ?_
   refine q_l rfl (awake12_tri _ _) ?_
   refine qaz ?_
   refine qa0 ?_
   refine retK_ret (L' := []) (R' := R) (res1 rfl (rv_tmp (show _ = Value.bool _ from rfl))) ?hp ?hL ?hR
   case hp => exact ⟨rfl, rfl, rfl⟩
   case hL => exact List.nil_sublist _
   case hR => exact fun r hr => ((hR0 r hr).mono hR2).mono hR4

theorem relaxSolves_law (y : Arr Int) (R : List Sl) (hy : CodesR y R) :
    Tri Try.prog 5 [y.val].toArray [] R (fun v L' R' => v = .bool true ∧ [] = L' ∧ R = R') := by
  refine tri_enter 64 Try.call5 Try.func5 rfl rfl rfl ?_
  refine qae ?_
  refine qaz ?_
  refine qam ?_
  refine qbm ?_
  refine LJ_call rfl (new_tri y _ _ hy) rfl ?_
  rintro v L' R' ⟨c, rfl, hx, rfl, rfl⟩
  refine qc1 ?_
  refine qam ?_
  refine qa6 ?_
  refine LJ_call rfl (made1 (.consL .nil) hx (Nat.zero_le _)) rfl ?_
  rintro v L' R' ⟨m, k1, S, rfl, hm, hMA, hif, hid, hk1, rfl, rfl⟩
  simp only [List.append_assoc, List.cons_append, List.nil_append]
  refine LJ_q (yv_move rfl) rfl ?_
  refine qbs ?_
  refine qbs ?_
  refine qbs ?_
  refine qaq ?_
  intro b4
  refine qaq ?_
  intro b5
  refine qaq ?_
  intro b6
  refine qak ?_
  refine qak ?_
  refine qak ?_
  refine qco ?_
  refine CJ_made (A := []) hm hMA (fun f hf => (hif f hf).mono fun r hr => inR_self (by simp [hr])) (fun f hf => (hid f hf).mono fun r hr => inR_self (by simp [hr])) fun a s x R1 hMA hA hT hX hR1 => ?_
  refine qb1 ?_
  obtain ⟨_, hae, hF, hri, hfo⟩ := hMA.b
  have hx1 : CodesR (codes300 y) R1 := hx.mono fun r hr => hR1 r (by simp [hr])
  have hR0 : ∀ r ∈ R, InR r R1 := fun r hr => hR1 r (by simp [hr])
  have hnp := hMA.nplaces
  have hnr := hMA.nroads
  have hnf := hMA.nfans
  have hnd := hMA.ndoors
  have hpn := hF.plen
  have hfn := hF.flen
  obtain ⟨A, hAA⟩ := airy_ex a.mine
  have hAl := hAA.length
  refine CJ_drawn tb [0, 1, 2, 6, 3, 4, 5] ([Blk.mk b5 _ _, Blk.mk b4 _ _]) mixed (by kernel_rfl) (by repeat (first | exact zs0 _ | exact zs1 _ | apply zs2 | apply zs3 | apply zs4 | apply zs5)) ?_
  refine qbd ?_
  refine qb8 ?_
  refine qbc ?_
  refine qao ?_
  refine DJ_call rfl (setting1 (a := a) (.consB (.consB (.consB (.consL .nil)))) hx1 hk1 hA.doors (by omega) (by omega) hae.rests) rfl rfl ?_
  rintro v L' R' ⟨tf, td, k3, rfl, ⟨ht1, ht2⟩, hAS, hk3, rfl, rfl⟩
  simp only [List.append_assoc, List.cons_append, List.nil_append]
  refine qas ?_
  refine DJ_g (gives_buildSlice (qs := [(0, (Value.agg _).cells.toList), (1, (Value.agg _).cells.toList)]) (out := [_, _, _, _]) tb rfl rfl rfl rfl rfl rfl rfl) rfl rfl rfl ?_
  rintro v L' R' ⟨b25, rfl, rfl, hR25⟩
  replace hR25 := hR25.symm; subst hR25
  refine qa1 ?_
  refine DJ_q (yv_len tb rfl rfl rfl) rfl rfl rfl ?_
  refine DJ_nil (seqK_normal (CJ_block ?_))
  refine CJ_forget [(4, Value.pointer _), (25, Value.slice _ _ _), (26, Value.int _ _), (27, Value.int _ _)] (by repeat' (first | exact trivial | refine And.intro rfl ?_)) fun tq0 => ?_
  refine CJ_frz1 (A := [_, _, _, _, _]) (wd := 1) [] (fun _ => rfl) (by decide) ht1 (fun s hs => by cases hs) ?_
  refine qb1 ?_
  refine CJ_frz1 (A := [_, _, _, _, _]) (wd := 1) [] (fun _ => rfl) (by decide) ht2 (fun s hs => by cases hs) ?_
  refine qb1 ?_
  refine CJ_frzB (A := []) (wd := 2) (len := 2) (cap := 2) (rows := [XSetting.cells s, XSetting.cells ⟨tf.arr, td.arr⟩]) (subs := []) rfl (by decide) (by decide) (fun r hr => by simp only [List.mem_cons, List.not_mem_nil, or_false] at hr; rcases hr with rfl | rfl <;> rfl) (by decide) rfl (fun s hs => by cases hs) ?_
  refine CJ_L (by simp only [List.nil_append]; rfl) ?_
  obtain ⟨R3, hR3e⟩ : ∃ R3, R3 = (⟨some ⟨b25, 0, none⟩, 2, [s, ⟨tf.arr, td.arr⟩]⟩ : Arr XSetting).sl 2 XSetting.cells [] :: isl td.arr :: isl tf.arr :: R1 := ⟨_, rfl⟩
  have hR4 : ∀ r ∈ R1, InR r R3 := fun r hr => inR_self (by rw [hR3e]; exact .tail _ (.tail _ (.tail _ hr)))
  have hyR : InR ((⟨some ⟨b25, 0, none⟩, 2, [s, ⟨tf.arr, td.arr⟩]⟩ : Arr XSetting).sl 2 XSetting.cells []) R3 := inR_self (by rw [hR3e]; exact .head _)
  have hU : SetR ⟨tf.arr, td.arr⟩ R3 := ⟨inR_self (by rw [hR3e]; exact .tail _ (.tail _ (.head _))), inR_self (by rw [hR3e]; exact .tail _ (.head _))⟩
  refine CJ_weak (R' := R3) (List.Sublist.refl _) (fun r hr => inR_self (by rw [hR3e] at hr; exact hr)) ?_
  have hA3 := airR_mono hA hR4
  have hT3 := setR_mono hT hR4
  have hyB : ∀ (k : Nat) (b : XSetting), (⟨some ⟨b25, 0, none⟩, 2, [s, ⟨tf.arr, td.arr⟩]⟩ : Arr XSetting).l[k]? = some b → SetR b R3 := fun k b hk => by
    have hm := List.mem_of_getElem? hk
    simp only [List.mem_cons, List.not_mem_nil, or_false] at hm
    rcases hm with rfl | rfl
    · exact hT3
    · exact hU
  refine q_s [2, 8, 9, 10, 11, 12, 27, 28, 29, 30, 31, 32, 33, 34, 35, 36, 37, 38, 39, 40, 41, 42, 43, 44, 45, 46, 47, 48, 49, 50, 51, 52, 53, 54, 55, 56, 57, 58, 59, 60, 61, 62] (fun g : {k : Nat // k ≤ 2} => [(27, .int .i64 ((g.1 : Nat) : Int))]) (fun g => 2 - g.1) (⟨0, by omega⟩) ?_
  rintro ⟨k, hk⟩ junk
  try dsimp only
  refine qae ?_
  refine qaj ?_
  refine qa4 ?_
  refine q_c (fun hc0 => ?_) (fun hc0 => ?_)
  ·
   obtain ⟨t, hyk⟩ := get_some (l := (⟨some ⟨b25, 0, none⟩, 2, [s, ⟨tf.arr, td.arr⟩]⟩ : Arr XSetting).l) (k := k) (by show k < 2; omega)
   have htR := hyB k t hyk
   refine qbb ?_
   refine LJ_q (by first | exact yv_index_ro tb rfl rfl rfl rfl (by first | assumption | exact zr (by simp)) (i := k) (by first | rfl | omega | (simp; omega)) (by omega) | exact yv_index tb rfl rfl rfl rfl (i := k) (by first | rfl | omega | (simp; omega)) (by omega)) rfl ?_
   refine qdl ?_
   refine qaq ?_
   intro b8
   refine qak ?_
   refine qam ?_
   refine qa8 ?_
   refine qbe ?_
   refine LJ_call rfl (relSolve_tri a t A _ _ hA3 htR (fun _ => hAA) (by omega)) rfl ?_
   rintro v L' R' ⟨lo1, hi1, rfl, o1, o2, e1, e2, rfl, rfl⟩
   refine LJ_q (yv_move rfl) rfl ?_
   refine qbs ?_
   refine qbs ?_
   refine qaq ?_
   intro b9
   refine qak ?_
   refine qad ?_
   refine qam ?_
   refine qa8 ?_
   refine qbe ?_
   refine LJ_call rfl (ref12solve_tri a t A _ _ hA3 htR (fun _ => hAA) (by omega)) rfl ?_
   rintro v L' R' ⟨lo2, hi2, rfl, o3, o4, e3, e4, rfl, rfl⟩
   refine LJ_q (yv_move rfl) rfl ?_
   refine qbs ?_
   refine qbs ?_
   refine qaq ?_
   intro b11
   refine qak ?_
   refine qad ?_
   refine qam ?_
   refine qaa ?_
   refine qaa ?_
   refine qbq ?_
   refine qah ?_
   apply LJ_or (G := [_, _, _, _, _, _]) (j := 3) (cj := 46) rfl rfl (by rfl) rfl (show _ = Value.bool _ from rfl) rfl
   ·
    intro hg4
    replace hg4 := qb hg4
    refine qab ?_
    refine qac ?_
    refine qab ?_
    refine qac ?_
    refine q_l rfl (ints_own (by repeat (first | exact inB_here | apply inB_cons | apply inB_app)) (by repeat (first | exact inB_here | apply inB_cons | apply inB_app)) o1 o3 (e1.trans e3.symm)) ?_
    refine qb4 ?_
    exact qai
   intro junk4
   refine qah ?_
   apply LJ_or (G := [_, _, _, _, _, _]) (j := 11) (cj := 54) rfl rfl (by rfl) rfl (show _ = Value.bool _ from rfl) rfl
   ·
    intro hg12
    replace hg12 := qb hg12
    refine qab ?_
    refine qac ?_
    refine qab ?_
    refine qac ?_
    refine q_l rfl (ints_own (by repeat (first | exact inB_here | apply inB_cons | apply inB_app)) (by repeat (first | exact inB_here | apply inB_cons | apply inB_app)) o2 o4 (e2.trans e4.symm)) ?_
    refine qb4 ?_
    exact qai
   intro junk12
   refine qaf ?_
   refine q_c (fun hc1 => ?_) (fun hc1 => ?_)
   ·
    (exfalso; simp at hc1)
   ·
    refine qbj ?_
    refine qar ?_
    refine qaa ?_
    refine qav ?_
    exact q_k (⟨k + 1, by omega⟩)
  ·
   refine qbk ?_
   refine q_l rfl (awake12_tri _ _) ?_
   refine qaz ?_
   refine qa0 ?_
   refine retK_ret (L' := []) (R' := R) (res1 rfl (rv_tmp (show _ = Value.bool _ from rfl))) ?hp ?hL ?hR
   case hp => exact ⟨rfl, rfl, rfl⟩
   case hL => exact List.nil_sublist _
   case hR => exact fun r hr => (hR0 r hr).mono hR4
end Go.Proofs.Ytjjfpglgonpciaa
