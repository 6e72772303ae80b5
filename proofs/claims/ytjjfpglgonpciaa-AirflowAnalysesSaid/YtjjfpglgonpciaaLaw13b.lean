/-
  Statements about chapter 13: what is known of the air. By an AI agent; no person has read it.
-/
import Derived.Test.YtjjfpglgonpciaaLaw13a
set_option linter.unusedSimpArgs false
set_option linter.unusedVariables false
namespace Go.Proofs.Ytjjfpglgonpciaa
open Go.Aw Go
set_option maxRecDepth 20000
attribute [local irreducible] CJ LJ DJ Tri YV Gives seqK blockK loopK retK RV mergeK OwL.L

theorem airflowAnalyses_law (y : Arr Int) (raw : XSetting) (R : List Sl) (hy : CodesR y R) (hraw : SetR raw R) :
    Tri Try.prog 11 [y.val, raw.val].toArray [] R (fun v L' R' => v = .bool true ∧ [] = L' ∧ R = R') := by
  refine tri_enter 57 Try.call11 Try.func11 rfl rfl rfl ?_
  refine qae ?_
  refine qax ?_
  intro b3
  refine qaz ?_
  refine qam ?_
  refine qbm ?_
  refine LJ_call rfl (new_tri y _ _ hy) rfl ?_
  rintro v L' R' ⟨c, rfl, hx, rfl, rfl⟩
  refine qc1 ?_
  refine qam ?_
  refine qa6 ?_
  refine LJ_call rfl (made1 (.consL (.consB .nil)) hx (Nat.zero_le _)) rfl ?_
  rintro v L' R' ⟨m, k1, S, rfl, hm, hMA, hif, hid, hk1, rfl, rfl⟩
  simp only [List.append_assoc, List.cons_append, List.nil_append]
  refine LJ_q (yv_move rfl) rfl ?_
  refine qbs ?_
  refine qbs ?_
  refine qbs ?_
  refine qaq ?_
  intro b6
  refine qaq ?_
  intro b7
  refine qaq ?_
  intro b8
  refine qak ?_
  refine qak ?_
  refine qak ?_
  refine qco ?_
  refine CJ_made (A := [_]) hm hMA (fun f hf => (hif f hf).mono fun r hr => inR_self (by simp [hr])) (fun f hf => (hid f hf).mono fun r hr => inR_self (by simp [hr])) fun a s x R1 hMA hA hT hX hR1 => ?_
  refine qb1 ?_
  obtain ⟨_, hae, hF, hri, hfo⟩ := hMA.b
  have hx1 : CodesR (codes300 y) R1 := hx.mono fun r hr => hR1 r (by simp [hr])
  have hR0 : ∀ r ∈ R, InR r R1 := fun r hr => hR1 r (by simp [hr])
  have hnp := hMA.nplaces
  have hnr := hMA.nroads
  have hnf := hMA.nfans
  have hnd := hMA.ndoors
  obtain ⟨A, hAA⟩ := airy_ex a.mine
  have hAl := hAA.length
  have hr1 := setR_mono hraw hR0
  refine CJ_drawn tb [0, 1, 2, 4, 7, 3, 5, 6] ([Blk.mk b7 _ _, Blk.mk b6 _ _, Blk.mk b3 _ _]) mixed (by kernel_rfl) (by repeat (first | exact zs0 _ | exact zs1 _ | apply zs2 | apply zs3 | apply zs4 | apply zs5)) ?_
  refine qbd ?_
  refine qb8 ?_
  refine qbc ?_
  refine qbd ?_
  refine qao ?_
  refine DJ_call rfl (setting1 (a := a) (.consB (.consB (.consB (.consB (.consL .nil))))) hx1 hk1 hA.doors (by omega) (by omega) hae.rests) rfl rfl ?_
  rintro v L' R' ⟨tf, td, k3, rfl, ⟨ht1, ht2⟩, hAS, hk3, rfl, rfl⟩
  simp only [List.append_assoc, List.cons_append, List.nil_append]
  refine qas ?_
  refine DJ_g (gives_buildSlice (qs := [(0, (Value.agg _).cells.toList), (1, (Value.agg _).cells.toList), (2, (Value.agg _).cells.toList)]) (out := [_, _, _, _, _, _]) tb rfl rfl rfl rfl rfl rfl rfl) rfl rfl rfl ?_
  rintro v L' R' ⟨b28, rfl, rfl, hR28⟩
  replace hR28 := hR28.symm; subst hR28
  refine qa1 ?_
  refine DJ_q (yv_len tb rfl rfl rfl) rfl rfl rfl ?_
  refine DJ_nil (seqK_normal (CJ_block ?_))
  refine CJ_forget [(6, Value.pointer _), (28, Value.slice _ _ _), (29, Value.int _ _), (30, Value.int _ _)] (by repeat' (first | exact trivial | refine And.intro rfl ?_)) fun tq0 => ?_
  refine CJ_frz1 (A := [_, _, _, _, _, _]) (wd := 1) [] (fun _ => rfl) (by decide) ht1 (fun s hs => by cases hs) ?_
  refine qb1 ?_
  refine CJ_frz1 (A := [_, _, _, _, _, _]) (wd := 1) [] (fun _ => rfl) (by decide) ht2 (fun s hs => by cases hs) ?_
  refine qb1 ?_
  refine CJ_frzB (A := []) (wd := 2) (len := 3) (cap := 3) (rows := [XSetting.cells s, XSetting.cells ⟨tf.arr, td.arr⟩, XSetting.cells raw]) (subs := []) rfl (by decide) (by decide) (fun r hr => by simp only [List.mem_cons, List.not_mem_nil, or_false] at hr; rcases hr with rfl | rfl | rfl <;> rfl) (by decide) rfl (fun s hs => by cases hs) ?_
  refine CJ_L (by simp only [List.nil_append]; rfl) ?_
  obtain ⟨R3, hR3e⟩ : ∃ R3, R3 = (⟨some ⟨b28, 0, none⟩, 3, [s, ⟨tf.arr, td.arr⟩, raw]⟩ : Arr XSetting).sl 2 XSetting.cells [] :: isl td.arr :: isl tf.arr :: R1 := ⟨_, rfl⟩
  have hR4 : ∀ r ∈ R1, InR r R3 := fun r hr => inR_self (by rw [hR3e]; exact .tail _ (.tail _ (.tail _ hr)))
  have hyR : InR ((⟨some ⟨b28, 0, none⟩, 3, [s, ⟨tf.arr, td.arr⟩, raw]⟩ : Arr XSetting).sl 2 XSetting.cells []) R3 := inR_self (by rw [hR3e]; exact .head _)
  have hU : SetR ⟨tf.arr, td.arr⟩ R3 := ⟨inR_self (by rw [hR3e]; exact .tail _ (.tail _ (.head _))), inR_self (by rw [hR3e]; exact .tail _ (.head _))⟩
  refine CJ_weak (R' := R3) (List.Sublist.refl _) (fun r hr => inR_self (by rw [hR3e] at hr; exact hr)) ?_
  have hA3 := airR_mono hA hR4
  have hT3 := setR_mono hT hR4
  have hr3 := setR_mono hr1 hR4
  have hyB : ∀ (k : Nat) (b : XSetting), (⟨some ⟨b28, 0, none⟩, 3, [s, ⟨tf.arr, td.arr⟩, raw]⟩ : Arr XSetting).l[k]? = some b → SetR b R3 := fun k b hk => by
    have hm := List.mem_of_getElem? hk
    simp only [List.mem_cons, List.not_mem_nil, or_false] at hm
    rcases hm with rfl | rfl | rfl
    · exact hT3
    · exact hU
    · exact hr3
  refine q_s [4, 10, 11, 12, 13, 14, 30, 31, 32, 33, 34, 35, 36, 37, 38, 39, 40, 41, 42, 43, 44, 45, 46, 47, 48, 49, 50, 51, 52, 53, 54, 55] (fun g : {k : Nat // k ≤ 3} => [(30, .int .i64 ((g.1 : Nat) : Int))]) (fun g => 3 - g.1) (⟨0, by omega⟩) ?_
  rintro ⟨k, hk⟩ junk
  try dsimp only
  refine qae ?_
  refine qaj ?_
  refine qa4 ?_
  refine q_c (fun hc0 => ?_) (fun hc0 => ?_)
  ·
   obtain ⟨t, hyk⟩ := get_some (l := (⟨some ⟨b28, 0, none⟩, 3, [s, ⟨tf.arr, td.arr⟩, raw]⟩ : Arr XSetting).l) (k := k) (by show k < 3; omega)
   have htR := hyB k t hyk
   refine qbb ?_
   refine LJ_q (by first | exact yv_index_ro tb rfl rfl rfl rfl (by first | assumption | exact zr (by simp)) (i := k) (by first | rfl | omega | (simp; omega)) (by omega) | exact yv_index tb rfl rfl rfl rfl (i := k) (by first | rfl | omega | (simp; omega)) (by omega)) rfl ?_
   refine qdl ?_
   refine qaq ?_
   intro b10
   refine qak ?_
   refine qam ?_
   refine qa8 ?_
   refine qbe ?_
   refine LJ_call rfl (analyse_tri a t A _ _ hA3 htR (fun _ => hAA)) rfl ?_
   rintro v L' R' ⟨p1, rfl, o1, e1, rfl, rfl⟩
   refine LJ_q (yv_move rfl) rfl ?_
   refine qbs ?_
   refine qbs ?_
   refine qc4 ?_
   refine qad ?_
   refine qam ?_
   refine qa8 ?_
   refine qbe ?_
   refine LJ_call rfl (refAnalyse_tri a t A _ _ hA3 htR (fun _ => hAA)) rfl ?_
   rintro v L' R' ⟨p2, rfl, o2, e2, rfl, rfl⟩
   refine LJ_q (yv_move rfl) rfl ?_
   refine qbs ?_
   refine qbs ?_
   refine qc4 ?_
   refine qad ?_
   refine qam ?_
   refine qaa ?_
   refine qaa ?_
   refine qbq ?_
   refine qah ?_
   apply LJ_or (G := [_, _, _, _]) (j := 3) (cj := 49) rfl rfl (by rfl) rfl (show _ = Value.bool _ from rfl) rfl
   ·
    intro hg4
    replace hg4 := qb hg4
    refine qbm ?_
    refine qbm ?_
    refine q_l rfl (spans_own (by repeat (first | exact inB_here | apply inB_cons | apply inB_app)) (by repeat (first | exact inB_here | apply inB_cons | apply inB_app)) o1 o2 (e1.trans e2.symm)) ?_
    refine qb4 ?_
    exact qai
   intro junk4
   refine qaf ?_
   refine q_c (fun hc1 => ?_) (fun hc1 => ?_)
   ·
    (exfalso; simp at hc1)
   ·
    refine qbj ?_
    refine qar ?_
    refine qaa ?_
    refine qav ?_
    exact q_k (⟨k + 1, by omega⟩)
  ·
   refine qbk ?_
   refine q_l rfl (awake13_tri _ _) ?_
   refine qaz ?_
   refine qa0 ?_
   refine retK_ret (L' := []) (R' := R) (res1 rfl (rv_tmp (show _ = Value.bool _ from rfl))) ?hp ?hL ?hR
   case hp => exact ⟨rfl, rfl, rfl⟩
   case hL => exact List.nil_sublist _
   case hR => exact fun r hr => (hR0 r hr).mono hR4
end Go.Proofs.Ytjjfpglgonpciaa
