/-
  Statements about chapter 11: which bounds are accepted. By an AI agent; no person has read it.
-/
import Derived.Test.YtdnhinkamcfpkaaLaw11c
set_option linter.unusedSimpArgs false
set_option linter.unusedVariables false
namespace Go.Proofs.Ytdnhinkamcfpkaa
open Go.Aw Go
set_option maxRecDepth 20000
attribute [local irreducible] CJ LJ DJ Tri YV Gives seqK blockK loopK retK RV mergeK OwL.L

theorem certifyChecks_law (y : Arr Int) (raw : XBounds) (R : List Sl) (hy : CodesR y R) (hb : BoundsR raw R) :
    Tri Try.prog 9 [y.val, raw.val].toArray [] R (fun v L' R' => v = .bool true ∧ [] = L' ∧ R = R') := by
  refine tri_enter 76 Try.call9 Try.func9 rfl rfl rfl ?_
  refine qae ?_
  refine qax ?_
  intro b3
  refine qaz ?_
  refine qam ?_
  refine qbm ?_
  refine LJ_call rfl (new_tri y _ _ hy) rfl ?_
  rintro v L' R' ⟨c, rfl, hx, rfl, rfl⟩
  refine qc1 ?_
  refine qam ?_
  refine qa6 ?_
  refine LJ_call rfl (made1 (.consL (.consB .nil)) hx (Nat.zero_le _)) rfl ?_
  rintro v L' R' ⟨m, k1, S, rfl, hm, hMA, hif, hid, hk1, rfl, rfl⟩
  simp only [List.append_assoc, List.cons_append, List.nil_append]
  refine LJ_q (yv_move rfl) rfl ?_
  refine qbs ?_
  refine qbs ?_
  refine qbs ?_
  refine qaq ?_
  intro b6
  refine qaq ?_
  intro b7
  refine qaq ?_
  intro b8
  refine qak ?_
  refine qak ?_
  refine qak ?_
  refine qa4 ?_
  refine CJ_made (A := [_]) hm hMA (fun f hf => (hif f hf).mono fun r hr => inR_self (by simp [hr])) (fun f hf => (hid f hf).mono fun r hr => inR_self (by simp [hr])) fun a s x R1 hMA hA hT hX hR1 => ?_
  refine qb1 ?_
  obtain ⟨_, hae, hF, hri, hfo⟩ := hMA.b
  have hx1 : CodesR (codes300 y) R1 := hx.mono fun r hr => hR1 r (by simp [hr])
  have hR0 : ∀ r ∈ R, InR r R1 := fun r hr => hR1 r (by simp [hr])
  have hnp := hMA.nplaces
  have hnr := hMA.nroads
  have hnf := hMA.nfans
  have hnd := hMA.ndoors
  have hpn := hF.plen
  have hfn := hF.flen
  obtain ⟨A, hAA⟩ := airy_ex a.mine
  refine qay ?_
  refine qa6 ?_
  refine qa8 ?_
  refine qbe ?_
  refine qbe ?_
  refine LJ_call rfl (bounds1 (.consB (.consB (.consB (.consB (.consL .nil))))) hx1 hk1 hA hT hX hMA hAA) rfl ?_
  rintro v L' R' ⟨lo, hi, k2, rfl, ⟨h1, h2⟩, ⟨h3, h4⟩, hk2, rfl, rfl⟩
  simp only [List.append_assoc, List.cons_append, List.nil_append]
  refine qaq ?_
  intro b9
  refine qak ?_
  refine qa4 ?_
  refine CJ_frz1 (A := [_, _, _, _, _]) (wd := 1) [] (fun _ => rfl) (by decide) h2 (fun s hs => by cases hs) ?_
  refine qb1 ?_
  refine CJ_frz1 (A := [_, _, _, _, _]) (wd := 1) [] (fun _ => rfl) (by decide) h1 (fun s hs => by cases hs) ?_
  refine qb1 ?_
  have hR2 : ∀ r ∈ R1, InR r (isl lo.arr :: isl hi.arr :: R1) := fun r hr => inR_self (by simp [hr])
  have hB2 : BoundsR ⟨lo.arr, hi.arr⟩ (isl lo.arr :: isl hi.arr :: R1) := ⟨inR_self (.head _), inR_self (.tail _ (.head _))⟩
  obtain ⟨R2, hR2e⟩ : ∃ R2, R2 = isl lo.arr :: isl hi.arr :: R1 := ⟨_, rfl⟩
  rw [← hR2e] at hR2 hB2 ⊢
  have hA2 := airR_mono hA hR2
  have hT2 := setR_mono hT hR2
  have hX2 := stateR_mono hX hR2
  have hx2 := hx1.mono hR2
  have hRR : ∀ r ∈ R, InR r R2 := fun r hr => (hR0 r hr).mono hR2
  refine qay ?_
  refine qa6 ?_
  refine qa8 ?_
  refine LJ_call rfl (setting1 (a := a) (.consB (.consB (.consB (.consB (.consB (.consL .nil)))))) hx2 hk2 hA2.doors (by omega) (by omega) hae.rests) rfl ?_
  rintro v L' R' ⟨tf, td, k3, rfl, ⟨ht1, ht2⟩, hAS, hk3, rfl, rfl⟩
  simp only [List.append_assoc, List.cons_append, List.nil_append]
  refine qaq ?_
  intro b10
  refine qak ?_
  refine qco ?_
  refine CJ_frz1 (A := [_, _, _, _, _, _, _]) (wd := 1) [] (fun _ => rfl) (by decide) ht1 (fun s hs => by cases hs) ?_
  refine qb1 ?_
  refine CJ_frz1 (A := [_, _, _, _, _, _, _]) (wd := 1) [] (fun _ => rfl) (by decide) ht2 (fun s hs => by cases hs) ?_
  refine qb1 ?_
  have hR3 : ∀ r ∈ R2, InR r (isl td.arr :: isl tf.arr :: R2) := fun r hr => inR_self (by simp [hr])
  have hU3 : SetR ⟨tf.arr, td.arr⟩ (isl td.arr :: isl tf.arr :: R2) := ⟨inR_self (.tail _ (.head _)), inR_self (.head _)⟩
  refine qay ?_
  refine qbe ?_
  refine qbe ?_
  refine qab ?_
  refine qac ?_
  refine qab ?_
  refine qac ?_
  refine LJ_q (yv_build (qs := [(0, (Value.slice _ _ _).cells.toList), (1, (Value.slice _ _ _).cells.toList)]) (out := [_, _]) tb rfl rfl rfl rfl) rfl ?_
  refine LJ_g (gives_buildSlice (qs := [(0, (Value.agg _).cells.toList), (1, (Value.agg _).cells.toList), (2, (Value.agg _).cells.toList)]) (out := [_, _, _, _, _, _]) tb rfl rfl rfl rfl rfl rfl rfl) rfl ?_
  rintro v L' R' ⟨b36, rfl, rfl, hR36⟩
  replace hR36 := hR36.symm; subst hR36
  refine qag ?_
  refine qaa ?_
  refine qa2 ?_
  refine CJ_forget [(6, Value.pointer _), (7, Value.pointer _), (10, Value.pointer _), (36, Value.slice _ _ _), (37, Value.int _ _), (38, Value.int _ _)] (by repeat' (first | exact trivial | refine And.intro rfl ?_)) fun tq0 => ?_
  refine CJ_frzB (A := []) (wd := 2) (len := 3) (cap := 3) (rows := [XBounds.cells ⟨lo.arr, hi.arr⟩, XBounds.cells raw, XBounds.cells ⟨x.pres, x.pres⟩]) (subs := []) rfl (by decide) (by decide) (fun r hr => by simp only [List.mem_cons, List.not_mem_nil, or_false] at hr; rcases hr with rfl | rfl | rfl <;> rfl) (by decide) rfl (fun s hs => by cases hs) ?_
  refine CJ_L (by simp only [List.nil_append]; rfl) ?_
  obtain ⟨R3, hR3e⟩ : ∃ R3, R3 = (⟨some ⟨b36, 0, none⟩, 3, [⟨lo.arr, hi.arr⟩, raw, ⟨x.pres, x.pres⟩]⟩ : Arr XBounds).sl 2 XBounds.cells [] :: isl td.arr :: isl tf.arr :: R2 := ⟨_, rfl⟩
  have hR4 : ∀ r ∈ isl td.arr :: isl tf.arr :: R2, InR r R3 := fun r hr => inR_self (by rw [hR3e]; exact .tail _ hr)
  have hyR : InR ((⟨some ⟨b36, 0, none⟩, 3, [⟨lo.arr, hi.arr⟩, raw, ⟨x.pres, x.pres⟩]⟩ : Arr XBounds).sl 2 XBounds.cells []) R3 := inR_self (by rw [hR3e]; exact .head _)
  refine CJ_weak (R' := R3) (List.Sublist.refl _) (fun r hr => inR_self (by rw [hR3e] at hr; exact hr)) ?_
  have hA3 := airR_mono (airR_mono hA2 hR3) hR4
  have hT3 := setR_mono (setR_mono hT2 hR3) hR4
  have hU4 := setR_mono hU3 hR4
  have hyB : ∀ (k : Nat) (b : XBounds), (⟨some ⟨b36, 0, none⟩, 3, [⟨lo.arr, hi.arr⟩, raw, ⟨x.pres, x.pres⟩]⟩ : Arr XBounds).l[k]? = some b → BoundsR b R3 := fun k b hk => by
    have hm := List.mem_of_getElem? hk
    simp only [List.mem_cons, List.not_mem_nil, or_false] at hm
    rcases hm with rfl | rfl | rfl
    · exact boundsR_mono (boundsR_mono hB2 hR3) hR4
    · exact boundsR_mono (boundsR_mono (boundsR_mono hb hRR) hR3) hR4
    · exact ⟨((hX2.pres).mono hR3).mono hR4, ((hX2.pres).mono hR3).mono hR4⟩
  refine q_s [4, 12, 38, 39, 40, 41, 42, 43, 44, 45, 46, 47, 48, 49, 50, 51, 52, 53, 54, 55, 56, 57, 58, 59, 60, 61, 62, 63, 64, 65, 66, 67, 68, 69, 70, 71, 72, 73, 74] (fun g : {k : Nat // k ≤ 3} => [(38, .int .i64 ((g.1 : Nat) : Int))]) (fun g => 3 - g.1) (⟨0, by omega⟩) ?_
  rintro ⟨k, hk⟩ junk
  try dsimp only
  refine qae ?_
  refine qaj ?_
  refine qa4 ?_
  refine q_c (fun hc0 => ?_) (fun hc0 => ?_)
  ·
   obtain ⟨b, hyk⟩ := get_some (l := (⟨some ⟨b36, 0, none⟩, 3, [⟨lo.arr, hi.arr⟩, raw, ⟨x.pres, x.pres⟩]⟩ : Arr XBounds).l) (k := k) (by show k < 3; omega)
   have hbb := hyB k b hyk
   refine qbb ?_
   refine LJ_q (by first | exact yv_index_ro tb rfl rfl rfl rfl (by first | assumption | exact zr (by simp)) (i := k) (by first | rfl | omega | (simp; omega)) (by omega) | exact yv_index tb rfl rfl rfl rfl (i := k) (by first | rfl | omega | (simp; omega)) (by omega)) rfl ?_
   refine qdl ?_
   refine qaq ?_
   intro b12
   refine qak ?_
   refine qa4 ?_
   refine CJ_drawn tb [0, 1, 2, 4, 5, 6, 3, 7, 8, 9, 10, 11, 12, 14, 15, 16, 13, 17, 18, 19, 20, 21, 22, 23, 25, 26, 27, 24, 28, 29, 30, 31] ([Blk.mk b12 _ _, Blk.mk b10 _ _, Blk.mk b8 _ _, Blk.mk b7 _ _, Blk.mk b6 _ _]) mixed (by kernel_rfl) (by repeat (first | exact zs0 _ | exact zs1 _ | apply zs2 | apply zs3 | apply zs4 | apply zs5)) ?_
   refine qbc ?_
   refine qbd ?_
   refine qbd ?_
   refine qbc ?_
   refine qbd ?_
   refine qbd ?_
   refine DJ_call rfl (cert_tri a s b A _ _ hA3 hT3 hbb (fun _ => hAA)) rfl rfl ?_
   rintro v L' R' ⟨S1, rfl, rfl, rfl⟩
   refine qas ?_
   refine q_d rfl (refCert_tri a s b A _ _ (airR_mono hA3 fun r h => inR_self (by simp [h])) (setR_mono hT3 fun r h => inR_self (by simp [h])) (boundsR_mono hbb fun r h => inR_self (by simp [h])) (fun _ => hAA)) ?_
   refine DJ_q (yv_neq rfl rfl) rfl rfl rfl ?_
   refine qb2 ?_
   refine DJ_case (k := 51) (show _ = Value.bool _ from rfl) (fun hg9 => ?_) (fun hg9 => ?_)
   ·
    replace hg9 := qb hg9
    simp at hg9
   ·
    replace hg9 := qb hg9
    refine qbc ?_
    refine qbd ?_
    refine qbd ?_
    refine qbc ?_
    refine qbd ?_
    refine qbd ?_
    refine DJ_call rfl (cert_tri a ⟨tf.arr, td.arr⟩ b A _ _ (airR_mono hA3 fun r h => inR_self (by simp [h])) (setR_mono hU4 fun r h => inR_self (by simp [h])) (boundsR_mono hbb fun r h => inR_self (by simp [h])) (fun _ => hAA)) rfl rfl ?_
    rintro v L' R' ⟨S2, rfl, rfl, rfl⟩
    refine qas ?_
    refine q_d rfl (refCert_tri a ⟨tf.arr, td.arr⟩ b A _ _ (airR_mono hA3 fun r h => inR_self (by simp [h])) (setR_mono hU4 fun r h => inR_self (by simp [h])) (boundsR_mono hbb fun r h => inR_self (by simp [h])) (fun _ => hAA)) ?_
    refine DJ_q (yv_neq rfl rfl) rfl rfl rfl ?_
    refine qbp ?_
    refine qb2 ?_
    refine DJ_case (k := 62) (show _ = Value.bool _ from rfl) (fun hg20 => ?_) (fun hg20 => ?_)
    ·
     replace hg20 := qb hg20
     simp at hg20
    ·
     replace hg20 := qb hg20
     refine qbc ?_
     refine qbd ?_
     refine qbd ?_
     refine qbc ?_
     refine qbd ?_
     refine qbd ?_
     refine DJ_call rfl (bflow_tri a s b A _ _ (airR_mono hA3 fun r h => inR_self (by simp [h])) (setR_mono hT3 fun r h => inR_self (by simp [h])) (boundsR_mono hbb fun r h => inR_self (by simp [h])) (fun _ => hAA)) rfl rfl ?_
     rintro v L' R' ⟨p, S3, rfl, hpk, hpl, rfl, rfl⟩
     refine qas ?_
     refine DJ_call rfl (refBflow_tri a s b A _ _ (airR_mono hA3 fun r h => inR_self (by simp [h])) (setR_mono hT3 fun r h => inR_self (by simp [h])) (boundsR_mono hbb fun r h => inR_self (by simp [h])) (fun _ => hAA)) rfl rfl ?_
     rintro v L' R' ⟨q, rfl, hqk, hql, rfl, rfl⟩
     refine qas ?_
     refine q_d rfl (spans_own (by repeat (first | exact inB_here | apply inB_cons | apply inB_app)) (by repeat (first | exact inB_here | apply inB_cons | apply inB_app)) hpk hqk (hpl.trans hql.symm)) ?_
     refine DJ_q (yv_not rfl) rfl rfl rfl ?_
     refine qbp ?_
     refine qbu ?_
     refine CJ_cond_false rfl ?_
     refine qbj ?_
     refine qar ?_
     refine qaa ?_
     refine qav ?_
     exact loopK_mk ⟨k + 1, by omega⟩ (by repeat (first | exact Off.refl | apply Off.upd rfl | apply Off.havoc rfl | apply Off.updL rfl | apply Off.left rfl)) (by repeat' (first | exact trivial | refine And.intro rfl ?_)) (by repeat (first | exact zs0 _ | exact zs1 _ | apply zs2 | apply zs3 | apply zs4 | apply zs5)) (fun r h => inR_self (by simp [h])) (by dsimp only; omega)
  ·
   refine qbk ?_
   refine q_l rfl (awake11_tri _ _) ?_
   refine qaz ?_
   refine qa0 ?_
   refine retK_ret (L' := []) (R' := R) (res1 rfl (rv_tmp (show _ = Value.bool _ from rfl))) ?hp ?hL ?hR
   case hp => exact ⟨rfl, rfl, rfl⟩
   case hL => exact List.nil_sublist _
   case hR => exact fun r hr => ((hRR r hr).mono hR3).mono hR4
end Go.Proofs.Ytdnhinkamcfpkaa
