/-
  Statements about chapter 10: nets. By an AI agent; no person has read it.
-/
import Derived.Test.YtdnhinkamcfpkaaLaw10a
set_option linter.unusedSimpArgs false
set_option linter.unusedVariables false
namespace Go.Proofs.Ytdnhinkamcfpkaa
open Go.Aw Go
set_option maxRecDepth 20000
attribute [local irreducible] CJ LJ DJ Tri YV Gives seqK blockK loopK retK RV mergeK OwL.L

theorem balanceNets_law (y raw : Arr Int) (place : Int) (R : List Sl) (hy : CodesR y R) (hraw : InR (isl raw) R) (_ : ∀ n ∈ raw.l, I64 n) (h1 : I64 place) :
    Tri Try.prog 3 [y.val, raw.val, .int .i64 place].toArray [] R (fun v L' R' => v = .bool true ∧ [] = L' ∧ R = R') := by
  refine tri_enter 87 Try.call3 Try.func3 rfl rfl rfl ?_
  refine qae ?_
  refine qaz ?_
  refine qam ?_
  refine qbm ?_
  refine LJ_call rfl (new_tri y _ _ hy) rfl ?_
  rintro v L' R' ⟨c, rfl, hx, rfl, rfl⟩
  refine qc1 ?_
  refine qam ?_
  refine qa6 ?_
  refine LJ_call rfl (made1 (.consL .nil) hx (Nat.zero_le _)) rfl ?_
  rintro v L' R' ⟨m, k1, S, rfl, hm, hMA, hif, hid, hk1, rfl, rfl⟩
  simp only [List.append_assoc, List.cons_append, List.nil_append]
  refine LJ_q (yv_move rfl) rfl ?_
  refine qbs ?_
  refine qbs ?_
  refine qbs ?_
  refine qaq ?_
  intro b8
  refine qaq ?_
  intro b9
  refine qaq ?_
  intro b10
  refine qak ?_
  refine qak ?_
  refine qak ?_
  refine qa4 ?_
  refine CJ_made (A := []) hm hMA (fun f hf => (hif f hf).mono fun r hr => inR_self (by simp [hr])) (fun f hf => (hid f hf).mono fun r hr => inR_self (by simp [hr])) fun a s x R1 hMA hA hT hX hR1 => ?_
  refine qb1 ?_
  obtain ⟨_, hae, hff, hri, hfo⟩ := hMA.b
  have hx1 : CodesR (codes300 y) R1 := hx.mono fun r hr => hR1 r (by simp [hr])
  have hraw1 : InR (isl raw) R1 := hraw.mono fun r hr => hR1 r (by simp [hr])
  have hnp := hMA.nplaces
  have hnf := hMA.nfans
  have hnd := hMA.ndoors
  refine CJ_drawn tb [0, 1, 2, 4, 5, 3, 6, 7, 8, 9] ([Blk.mk b10 _ _, Blk.mk b8 _ _]) mixed (by kernel_rfl) (by repeat (first | exact zs0 _ | exact zs1 _ | apply zs2 | apply zs3 | apply zs4 | apply zs5)) ?_
  refine qb8 ?_
  refine qbc ?_
  refine qbd ?_
  refine qb8 ?_
  refine qbc ?_
  refine DJ_call rfl (around1 (.consB (.consB (.consB (.consL .nil)))) hx1 hk1 hA hX hMA) rfl rfl ?_
  rintro v L' R' ⟨l, k2, rfl, hl, hal, hk2, rfl, rfl⟩
  refine qas ?_
  simp only [List.append_assoc, List.cons_append, List.nil_append]
  refine DJ_call rfl (setting1 (a := a) (.consB (.consB (.consB (.appB (.consL .nil))))) hx1 hk2 hA.doors (by omega) (by omega) hae.rests) rfl rfl ?_
  rintro v L' R' ⟨tf, td, k3, rfl, ⟨ht1, ht2⟩, hAS, hk3, rfl, rfl⟩
  refine qas ?_
  simp only [List.append_assoc, List.cons_append, List.nil_append]
  refine qbr ?_
  intro b12
  refine DJ_q (yv_assign (show _ = Value.slice _ _ _ from rfl)) rfl rfl rfl ?_
  refine qbg ?_
  refine qb9 ?_
  refine CJ_frz1 (A := [_, _, _, _]) (wd := 1) [] (fun _ => rfl) (by decide) hl (fun s hs => by cases hs) ?_
  refine qb1 ?_
  refine CJ_frz1 (A := [_, _, _, _, _]) (wd := 1) [] (fun _ => rfl) (by decide) ht1 (fun s hs => by cases hs) ?_
  refine CJ_frz1 (A := [_, _, _, _, _]) (wd := 1) [] (fun _ => rfl) (by decide) ht2 (fun s hs => by cases hs) ?_
  refine qb1 ?_
  have hR2 : ∀ r ∈ R1, InR r (isl td.arr :: isl tf.arr :: isl l.arr :: R1) := fun r hr => inR_self (by simp [hr])
  have hA2 := airR_mono hA hR2
  have hT2 := setR_mono hT hR2
  have hU2 : SetR ⟨tf.arr, td.arr⟩ (isl td.arr :: isl tf.arr :: isl l.arr :: R1) := ⟨inR_self (.tail _ (.head _)), inR_self (.head _)⟩
  have hl2 : InR (isl l.arr) (isl td.arr :: isl tf.arr :: isl l.arr :: R1) := inR_self (.tail _ (.tail _ (.head _)))
  have hraw2 := hraw1.mono hR2
  have hlen : l.l.length ≤ 64 := by have := hal.len; omega
  refine qay ?_
  refine qaa ?_
  refine qbm ?_
  refine qag ?_
  refine qar ?_
  refine q_l rfl (mod_tri _ _ _ _ h1 (by show _ ∧ ((l.l.length : Nat) : Int) + 1 ≤ _; omega)) ?_
  refine qad ?_
  refine qa4 ?_
  obtain ⟨kk, hkk⟩ : ∃ kk, kk = modS place ((l.l.length : Int) + 1) := ⟨_, rfl⟩
  rw [← hkk]
  refine CJ_drawn tb [0, 1, 2, 3, 5, 6, 7, 8, 4, 9, 10, 11, 12, 13, 14, 15, 17, 18, 19, 20, 16, 21, 22, 23, 24, 25, 26, 27, 28, 30, 31, 32, 33, 29, 34, 35, 36, 37, 38, 39, 40, 41, 43, 44, 45, 46, 42, 47, 48, 49, 50, 51, 52, 53] _ mixed (by kernel_rfl) (List.Sublist.refl _) ?_
  refine qbc ?_
  refine qbd ?_
  refine DJ_q (yv_move (show _ = Value.slice _ _ _ from rfl)) rfl rfl rfl ?_
  refine qao ?_
  refine qbc ?_
  refine qbd ?_
  refine DJ_q (yv_move (show _ = Value.slice _ _ _ from rfl)) rfl rfl rfl ?_
  refine qao ?_
  refine q_d rfl (balNet_tri a s l.arr kk _ _ hA2 hT2 hl2) ?_
  refine q_d rfl (refNet_tri a s l.arr kk _ _ hA2 hT2 hl2) ?_
  refine DJ_q (yv_eql_span spanEq rfl rfl) rfl rfl rfl ?_
  refine qb2 ?_
  refine DJ_case (k := 45) (show _ = Value.bool _ from rfl) (fun hg11 => ?_) (fun hg11 => ?_)
  ·
   replace hg11 := qb hg11
   refine qbc ?_
   refine qbd ?_
   refine DJ_q (yv_move (show _ = Value.slice _ _ _ from rfl)) rfl rfl rfl ?_
   refine qao ?_
   refine qbc ?_
   refine qbd ?_
   refine DJ_q (yv_move (show _ = Value.slice _ _ _ from rfl)) rfl rfl rfl ?_
   refine qao ?_
   refine q_d rfl (balNet_tri a ⟨tf.arr, td.arr⟩ l.arr kk _ _ hA2 hU2 hl2) ?_
   refine q_d rfl (refNet_tri a ⟨tf.arr, td.arr⟩ l.arr kk _ _ hA2 hU2 hl2) ?_
   refine DJ_q (yv_eql_span spanEq rfl rfl) rfl rfl rfl ?_
   refine qbp ?_
   refine qb2 ?_
   refine DJ_case (k := 58) (show _ = Value.bool _ from rfl) (fun hg24 => ?_) (fun hg24 => ?_)
   ·
    replace hg24 := qb hg24
    refine qbc ?_
    refine qbd ?_
    refine DJ_q (yv_move (show _ = Value.slice _ _ _ from rfl)) rfl rfl rfl ?_
    refine qao ?_
    refine qbc ?_
    refine qbd ?_
    refine DJ_q (yv_move (show _ = Value.slice _ _ _ from rfl)) rfl rfl rfl ?_
    refine qao ?_
    refine q_d rfl (balNet_tri a s raw kk _ _ hA2 hT2 hraw2) ?_
    refine q_d rfl (refNet_tri a s raw kk _ _ hA2 hT2 hraw2) ?_
    refine DJ_q (yv_eql_span spanEq rfl rfl) rfl rfl rfl ?_
    refine qbp ?_
    refine qb2 ?_
    refine DJ_case (k := 71) (show _ = Value.bool _ from rfl) (fun hg37 => ?_) (fun hg37 => ?_)
    ·
     replace hg37 := qb hg37
     refine qbc ?_
     refine qbd ?_
     refine DJ_q (yv_move (show _ = Value.slice _ _ _ from rfl)) rfl rfl rfl ?_
     refine qao ?_
     refine qbc ?_
     refine qbd ?_
     refine DJ_q (yv_move (show _ = Value.slice _ _ _ from rfl)) rfl rfl rfl ?_
     refine qao ?_
     refine q_d rfl (balNet_tri a s l.arr place _ _ hA2 hT2 hl2) ?_
     refine q_d rfl (refNet_tri a s l.arr place _ _ hA2 hT2 hl2) ?_
     refine DJ_q (yv_eql_span spanEq rfl rfl) rfl rfl rfl ?_
     refine qbp ?_
     refine qb2 ?_
     refine DJ_case (k := 84) (show _ = Value.bool _ from rfl) (fun hg50 => ?_) (fun hg50 => ?_)
     ·
      replace hg50 := qb hg50
      refine q_d rfl (awake10_tri _ _) ?_
      refine qbp ?_
      refine DJ_q (yv_assign (show _ = Value.bool _ from rfl)) rfl rfl rfl ?_
      refine DJ_nil (seqK_normal (CJ_ret ?_))
      refine retK_ret (L' := []) (R' := R) (res1 rfl (rv_tmp (show _ = Value.bool _ from rfl))) ?hp ?hL ?hR
      case hp => exact ⟨rfl, rfl, rfl⟩
      case hL => exact List.nil_sublist _
      case hR => exact fun r hr => ((hR1 r (by simp [hr])).mono hR2).mono fun s hs => inR_self (by simp [hs])
     ·
      replace hg50 := qb hg50
      simp at hg50
    ·
     replace hg37 := qb hg37
     simp at hg37
   ·
    replace hg24 := qb hg24
    simp at hg24
  ·
   replace hg11 := qb hg11
   simp at hg11
end Go.Proofs.Ytdnhinkamcfpkaa
