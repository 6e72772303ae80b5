/-
  Statements about chapter 11: what they share. By an AI agent; no person has read it.
-/
import Derived.Test.YtjjfpglgonpciaaCflowC
import Derived.Test.YtjjfpglgonpciaaSpans
import Derived.Test.YtjjfpglgonpciaaComp
import Derived.Test.YtjjfpglgonpciaaLaw10a
set_option linter.unusedSimpArgs false
set_option linter.unusedVariables false
namespace Go.Proofs.Ytjjfpglgonpciaa
open Go.Aw Go
set_option maxRecDepth 20000
attribute [local irreducible] CJ LJ DJ Tri YV Gives seqK blockK loopK retK RV mergeK OwL.L

theorem awake11_airy (b b' : Nat) : AiryIs (awake10 b b').mine [true, true] := by
  have hs : surf (awake10 b b').mine = [true, false] := rfl
  have st : Step (awake10 b b').mine 0 1 := ⟨awake10Road, .head _, rfl, .inr ⟨rfl, rfl⟩⟩
  refine ⟨rfl, fun i hi => ?_⟩
  rw [hs] at hi ⊢
  simp only [List.length_cons, List.length_nil] at hi ⊢
  rcases Nat.lt_or_ge i 1 with h | h
  · obtain rfl : i = 0 := by omega
    exact ⟨fun _ => ⟨0, by decide, rfl, .refl⟩, fun _ => rfl⟩
  · obtain rfl : i = 1 := by omega
    exact ⟨fun _ => ⟨0, by decide, rfl, Conn.refl.tail st⟩, fun _ => rfl⟩
theorem awake11_high (b b' : Nat) : flowHigh (innerS (awake10 b b') noSet10 0) 100 = 0 := by
  have h1 := awake10_high b b' 100
  have e0 := awake10_0 b b'
  have e1 : innerS (awake10 b b') noSet10 0 (-1) = ⟨99, 99⟩ := by rfl
  generalize flowHigh (innerS (awake10 b b') noSet10 0) 100 = z at *
  rcases Int.lt_trichotomy z 0 with h | h | h
  · have := h1.ge (-1) (by omega) (by omega)
    rw [e1] at this; dsimp only at this; omega
  · exact h
  · have := h1.lt 0 (by omega) h
    rw [e0] at this; dsimp only at this; omega
theorem awake11_low (b b' : Nat) : flowLow (innerS (awake10 b b') noSet10 0) 100 = 0 := by
  have h1 := awake10_low b b' 100
  have h0 := (awake10_g b b' 100).2 (by decide)
  have e1 : innerS (awake10 b b') noSet10 0 1 = ⟨101, 101⟩ := by rfl
  generalize flowLow (innerS (awake10 b b') noSet10 0) 100 = z at *
  rcases Int.lt_or_le 0 z with h | h
  · have := h1.le 1 (by omega) (by omega)
    rw [e1] at this; dsimp only at this; omega
  · omega
abbrev awake11B (c d : Nat) (x : Int) : XBounds := ⟨⟨some ⟨c, 0, none⟩, 2, [0, 100]⟩, ⟨some ⟨d, 0, none⟩, 2, [0, x]⟩⟩
theorem awake11_ok (b b' c d : Nat) {x : Int} (hx : 0 ≤ x ∧ x ≤ 100) : CheckOk (awake10 b b') noSet10 (awake11B c d x) := by
  refine ⟨by rfl, by rfl, rfl, rfl, fun p hp => ?_, fun p hp => ?_⟩
  · simp only [List.mem_cons, List.not_mem_nil, or_false] at hp
    omega
  · simp only [List.mem_cons, List.not_mem_nil, or_false] at hp
    omega
theorem awake11_check (b b' c d : Nat) : checkS (awake10 b b') noSet10 (awake11B c d 100) [true, true] = 0 := by
  refine accept_iff.2 ⟨awake11_ok b b' c d ⟨by decide, by decide⟩, fun i hi hf => ?_, fun i hi hf => ?_⟩
  · rcases Nat.lt_or_ge i 1 with h | h
    · obtain rfl : i = 0 := by omega
      exact ⟨rfl, rfl⟩
    · obtain rfl : i = 1 := by have : i < 2 := hi; omega
      cases hf
  · rcases Nat.lt_or_ge i 1 with h | h
    · obtain rfl : i = 0 := by omega
      exact absurd rfl hf
    · obtain rfl : i = 1 := by have : i < 2 := hi; omega
      have e1 := awake10_lowN b b' 100
      have e2 := awake10_highN b b' 100
      rw [awake11_low] at e1
      rw [awake11_high] at e2
      exact ⟨Int.le_of_eq e1.symm, Int.le_of_eq e2⟩
theorem awake11_check' (b b' c d : Nat) : checkS (awake10 b b') noSet10 (awake11B c d 99) [true, true] = 12 := by
  rcases checkS_two (A := [true, true]) (awake11_ok b b' c d (x := 99) ⟨by decide, by decide⟩) with h | h
  · have h1 := ((accept_iff.1 h).net 1 (show 1 < 2 by decide) (fun e => by cases e)).1
    have e1 := awake10_lowN b b' 99
    have h2 : 0 ≤ lowN (awake10 b b') noSet10 [0, 99] 1 := h1
    rw [e1, awake10_g] at h2
    omega
  · exact h
theorem awake11_flows (b b' c d : Nat) : boundFlows (awake10 b b') noSet10 (awake11B c d 100) [true, true] = [⟨0, 0⟩] := by
  rw [boundFlows, if_pos (awake11_check b b' c d)]
  have e : roadFlow (awake10 b b') noSet10 (awake11B c d 100) [true, true] 0 = ⟨flowLow (innerS (awake10 b b') noSet10 0) 100, flowHigh (innerS (awake10 b b') noSet10 0) 100⟩ := by
    rw [roadFlow, awake10_road, if_neg (show ¬ awake10Road.closed = true by decide), if_pos (by rfl)]
    have e1 : ([0, 100] : List Int).getD awake10Road.fr.toNat 0 - ([0, 100] : List Int).getD awake10Road.to.toNat 0 = 100 := by rfl
    rw [e1]
    rfl
  show [roadFlow (awake10 b b') noSet10 (awake11B c d 100) [true, true] 0] = _
  rw [e, awake11_low, awake11_high]

theorem awake11_tri (L : List Blk) (R : List Sl) : Tri Try.prog 22 ([] : List Value).toArray L R (fun v L' R' => v = .bool true ∧ L = L' ∧ R = R') := by
  refine tri_enter 42 Try.call22 Try.func22 rfl rfl rfl ?_
  refine qae ?_
  refine qaz ?_
  refine qam ?_
  refine LJ_q (yv_build (qs := [(1, (Value.bool _).cells.toList)]) (out := [_, _]) tb rfl rfl rfl rfl) rfl ?_
  refine qck ?_
  refine LJ_g (gives_buildSlice (qs := [(0, (Value.agg _).cells.toList), (1, (Value.agg _).cells.toList)]) (out := [_, _, _, _]) tb rfl rfl rfl rfl rfl rfl rfl) rfl ?_
  rintro v L' R' ⟨b6, rfl, rfl, hR6⟩
  replace hR6 := hR6.symm; subst hR6
  refine qcd ?_
  refine qcd ?_
  refine LJ_q (yv_build (qs := [(0, (Value.int _ _).cells.toList), (1, (Value.int _ _).cells.toList), (2, (Value.int _ _).cells.toList), (3, (Value.int _ _).cells.toList), (6, (Value.agg _).cells.toList), (7, (Value.agg _).cells.toList)]) (out := [_, _, _, _, _, _, _, _, _, _]) tb rfl rfl rfl rfl) rfl ?_
  refine LJ_g (gives_buildSlice (qs := [(0, (Value.agg _).cells.toList)]) (out := [_, _, _, _, _, _, _, _, _, _]) tb rfl rfl rfl rfl rfl rfl rfl) rfl ?_
  rintro v L' R' ⟨b10, rfl, rfl, hR10⟩
  replace hR10 := hR10.symm; subst hR10
  refine LJ_q (yv_build (qs := [(0, (Value.slice _ _ _).cells.toList), (1, (Value.slice _ _ _).cells.toList)]) (out := [_, _]) tb rfl rfl rfl rfl) rfl ?_
  refine qaq ?_
  intro b1
  refine qak ?_
  refine qam ?_
  refine qbe ?_
  refine LJ_q (yv_build (qs := [(0, (Value.agg _).cells.toList)]) (out := [_, _, _, _]) tb rfl rfl rfl rfl) rfl ?_
  refine qaq ?_
  intro b2
  refine qak ?_
  refine qa4 ?_
  refine CJ_frzB (A := [_, _]) (wd := 10) (len := 1) (cap := 1) (rows := [awake10Road.cells]) (subs := []) rfl (by decide) (by decide) (fun r hr => by rw [List.mem_singleton.1 hr]; rfl) (by decide) rfl (fun s hs => by cases hs) ?_
  refine qb1 ?_
  refine CJ_frzB (A := [_, _]) (wd := 2) (len := 2) (cap := 2) (rows := [XPlace.cells ⟨0, true⟩, XPlace.cells ⟨0, false⟩]) (subs := []) rfl (by decide) (by decide) (fun r hr => by simp only [List.mem_cons, List.not_mem_nil, or_false] at hr; rcases hr with rfl | rfl <;> rfl) (by decide) rfl (fun s hs => by cases hs) ?_
  refine qb1 ?_
  refine CJ_nil 4 (CJ_nil 3 (CJ_nil 1 ?_))
  obtain ⟨R1, hR1⟩ : ∃ R1, R1 = isl ⟨none, 0, []⟩ :: dsl ⟨none, 0, []⟩ :: fsl ⟨none, 0, []⟩ :: psl (awake10 b6 b10).mine.places :: rsl (awake10 b6 b10).mine.roads :: R := ⟨_, rfl⟩
  have hA : AirR (awake10 b6 b10) R1 := by rw [hR1]; exact ⟨inR_self (.tail _ (.tail _ (.tail _ (.head _)))), inR_self (.tail _ (.tail _ (.tail _ (.tail _ (.head _))))), inR_self (.tail _ (.tail _ (.head _))), inR_self (.tail _ (.head _))⟩
  have hS : SetR noSet10 R1 := by rw [hR1]; exact ⟨inR_self (.head _), inR_self (.head _)⟩
  refine CJ_weak (R' := R1) (List.Sublist.refl _) (fun r hr => inR_self (by rw [hR1] at hr; exact hr)) ?_
  refine qay ?_
  refine qa8 ?_
  refine qck ?_
  refine LJ_g (gives_buildSlice (qs := [(0, (Value.int _ _).cells.toList), (1, (Value.int _ _).cells.toList)]) (out := [_, _]) tb rfl rfl rfl rfl rfl rfl rfl) rfl ?_
  rintro v L' R' ⟨b16, rfl, rfl, hR16⟩
  replace hR16 := hR16.symm; subst hR16
  refine LJ_g (gives_buildSlice (qs := [(0, (Value.int _ _).cells.toList), (1, (Value.int _ _).cells.toList)]) (out := [_, _]) tb rfl rfl rfl rfl rfl rfl rfl) rfl ?_
  rintro v L' R' ⟨b17, rfl, rfl, hR17⟩
  replace hR17 := hR17.symm; subst hR17
  refine LJ_q (yv_build (qs := [(0, (Value.slice _ _ _).cells.toList), (1, (Value.slice _ _ _).cells.toList)]) (out := [_, _]) tb rfl rfl rfl rfl) rfl ?_
  refine LJ_frz (wd := 1) (len := 2) (cap := 2) (rows := [icell 0, icell 100]) (subs := []) rfl (by decide) (by decide) (fun r hr => by simp only [List.mem_cons, List.not_mem_nil, or_false] at hr; rcases hr with rfl | rfl <;> rfl) (by decide) rfl (fun s hs => by cases hs) ?_
  refine LJ_frz (wd := 1) (len := 2) (cap := 2) (rows := [icell 0, icell 100]) (subs := []) rfl (by decide) (by decide) (fun r hr => by simp only [List.mem_cons, List.not_mem_nil, or_false] at hr; rcases hr with rfl | rfl <;> rfl) (by decide) rfl (fun s hs => by cases hs) ?_
  refine LJ_call rfl (bflow_tri (awake10 b6 b10) noSet10 (awake11B b16 b17 100) [true, true] _ _ (airR_mono hA fun r h => inR_self (.tail _ (.tail _ h))) (setR_mono hS fun r h => inR_self (.tail _ (.tail _ h))) ⟨inR_self (.head _), inR_self (.tail _ (.head _))⟩ (fun _ => awake11_airy _ _)) rfl ?_
  rintro v L' R' ⟨p, S, rfl, hpk, hpl, rfl, rfl⟩
  rw [awake11_flows] at hpl
  refine qc4 ?_
  refine qa4 ?_
  refine CJ_frz1 (A := []) (wd := 2) [] (fun _ => rfl) (by decide) hpk (fun s hs => by cases hs) ?_
  refine CJ_L (by simp only [List.nil_append]; rfl) ?_
  obtain ⟨R2, hR2⟩ : ∃ R2, R2 = spsl p.arr :: R1 := ⟨_, rfl⟩
  have hA2 : AirR (awake10 b6 b10) R2 := airR_mono hA fun r h => inR_self (by simp [hR2, h])
  have hS2 : SetR noSet10 R2 := setR_mono hS fun r h => inR_self (by simp [hR2, h])
  have hp2 : InR (spsl p.arr) R2 := inR_self (by simp [hR2])
  refine CJ_weak (R' := R2) (List.Sublist.refl _) (fun r hr => inR_self (by rw [hR2] at hr; simp only [List.mem_cons, List.mem_append] at hr ⊢; rcases hr with h | h; exact .inl h; exact .inr (by simp [h]))) ?_
  refine qay ?_
  refine qa8 ?_
  refine qck ?_
  refine LJ_g (gives_buildSlice (qs := [(0, (Value.int _ _).cells.toList), (1, (Value.int _ _).cells.toList)]) (out := [_, _]) tb rfl rfl rfl rfl rfl rfl rfl) rfl ?_
  rintro v L' R' ⟨b22, rfl, rfl, hR22⟩
  replace hR22 := hR22.symm; subst hR22
  refine LJ_g (gives_buildSlice (qs := [(0, (Value.int _ _).cells.toList), (1, (Value.int _ _).cells.toList)]) (out := [_, _]) tb rfl rfl rfl rfl rfl rfl rfl) rfl ?_
  rintro v L' R' ⟨b23, rfl, rfl, hR23⟩
  replace hR23 := hR23.symm; subst hR23
  refine LJ_q (yv_build (qs := [(0, (Value.slice _ _ _).cells.toList), (1, (Value.slice _ _ _).cells.toList)]) (out := [_, _]) tb rfl rfl rfl rfl) rfl ?_
  refine LJ_frz (wd := 1) (len := 2) (cap := 2) (rows := [icell 0, icell 100]) (subs := []) rfl (by decide) (by decide) (fun r hr => by simp only [List.mem_cons, List.not_mem_nil, or_false] at hr; rcases hr with rfl | rfl <;> rfl) (by decide) rfl (fun s hs => by cases hs) ?_
  refine LJ_frz (wd := 1) (len := 2) (cap := 2) (rows := [icell 0, icell 100]) (subs := []) rfl (by decide) (by decide) (fun r hr => by simp only [List.mem_cons, List.not_mem_nil, or_false] at hr; rcases hr with rfl | rfl <;> rfl) (by decide) rfl (fun s hs => by cases hs) ?_
  refine LJ_call rfl (cert_tri (awake10 b6 b10) noSet10 (awake11B b22 b23 100) [true, true] _ _ (airR_mono hA2 fun r h => inR_self (.tail _ (.tail _ h))) (setR_mono hS2 fun r h => inR_self (.tail _ (.tail _ h))) ⟨inR_self (.head _), inR_self (.tail _ (.head _))⟩ (fun _ => awake11_airy _ _)) rfl ?_
  rintro v L' R' ⟨S1, rfl, rfl, rfl⟩
  rw [awake11_check]
  refine qbn ?_
  refine qah ?_
  apply LJ_and (G := [_, _, _, _, _, _, _]) (j := 7) (cj := 27) rfl rfl (by rfl) rfl (show _ = Value.bool _ from rfl) rfl
  ·
   intro hg8
   replace hg8 := qb hg8
   refine qa8 ?_
   refine qck ?_
   refine LJ_g (gives_buildSlice (qs := [(0, (Value.int _ _).cells.toList), (1, (Value.int _ _).cells.toList)]) (out := [_, _]) tb rfl rfl rfl rfl rfl rfl rfl) rfl ?_
   rintro v L' R' ⟨b30, rfl, rfl, hR30⟩
   replace hR30 := hR30.symm; subst hR30
   refine LJ_g (gives_buildSlice (qs := [(0, (Value.int _ _).cells.toList), (1, (Value.int _ _).cells.toList)]) (out := [_, _]) tb rfl rfl rfl rfl rfl rfl rfl) rfl ?_
   rintro v L' R' ⟨b31, rfl, rfl, hR31⟩
   replace hR31 := hR31.symm; subst hR31
   refine LJ_q (yv_build (qs := [(0, (Value.slice _ _ _).cells.toList), (1, (Value.slice _ _ _).cells.toList)]) (out := [_, _]) tb rfl rfl rfl rfl) rfl ?_
   refine LJ_frz (wd := 1) (len := 2) (cap := 2) (rows := [icell 0, icell 99]) (subs := []) rfl (by decide) (by decide) (fun r hr => by simp only [List.mem_cons, List.not_mem_nil, or_false] at hr; rcases hr with rfl | rfl <;> rfl) (by decide) rfl (fun s hs => by cases hs) ?_
   refine LJ_frz (wd := 1) (len := 2) (cap := 2) (rows := [icell 0, icell 100]) (subs := []) rfl (by decide) (by decide) (fun r hr => by simp only [List.mem_cons, List.not_mem_nil, or_false] at hr; rcases hr with rfl | rfl <;> rfl) (by decide) rfl (fun s hs => by cases hs) ?_
   refine LJ_call rfl (cert_tri (awake10 b6 b10) noSet10 (awake11B b30 b31 99) [true, true] _ _ (airR_mono hA2 fun r h => inR_self (by simp [h])) (setR_mono hS2 fun r h => inR_self (by simp [h])) ⟨inR_self (.head _), inR_self (.tail _ (.head _))⟩ (fun _ => awake11_airy _ _)) rfl ?_
   rintro v L' R' ⟨S3, rfl, rfl, rfl⟩
   rw [awake11_check']
   refine qbn ?_
   exact qai
  intro junk8
  refine qah ?_
  apply LJ_and (G := [_, _, _, _]) (j := 16) (cj := 36) rfl rfl (by rfl) rfl (show _ = Value.bool _ from rfl) rfl
  ·
   intro hg17
   replace hg17 := qb hg17
   refine qbm ?_
   refine qck ?_
   refine LJ_g (gives_buildSlice (qs := [(0, (Value.agg _).cells.toList)]) (out := [_, _]) tb rfl rfl rfl rfl rfl rfl rfl) rfl ?_
   rintro v L' R' ⟨b39, rfl, rfl, hR39⟩
   replace hR39 := hR39.symm; subst hR39
   refine LJ_frz (wd := 2) (len := 1) (cap := 1) (rows := [XSpan.cells ⟨0, 0⟩]) (subs := []) rfl (by decide) (by decide) (fun r hr => by rw [List.mem_singleton.1 hr]; rfl) (by decide) rfl (fun s hs => by cases hs) ?_
   refine q_l rfl (spans_tri p.arr ⟨some ⟨b39, 0, none⟩, 1, [⟨0, 0⟩]⟩ _ _ (hp2.mono fun r h => inR_self (by simp [h])) (inR_self (.head _)) hpl) ?_
   exact qai
  intro junk17
  refine qaz ?_
  refine qa0 ?_
  refine retK_ret (L' := L) (R' := R) (res1 rfl (rv_tmp (show _ = Value.bool _ from rfl))) ?hp ?hL ?hR
  case hp => exact ⟨rfl, rfl, rfl⟩
  case hL => exact (by repeat (first | exact zs0 _ | exact zs1 _ | apply zs2 | apply zs3 | apply zs4 | apply zs5))
  case hR => exact fun r h => inR_self (by simp [hR2, hR1, h])
end Go.Proofs.Ytjjfpglgonpciaa
