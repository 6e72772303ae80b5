/-
  Statements about chapter 13: the sanity check. By an AI agent; no person has read it.
-/
import Derived.Test.YtlgjgigciapkfaaNarrow
import Derived.Test.YtlgjgigciapkfaaLaw12a
set_option linter.unusedSimpArgs false
set_option linter.unusedVariables false
namespace Go.Proofs.Ytlgjgigciapkfaa
open Go.Aw Go
theorem ints_lend13 {A : List Blk} {R : List Sl} {p : OwL Int} {y : Arr Int} (hp : InB (p.L 3 icell) A) (okp : p.ok 1 icell) (hy : InR (isl y) R) (he : p.l = y.l) :
    Tri Try.prog 28 [p.val, y.val].toArray A R (fun v L' R' => v = .bool true ∧ A = L' ∧ R = R') :=
  Tri.lendU (S := [isl p.arr]) (fun w G hh s hs => by
    rw [List.mem_singleton.1 hs]
    exact lend_rep hh hp okp (fun _ => rfl) (by decide) (fun s hs => by cases hs)) (ints_tri p.arr y [] _ (inR_self (.head _)) (hy.mono fun r h => inR_self (.tail _ h)) he)
set_option maxRecDepth 20000
attribute [local irreducible] CJ LJ DJ Tri YV Gives seqK blockK loopK retK RV mergeK OwL.L

def awake13Road : XRoad := ⟨0, 1, 1, 1, false, false, ⟨1, 1⟩, ⟨900, 900⟩⟩
abbrev awake13 (b b' : Nat) : XAir := ⟨⟨⟨some ⟨b, 0, none⟩, 2, [⟨0, true⟩, ⟨0, true⟩]⟩, ⟨some ⟨b', 0, none⟩, 1, [awake13Road]⟩⟩, ⟨none, 0, []⟩, ⟨none, 0, []⟩⟩
section
variable (b b' : Nat)
theorem awake13_right : rightB (awake13 b b') noSet10 = true := by rfl
theorem awake13_low (p : Int) : LowIs (innerS (awake13 b b') noSet10 0) p (flowLow (innerS (awake13 b b') noSet10 0) p) :=
  flowLow_is (right_of (awake13_right b b')).1 ⟨by decide, by show (0 : Int) < 1; decide⟩ p
theorem awake13_high (p : Int) : HighIs (innerS (awake13 b b') noSet10 0) p (flowHigh (innerS (awake13 b b') noSet10 0) p) :=
  flowHigh_is (right_of (awake13_right b b')).1 ⟨by decide, by show (0 : Int) < 1; decide⟩ p
theorem awake13_30 : innerS (awake13 b b') noSet10 0 30 = ⟨0, 0⟩ := by rfl
theorem awake13_31 : innerS (awake13 b b') noSet10 0 31 = ⟨61, 61⟩ := by rfl
theorem awake13_29 : innerS (awake13 b b') noSet10 0 29 = ⟨-59, -59⟩ := by rfl
theorem awake13_lowE : flowLow (innerS (awake13 b b') noSet10 0) 0 = 30 := by
  have h1 := awake13_low b b' 0
  have e0 := awake13_30 b b'
  have e1 := awake13_31 b b'
  generalize flowLow (innerS (awake13 b b') noSet10 0) 0 = z at *
  rcases Int.lt_trichotomy z 30 with h | h | h
  · have := h1.gt 30 h (by omega); rw [e0] at this; dsimp only at this; omega
  · exact h
  · have := h1.le 31 (by omega) (by omega); rw [e1] at this; dsimp only at this; omega
theorem awake13_highE : flowHigh (innerS (awake13 b b') noSet10 0) 0 = 30 := by
  have h1 := awake13_high b b' 0
  have e0 := awake13_30 b b'
  have e1 := awake13_29 b b'
  generalize flowHigh (innerS (awake13 b b') noSet10 0) 0 = z at *
  rcases Int.lt_trichotomy z 30 with h | h | h
  · have := h1.ge 29 (by omega) (by omega); rw [e1] at this; dsimp only at this; omega
  · exact h
  · have := h1.lt 30 (by omega) h; rw [e0] at this; dsimp only at this; omega
theorem awake13_airy : AiryIs (awake13 b b').mine [true, true] := by
  have hs : surf (awake13 b b').mine = [true, true] := rfl
  refine ⟨rfl, fun i hi => ?_⟩
  rw [hs] at hi ⊢
  simp only [List.length_cons, List.length_nil] at hi ⊢
  rcases Nat.lt_or_ge i 1 with h | h
  · obtain rfl : i = 0 := by omega
    exact ⟨fun _ => ⟨0, by decide, rfl, .refl⟩, fun _ => rfl⟩
  · obtain rfl : i = 1 := by omega
    exact ⟨fun _ => ⟨1, by decide, rfl, .refl⟩, fun _ => rfl⟩
theorem awake13_sweep (up : Bool) : sweepTo (awake13 b b') noSet10 [true, true] up [0, 0] (awake13 b b').mine.places.l.length = some [0, 0] := by
  have h0 : fixB (awake13 b b') [true, true] 0 = true := rfl
  have h1 : fixB (awake13 b b') [true, true] 1 = true := rfl
  show sweepTo (awake13 b b') noSet10 [true, true] up [0, 0] (0 + 1 + 1) = _
  rw [sweepTo, sweepTo, sweepTo, Option.bind_some, if_pos h0, Option.bind_some, if_pos h1]
theorem awake13_start : StartOk (awake13 b b') noSet10 [0, 0] [true, true] := by
  refine ⟨by rfl, by rfl, rfl, fun p hp => ?_, fun i hi hf => ?_⟩
  · simp only [List.mem_cons, List.not_mem_nil, or_false] at hp
    omega
  · rcases Nat.lt_or_ge i 1 with h1 | h1
    · obtain rfl : i = 0 := by omega
      rfl
    · obtain rfl : i = 1 := by have : i < 2 := hi; omega
      rfl
theorem awake13_relax (up : Bool) : relaxS (awake13 b b') noSet10 [true, true] up [0, 0] = (0, [0, 0]) := by
  have r : roundsS (awake13 b b') noSet10 [true, true] up 200 [0, 0] = some [0, 0] := rounds_done (n := 199) (awake13_sweep b b' up)
  rw [relaxS, if_neg (by rw [startErr_iff.2 (awake13_start b b')]; decide), r]
theorem awake13_solve : solveS (awake13 b b') noSet10 [true, true] = (0, [0, 0], [0, 0]) := by
  have h0 : List.replicate (awake13 b b').mine.places.l.length (0 : Int) = [0, 0] := rfl
  rw [solveS, h0, awake13_relax]
  dsimp only
  rw [if_neg (by decide), awake13_relax, if_neg (by decide), awake13_relax, if_neg (by decide)]
abbrev awake13B : XBounds := ⟨⟨none, 0, [0, 0]⟩, ⟨none, 0, [0, 0]⟩⟩
theorem awake13_check : checkS (awake13 b b') noSet10 awake13B [true, true] = 0 := by
  refine accept_iff.2 ⟨⟨by rfl, by rfl, rfl, rfl, fun p hp => ?_, fun p hp => ?_⟩, fun i hi hf => ?_, fun i hi hf => ?_⟩
  · simp only [List.mem_cons, List.not_mem_nil, or_false] at hp
    omega
  · simp only [List.mem_cons, List.not_mem_nil, or_false] at hp
    omega
  · rcases Nat.lt_or_ge i 1 with h | h
    · obtain rfl : i = 0 := by omega
      exact ⟨rfl, rfl⟩
    · obtain rfl : i = 1 := by have : i < 2 := hi; omega
      exact ⟨rfl, rfl⟩
  · rcases Nat.lt_or_ge i 1 with h | h
    · obtain rfl : i = 0 := by omega
      exact absurd rfl hf
    · obtain rfl : i = 1 := by have : i < 2 := hi; omega
      exact absurd rfl hf
theorem awake13_ana : anaS (awake13 b b') noSet10 [true, true] = (0, [⟨30, 30⟩]) := by
  have h1 : airErr (awake13 b b') = 0 := by rfl
  have h2 : fitB (awake13 b b') noSet10 = true := by rfl
  have h3 : foundB (awake13 b b') noSet10 [true, true] = awake13B := by rw [foundB, awake13_solve]
  rw [anaS, if_neg (by rw [h1]; decide), if_neg (by rw [h2]; decide), awake13_solve, if_pos rfl, h3, boundFlows, if_pos (awake13_check b b')]
  have h4 : roadFlow (awake13 b b') noSet10 awake13B [true, true] 0 = ⟨30, 30⟩ := by
    have e : roadFlow (awake13 b b') noSet10 awake13B [true, true] 0 = ⟨flowLow (innerS (awake13 b b') noSet10 0) 0, flowHigh (innerS (awake13 b b') noSet10 0) 0⟩ := rfl
    rw [e, awake13_lowE, awake13_highE]
  show (0, [roadFlow (awake13 b b') noSet10 awake13B [true, true] 0]) = _
  rw [h4]
end
abbrev awake13S : XSens := ⟨0, 3, 0, 0, 0, 0, 0, 9⟩
theorem awake13_nar : narS [⟨40, 60⟩] nothingS 3 [awake13S] [⟨0, 0, ⟨55, 70⟩⟩, ⟨0, 0, ⟨70, 80⟩⟩] 1 = ⟨[nothingS], [true], [true]⟩ := by rfl
theorem awake13_fed : fedL [⟨30, 30⟩] [⟨0, 31⟩] = [-1] := by rfl

theorem awake13_tri (L : List Blk) (R : List Sl) : Tri Try.prog 48 ([] : List Value).toArray L R (fun v L' R' => v = .bool true ∧ L = L' ∧ R = R') := by
  refine tri_enter 69 Try.call48 Try.func48 rfl rfl rfl ?_
  refine qae ?_
  refine qaz ?_
  refine qam ?_
  refine LJ_q (yv_build (qs := [(1, (Value.bool _).cells.toList)]) (out := [_, _]) tb rfl rfl rfl rfl) rfl ?_
  refine LJ_q (yv_build (qs := [(1, (Value.bool _).cells.toList)]) (out := [_, _]) tb rfl rfl rfl rfl) rfl ?_
  refine LJ_g (gives_buildSlice (qs := [(0, (Value.agg _).cells.toList), (1, (Value.agg _).cells.toList)]) (out := [_, _, _, _]) tb rfl rfl rfl rfl rfl rfl rfl) rfl ?_
  rintro v L' R' ⟨b9, rfl, rfl, hR9⟩
  replace hR9 := hR9.symm; subst hR9
  refine qcd ?_
  refine qcd ?_
  refine LJ_q (yv_build (qs := [(1, (Value.int _ _).cells.toList), (2, (Value.int _ _).cells.toList), (3, (Value.int _ _).cells.toList), (6, (Value.agg _).cells.toList), (7, (Value.agg _).cells.toList)]) (out := [_, _, _, _, _, _, _, _, _, _]) tb rfl rfl rfl rfl) rfl ?_
  refine LJ_g (gives_buildSlice (qs := [(0, (Value.agg _).cells.toList)]) (out := [_, _, _, _, _, _, _, _, _, _]) tb rfl rfl rfl rfl rfl rfl rfl) rfl ?_
  rintro v L' R' ⟨b13, rfl, rfl, hR13⟩
  replace hR13 := hR13.symm; subst hR13
  refine LJ_q (yv_build (qs := [(0, (Value.slice _ _ _).cells.toList), (1, (Value.slice _ _ _).cells.toList)]) (out := [_, _]) tb rfl rfl rfl rfl) rfl ?_
  refine qaq ?_
  intro b1
  refine qak ?_
  refine qa4 ?_
  refine CJ_frzB (A := [_]) (wd := 10) (len := 1) (cap := 1) (rows := [awake13Road.cells]) (subs := []) rfl (by decide) (by decide) (fun r hr => by rw [List.mem_singleton.1 hr]; rfl) (by decide) rfl (fun s hs => by cases hs) ?_
  refine qb1 ?_
  refine CJ_frzB (A := [_]) (wd := 2) (len := 2) (cap := 2) (rows := [XPlace.cells ⟨0, true⟩, XPlace.cells ⟨0, true⟩]) (subs := []) rfl (by decide) (by decide) (fun r hr => by simp only [List.mem_cons, List.not_mem_nil, or_false] at hr; rcases hr with rfl | rfl <;> rfl) (by decide) rfl (fun s hs => by cases hs) ?_
  refine qb1 ?_
  refine CJ_nil 4 (CJ_nil 3 (CJ_nil 1 ?_))
  obtain ⟨R1, hR1⟩ : ∃ R1, R1 = isl ⟨none, 0, []⟩ :: dsl ⟨none, 0, []⟩ :: fsl ⟨none, 0, []⟩ :: psl (awake13 b9 b13).mine.places :: rsl (awake13 b9 b13).mine.roads :: R := ⟨_, rfl⟩
  have hA : AirR (awake13 b9 b13) R1 := by rw [hR1]; exact ⟨inR_self (.tail _ (.tail _ (.tail _ (.head _)))), inR_self (.tail _ (.tail _ (.tail _ (.tail _ (.head _))))), inR_self (.tail _ (.tail _ (.head _))), inR_self (.tail _ (.head _))⟩
  have hS : SetR noSet10 R1 := by rw [hR1]; exact ⟨inR_self (.head _), inR_self (.head _)⟩
  refine CJ_weak (R' := R1) (List.Sublist.refl _) (fun r hr => inR_self (by rw [hR1] at hr; exact hr)) ?_
  refine qay ?_
  refine qbe ?_
  refine LJ_q (yv_build (qs := [(0, (Value.agg _).cells.toList)]) (out := [_, _, _, _]) tb rfl rfl rfl rfl) rfl ?_
  refine qck ?_
  refine LJ_call rfl (analyse_tri (awake13 b9 b13) noSet10 [true, true] _ _ hA hS (fun _ => awake13_airy _ _)) rfl ?_
  rintro v L' R' ⟨p, rfl, hpk, hpl, rfl, rfl⟩
  rw [awake13_ana] at hpl ⊢; dsimp only at hpl ⊢
  refine LJ_q (yv_move rfl) rfl ?_
  refine qbs ?_
  refine qbs ?_
  refine qc4 ?_
  refine qad ?_
  refine qa4 ?_
  refine CJ_frz1 (A := []) (wd := 2) [] (fun _ => rfl) (by decide) hpk (fun s hs => by cases hs) ?_
  refine CJ_L (by simp only [List.nil_append]; rfl) ?_
  obtain ⟨R2, hR2⟩ : ∃ R2, R2 = spsl p.arr :: R1 := ⟨_, rfl⟩
  have hp2 : InR (spsl p.arr) R2 := inR_self (by simp [hR2])
  refine CJ_R (show _ = R2 by rw [hR2]) ?_
  refine qay ?_
  refine LJ_q (yv_build (qs := [(1, (Value.int _ _).cells.toList), (7, (Value.int _ _).cells.toList)]) (out := [_, _, _, _, _, _, _, _]) tb rfl rfl rfl rfl) rfl ?_
  refine LJ_g (gives_buildSlice (qs := [(0, (Value.agg _).cells.toList)]) (out := [_, _, _, _, _, _, _, _]) tb rfl rfl rfl rfl rfl rfl rfl) rfl ?_
  rintro v L' R' ⟨b23, rfl, rfl, hR23⟩
  replace hR23 := hR23.symm; subst hR23
  refine qc4 ?_
  refine qam ?_
  refine qcd ?_
  refine LJ_g (gives_buildSlice (qs := [(0, (Value.agg _).cells.toList)]) (out := [_, _]) tb rfl rfl rfl rfl rfl rfl rfl) rfl ?_
  rintro v L' R' ⟨b26, rfl, rfl, hR26⟩
  replace hR26 := hR26.symm; subst hR26
  refine qbm ?_
  refine qcd ?_
  refine LJ_q (yv_build (qs := [(2, (Value.agg _).cells.toList)]) (out := [_, _, _, _]) tb rfl rfl rfl rfl) rfl ?_
  refine qcd ?_
  refine LJ_q (yv_build (qs := [(2, (Value.agg _).cells.toList)]) (out := [_, _, _, _]) tb rfl rfl rfl rfl) rfl ?_
  refine LJ_g (gives_buildSlice (qs := [(0, (Value.agg _).cells.toList), (1, (Value.agg _).cells.toList)]) (out := [_, _, _, _, _, _, _, _]) tb rfl rfl rfl rfl rfl rfl rfl) rfl ?_
  rintro v L' R' ⟨b32, rfl, rfl, hR32⟩
  replace hR32 := hR32.symm; subst hR32
  refine LJ_frz (wd := 4) (len := 2) (cap := 2) (rows := [XMeas.cells ⟨0, 0, ⟨55, 70⟩⟩, XMeas.cells ⟨0, 0, ⟨70, 80⟩⟩]) (subs := []) rfl (by decide) (by decide) (fun r hr => by simp only [List.mem_cons, List.not_mem_nil, or_false] at hr; rcases hr with rfl | rfl <;> rfl) (by decide) rfl (fun s hs => by cases hs) ?_
  refine LJ_frz (wd := 2) (len := 1) (cap := 1) (rows := [XSpan.cells ⟨40, 60⟩]) (subs := []) rfl (by decide) (by decide) (fun r hr => by rw [List.mem_singleton.1 hr]; rfl) (by decide) rfl (fun s hs => by cases hs) ?_
  refine LJ_frz (wd := 8) (len := 1) (cap := 1) (rows := [awake13S.cells]) (subs := []) rfl (by decide) (by decide) (fun r hr => by rw [List.mem_singleton.1 hr]; rfl) (by decide) rfl (fun s hs => by cases hs) ?_
  refine LJ_call rfl (tighten_tri ⟨some ⟨b26, 0, none⟩, 1, [⟨40, 60⟩]⟩ ⟨some ⟨b23, 0, none⟩, 1, [awake13S]⟩ ⟨some ⟨b32, 0, none⟩, 2, [⟨0, 0, ⟨55, 70⟩⟩, ⟨0, 0, ⟨70, 80⟩⟩]⟩ 1 _ _ (inR_self (.tail _ (.head _))) (inR_self (.head _)) (inR_self (.tail _ (.tail _ (.head _)))) (show 1 ≤ 1000 by decide) (show 1 ≤ 1000 by decide) (show 2 ≤ 1000 by decide) (fun x hx => by simp only [List.mem_cons, List.not_mem_nil, or_false] at hx; rcases hx with rfl | rfl <;> (rw [MeasOk]; decide)) (by decide)) rfl ?_
  rintro v L' R' ⟨p2, q2, rfl, ⟨k1, k2⟩, e1, e2, rfl, rfl⟩
  rw [awake13_nar] at e1 e2
  have e2' : q2.l = [0] := e2
  refine LJ_q (yv_move rfl) rfl ?_
  refine qbs ?_
  refine qbs ?_
  refine qc4 ?_
  refine qc4 ?_
  refine qa4 ?_
  have hn2 : p2.l.length = 1 := by rw [e1]; rfl
  obtain ⟨R3, hR3⟩ : ∃ R3, R3 = sesl ⟨some ⟨b23, 0, none⟩, 1, [awake13S]⟩ :: spsl ⟨some ⟨b26, 0, none⟩, 1, [⟨40, 60⟩]⟩ :: mesl ⟨some ⟨b32, 0, none⟩, 2, [⟨0, 0, ⟨55, 70⟩⟩, ⟨0, 0, ⟨70, 80⟩⟩]⟩ :: R2 := ⟨_, rfl⟩
  have hp3 : InR (spsl p.arr) R3 := hp2.mono fun r h => inR_self (by simp [hR3, h])
  have hpg : p.arr.l[0]? = some ⟨30, 30⟩ := by show p.l[0]? = _; rw [hpl]; rfl
  have hpn : p.arr.l.length = 1 := by show p.l.length = 1; rw [hpl]; rfl
  have hpn2 : p.l.length = 1 := hpn
  refine CJ_R (show _ = R3 by rw [hR3]; rfl) ?_
  have hRR : ∀ r ∈ R, InR r R3 := fun r h => inR_self (by simp [hR3, hR2, hR1, h])
  refine qay ?_
  refine qaa ?_
  refine qbn ?_
  refine qah ?_
  apply LJ_and (G := [_, _, _, _]) (j := 2) (cj := 38) rfl rfl (by rfl) rfl (show _ = Value.bool _ from rfl) rfl
  ·
   intro hg3
   replace hg3 := qb hg3
   refine qbm ?_
   refine qcd ?_
   refine LJ_g (gives_buildSlice (qs := [(0, (Value.agg _).cells.toList)]) (out := [_, _]) tb rfl rfl rfl rfl rfl rfl rfl) rfl ?_
   rintro v L' R' ⟨b41, rfl, rfl, hR41⟩
   replace hR41 := hR41.symm; subst hR41
   refine LJ_frz (wd := 2) (len := 1) (cap := 1) (rows := [XSpan.cells ⟨30, 30⟩]) (subs := []) rfl (by decide) (by decide) (fun r hr => by rw [List.mem_singleton.1 hr]; rfl) (by decide) rfl (fun s hs => by cases hs) ?_
   refine q_l rfl (spans_tri p.arr ⟨some ⟨b41, 0, none⟩, 1, [⟨30, 30⟩]⟩ _ _ (hp3.mono fun r h => inR_self (.tail _ h)) (inR_self (.head _)) hpl) ?_
   exact qai
  intro junk3
  refine qah ?_
  apply LJ_and (G := [_, _, _]) (j := 8) (cj := 44) rfl rfl (by rfl) rfl (show _ = Value.bool _ from rfl) rfl
  ·
   intro hg9
   replace hg9 := qb hg9
   refine qbm ?_
   refine qag ?_
   refine qbn ?_
   exact qai
  intro junk9
  refine qah ?_
  apply LJ_and (G := [_, _, _]) (j := 13) (cj := 49) rfl rfl (by rfl) rfl (show _ = Value.bool _ from rfl) rfl
  ·
   intro hg14
   replace hg14 := qb hg14
   refine qbm ?_
   refine qcx ?_
   rintro v L' R' ⟨b51, rfl, rfl, hR51⟩
   replace hR51 := hR51.symm; subst hR51
   refine LJ_frz (wd := 1) (len := 1) (cap := 1) (rows := [icell 0]) (subs := []) rfl (by decide) (by decide) (fun r hr => by rw [List.mem_singleton.1 hr]; rfl) (by decide) rfl (fun s hs => by cases hs) ?_
   refine q_l rfl (ints_lend13 (y := ⟨some ⟨b51, 0, none⟩, 1, [0]⟩) (by repeat (first | exact inB_here | apply inB_cons | apply inB_app)) k2 (inR_self (.head _)) e2') ?_
   exact qai
  intro junk14
  refine qah ?_
  apply LJ_and (G := [_, _, _, _, _]) (j := 18) (cj := 54) rfl rfl (by rfl) rfl (show _ = Value.bool _ from rfl) rfl
  ·
   intro hg19
   replace hg19 := qb hg19
   refine qbm ?_
   refine qdt ?_
   refine qdl ?_
   refine q_l rfl (direction_tri ⟨30, 30⟩ _ _) ?_
   refine qbn ?_
   exact qai
  intro junk19
  refine qah ?_
  apply LJ_and (G := [_, _, _, _, _, _]) (j := 25) (cj := 61) rfl rfl (by rfl) rfl (show _ = Value.bool _ from rfl) rfl
  ·
   intro hg26
   replace hg26 := qb hg26
   refine qbm ?_
   refine LJ_q (yv_build (qs := [(1, (Value.int _ _).cells.toList)]) (out := [_, _]) tb rfl rfl rfl rfl) rfl ?_
   refine LJ_g (gives_buildSlice (qs := [(0, (Value.agg _).cells.toList)]) (out := [_, _]) tb rfl rfl rfl rfl rfl rfl rfl) rfl ?_
   rintro v L' R' ⟨b64, rfl, rfl, hR64⟩
   replace hR64 := hR64.symm; subst hR64
   refine LJ_frz (wd := 2) (len := 1) (cap := 1) (rows := [XFace.cells ⟨0, 31⟩]) (subs := []) rfl (by decide) (by decide) (fun r hr => by rw [List.mem_singleton.1 hr]; rfl) (by decide) rfl (fun s hs => by cases hs) ?_
   refine LJ_call rfl (fedL_tri p.arr ⟨some ⟨b64, 0, none⟩, 1, [⟨0, 31⟩]⟩ _ _ (hp3.mono fun r h => inR_self (by simp [h])) (inR_self (.head _)) (fun f hf => by rw [List.mem_singleton.1 hf]; decide) (show 1 ≤ 1000 by decide) (by omega)) rfl ?_
   rintro v L' R' ⟨r, rfl, hrk, hrl, rfl, rfl⟩
   have hrl' : r.l = [-1] := by rw [hrl]; show fedL p.l _ = _; rw [hpl]; exact awake13_fed
   refine qcx ?_
   rintro v L' R' ⟨b66, rfl, rfl, hR66⟩
   replace hR66 := hR66.symm; subst hR66
   refine LJ_frz (wd := 1) (len := 1) (cap := 1) (rows := [icell (-1)]) (subs := []) rfl (by decide) (by decide) (fun r hr => by rw [List.mem_singleton.1 hr]; rfl) (by decide) rfl (fun s hs => by cases hs) ?_
   refine q_l rfl (ints_lend13 (y := ⟨some ⟨b66, 0, none⟩, 1, [-1]⟩) (by repeat (first | exact inB_here | apply inB_cons | apply inB_app)) hrk (inR_self (.head _)) hrl') ?_
   exact qai
  intro junk26
  refine qaz ?_
  refine qa0 ?_
  refine retK_ret (L' := L) (R' := R) (res1 rfl (rv_tmp (show _ = Value.bool _ from rfl))) ?hp ?hL ?hR
  case hp => exact ⟨by rw [hn2]; rfl, rfl, rfl⟩
  case hL => exact (by repeat (first | exact zs0 _ | exact zs1 _ | apply zs2 | apply zs3 | apply zs4 | apply zs5))
  case hR => exact hRR
end Go.Proofs.Ytlgjgigciapkfaa
