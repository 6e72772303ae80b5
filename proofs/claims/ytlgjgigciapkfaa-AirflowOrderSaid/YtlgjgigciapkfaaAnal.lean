/-
  What is known of the air: airflow.Analyse and the reference's; the direction of a span. By an AI agent; no person has read it.
-/
import Derived.Test.YtlgjgigciapkfaaRelS
import Derived.Test.YtlgjgigciapkfaaCflowC
set_option linter.unusedSimpArgs false
set_option linter.unusedVariables false
namespace Go.Proofs.Ytlgjgigciapkfaa
open Go.Aw Go
set_option maxRecDepth 20000
attribute [local irreducible] CJ LJ DJ Tri YV Gives seqK blockK loopK retK RV mergeK OwL.L

theorem boundFlows_congr {a : XAir} {s : XSetting} {b b' : XBounds} {A : List Bool} (h1 : b.low.l = b'.low.l) (h2 : b.high.l = b'.high.l) : boundFlows a s b A = boundFlows a s b' A := by
  have e1 : nodeBad a s b A = nodeBad a s b' A := funext fun i => by rw [nodeBad, nodeBad, h1, h2]
  have e2 : checkS a s b A = checkS a s b' A := by rw [checkS, checkS, h1, h2, e1]
  have e3 : roadFlow a s b A = roadFlow a s b' A := funext fun i => by rw [roadFlow, roadFlow, h1, h2]
  rw [boundFlows, boundFlows, e2, e3]
def foundB (a : XAir) (s : XSetting) (A : List Bool) : XBounds := ⟨⟨none, 0, (solveS a s A).2.1⟩, ⟨none, 0, (solveS a s A).2.2⟩⟩
/-- where nothing is known -/
def blindF (a : XAir) (k : Nat) : XSpan := if (a.mine.roads.l.getD k default).closed = true then ⟨0, 0⟩ else nothingS
/-- P13.1 -/
def anaS (a : XAir) (s : XSetting) (A : List Bool) : Int × List XSpan :=
  if airErr a ≠ 0 then (airErr a, []) else if fitB a s = false then (21, []) else if (solveS a s A).1 = 0 then (0, boundFlows a s (foundB a s A) A)
  else (0, (List.range a.mine.roads.l.length).map (blindF a))

theorem sensNothing_tri (L : List Blk) (R : List Sl) :
    Tri Try.prog 75 [].toArray L R (fun v L' R' => v = nothingS.val ∧ L = L' ∧ R = R') := by
  refine tri_enter 2 Try.call75 Try.func75 rfl rfl rfl ?_
  refine qae ?_
  refine qaq ?_
  intro b0
  refine qam ?_
  refine qcd ?_
  refine qak ?_
  refine qa0 ?_
  refine q_r (L' := L) (R' := R) (res1 rfl (rv_cell (row := [_, _]) tb rfl rfl rfl (by repeat (first | exact zi0 | apply zi1 | apply zi2)) (by rfl) (by rfl))) ?_
  exact ⟨rfl, rfl, rfl⟩

/-- spans written up to road i -/
structure BlindTo (a : XAir) (i : Nat) (l : List XSpan) : Prop where
  len : l.length = a.mine.roads.l.length
  don : ∀ j : Nat, j < i → l[j]? = some (blindF a j)
  non : ∀ j : Nat, i ≤ j → j < a.mine.roads.l.length → l[j]? = some ⟨0, 0⟩
theorem BlindTo.next {a : XAir} {i : Nat} {l : List XSpan} (h : BlindTo a i l) (hi : i < a.mine.roads.l.length) {x : XSpan} (hx : x = blindF a i) : BlindTo a (i + 1) (l.set i x) := by
  have hl := h.len
  refine ⟨by simp [hl], fun j hj => ?_, fun j h1 h2 => ?_⟩
  · rw [List.getElem?_set]
    split
    · rename_i e; rw [if_pos (by omega), hx, e]
    · exact h.don j (by omega)
  · rw [List.getElem?_set_ne (by omega)]
    exact h.non j (by omega) h2
theorem BlindTo.stay {a : XAir} {i : Nat} {l : List XSpan} (h : BlindTo a i l) (hi : i < a.mine.roads.l.length) (hx : (⟨0, 0⟩ : XSpan) = blindF a i) : BlindTo a (i + 1) l := by
  refine ⟨h.len, fun j hj => ?_, fun j h1 h2 => h.non j (by omega) h2⟩
  rcases Nat.lt_or_ge j i with h1 | h1
  · exact h.don j h1
  · obtain rfl : j = i := by omega
    rw [h.non j (Nat.le_refl _) hi, hx]
theorem BlindTo.done {a : XAir} {l : List XSpan} (h : BlindTo a a.mine.roads.l.length l) : l = (List.range a.mine.roads.l.length).map (blindF a) := by
  have hl := h.len
  refine List.ext_getElem? fun j => ?_
  rcases Nat.lt_or_ge j a.mine.roads.l.length with hj | hj
  · rw [h.don j hj, List.getElem?_map, List.getElem?_range hj]; rfl
  · rw [List.getElem?_eq_none (by omega), List.getElem?_eq_none (by simp; omega)]

theorem analyse_tri (a : XAir) (s : XSetting) (A : List Bool) (L : List Blk) (R : List Sl) (hm : AirR a R) (hs : SetR s R) (hA : airErr a = 0 → AiryIs a.mine A) :
    Tri Try.prog 52 [a.val, s.val].toArray L R (fun w L' R' => ∃ p : OwL XSpan, w = .tuple #[p.val, .int .i64 (anaS a s A).1] ∧ p.ok 2 XSpan.cells ∧ p.l = (anaS a s A).2 ∧ p.L 59 XSpan.cells ++ L = L' ∧ R = R') := by
  have hmr := hm.roads
  refine tri_enter 56 Try.call52 Try.func52 rfl rfl rfl ?_
  refine qae ?_
  refine qax ?_
  intro b2
  refine qax ?_
  intro b3
  refine qc4 ?_
  refine qad ?_
  refine qaw ?_
  refine qa8 ?_
  refine q_l rfl (branchCheck_tri a _ _ hm) ?_
  refine qad ?_
  refine qam ?_
  refine qaa ?_
  refine qbq ?_
  refine qaf ?_
  refine q_c (fun hc0 => ?_) (fun hc0 => ?_)
  ·
   refine qae ?_
   refine qaa ?_
   refine qc4 ?_
   refine qad ?_
   refine qbh ?_
   refine q_r (L' := L) (R' := R) (res2 rfl (rv_tmp (show _ = Value.slice _ _ _ from rfl)) (rv_tmp (show _ = Value.int _ _ from rfl))) ?_
   exact ⟨OwL.nil, by rw [anaS, if_pos hc0]; rfl, OwL.nil_ok, by rw [anaS, if_pos hc0], by rw [nil_L, List.nil_append], rfl⟩
  ·
   have h0 : airErr a = 0 := by omega
   have hok := airOk_of h0
   have hnp := hok.mine.places
   have hnr := hok.mine.roads
   refine qbo ?_
   refine qa8 ?_
   refine qbe ?_
   refine q_l rfl (fitting_tri a s _ _ hm hs) ?_
   refine qb4 ?_
   refine qaf ?_
   refine q_c (fun hc1 => ?_) (fun hc1 => ?_)
   ·
    refine qae ?_
    refine qc4 ?_
    refine qad ?_
    refine qbh ?_
    refine q_r (L' := L) (R' := R) (res2 rfl (rv_tmp (show _ = Value.slice _ _ _ from rfl)) (rv_tmp (show _ = Value.int _ _ from rfl))) ?_
    exact ⟨OwL.nil, by rw [anaS, if_neg hc0, if_pos (by simpa using hc1)]; rfl, OwL.nil_ok, by rw [anaS, if_neg hc0, if_pos (by simpa using hc1)], by rw [nil_L, List.nil_append], rfl⟩
   ·
    have hf0 : fitB a s = true := by simpa using hc1
    have hff : ¬ fitB a s = false := by rw [hf0]; decide
    refine qbo ?_
    refine qa8 ?_
    refine qbe ?_
    refine LJ_call rfl (relSolve_tri a s A _ _ hm hs hA (by omega)) rfl ?_
    rintro v L' R' ⟨lo, hi, rfl, h1, h2, h3, h4, rfl, rfl⟩
    refine LJ_q (yv_move rfl) rfl ?_
    refine qbs ?_
    refine qbs ?_
    refine qaq ?_
    intro b7
    refine qak ?_
    refine qad ?_
    refine qa4 ?_
    refine CJ_frz1 (A := [_]) (wd := 1) [] (fun _ => rfl) (by decide) h1 (fun s hs => by cases hs) ?_
    refine qb1 ?_
    refine CJ_frz1 (A := [_]) (wd := 1) [] (fun _ => rfl) (by decide) h2 (fun s hs => by cases hs) ?_
    refine qb1 ?_
    have hR2 : ∀ r ∈ R, InR r (isl hi.arr :: isl lo.arr :: R) := fun r hr => inR_self (by simp [hr])
    have hB2 : BoundsR ⟨lo.arr, hi.arr⟩ (isl hi.arr :: isl lo.arr :: R) := ⟨inR_self (.tail _ (.head _)), inR_self (.head _)⟩
    have hmr2 := hmr.mono hR2
    refine qay ?_
    refine qaa ?_
    refine qbn ?_
    refine qaf ?_
    refine q_c (fun hc2 => ?_) (fun hc2 => ?_)
    ·
     refine qae ?_
     refine qa8 ?_
     refine qbe ?_
     refine qbe ?_
     refine LJ_call rfl (bflow_tri a s ⟨lo.arr, hi.arr⟩ A _ _ (airR_mono hm hR2) (setR_mono hs hR2) hB2 hA) rfl ?_
     rintro v L' R' ⟨p, S, rfl, hpk, hpl, rfl, rfl⟩
     refine qc4 ?_
     refine qad ?_
     refine qbh ?_
     refine retK_ret (L' := p.L 59 XSpan.cells ++ L) (R' := R) (res2 rfl (rv_tmp (show _ = Value.slice _ _ _ from rfl)) (rv_tmp (show _ = Value.int _ _ from rfl))) ?hp ?hL ?hR
     case hp =>
      have ha : anaS a s A = (0, boundFlows a s (foundB a s A) A) := by rw [anaS, if_neg hc0, if_neg hff, if_pos hc2]
      exact ⟨p, by rw [ha]; rfl, hpk, by rw [ha, hpl]; exact boundFlows_congr h3 h4, rfl, rfl⟩
     case hL => exact (by repeat (first | exact zs0 _ | exact zs1 _ | apply zs2 | apply zs3 | apply zs4 | apply zs5))
     case hR => exact fun r h => inR_self (by simp [h])
    ·
     refine qbv ?_
     refine qab ?_
     refine qab ?_
     refine qac ?_
     refine qag ?_
     refine qc7 ?_
     rintro v L' R' ⟨b37, rfl, rfl, hR37⟩
     replace hR37 := hR37.symm; subst hR37
     refine qc4 ?_
     refine qco ?_
     refine CJ_L (made_ow (f := XSpan.cells) (x := ⟨0, 0⟩) rfl _) ?_
     refine qay ?_
     refine qab ?_
     refine qab ?_
     refine qac ?_
     refine qag ?_
     refine qaa ?_
     refine qa2 ?_
     refine CJ_forget [(9, Value.slice _ _ _), (40, Value.slice _ _ _), (41, Value.int _ _), (42, Value.int _ _)] (by repeat' (first | exact trivial | refine And.intro rfl ?_)) fun tq0 => ?_
     refine q_p [10, 11, 42, 43, 44, 45, 46, 47, 48, 49, 50, 51, 52, 53, 54] ((⟨fun g => [(42, .int .i64 ((g.1.1 : Nat) : Int))], fun g => (⟨.own b37 a.mine.roads.l.length [], g.1.2⟩ : OwL XSpan).L 59 XSpan.cells ++ (⟨b7, [lo.val, hi.val], 164⟩ :: ⟨b3, s.cells, 40⟩ :: ⟨b2, a.cells, 30⟩ :: L), fun _ => isl hi.arr :: isl lo.arr :: R, fun g => a.mine.roads.l.length - g.1.1⟩ : Head {g : Nat × List XSpan // g.1 ≤ a.mine.roads.l.length ∧ BlindTo a g.1 g.2})) (⟨(0, List.replicate a.mine.roads.l.length ⟨0, 0⟩), by dsimp only; omega, ⟨by simp, fun j hj => by omega, fun j _ hj => by rw [List.getElem?_replicate, if_pos hj]⟩⟩) ?_
     rintro ⟨⟨k, l⟩, w1, w2⟩ junk
     try dsimp only
     dsimp only at w1 w2
     have hll := w2.len
     have hkq : (⟨.own b37 a.mine.roads.l.length [], l⟩ : OwL XSpan).ok 2 XSpan.cells := by have := made_ok (f := XSpan.cells) (wd := 2) (b := b37) (n := a.mine.roads.l.length) (x := ⟨0, 0⟩) (fun _ => rfl) (by simp only [maxLen]; omega); exact OwL.len_ok (fun _ => rfl) this (by simp; exact hll)
     refine qae ?_
     refine qaj ?_
     refine qa4 ?_
     refine q_c (fun hc3 => ?_) (fun hc3 => ?_)
     ·
      have hrg := get_D (l := a.mine.roads.l) (k := k) default (by omega)
      have hlg := w2.non k (Nat.le_refl _) (by omega)
      refine qbb ?_
      refine qaa ?_
      refine LJ_q (by first | exact yv_index_ro tb rfl rfl rfl rfl (by first | assumption | exact zr (by simp)) (i := k) (by first | rfl | omega | (simp; omega)) (by omega) | exact yv_index tb rfl rfl rfl rfl (i := k) (by first | rfl | omega | (simp; omega)) (by omega)) rfl ?_
      refine qc8 ?_
      refine qaq ?_
      intro b11
      refine qad ?_
      refine qak ?_
      refine qam ?_
      refine qab ?_
      refine qac ?_
      refine qb4 ?_
      refine qaf ?_
      refine q_c (fun hc4 => ?_) (fun hc4 => ?_)
      ·
       have hbf : nothingS = blindF a k := by rw [blindF, if_neg (by simpa using hc4)]
       refine qay ?_
       refine qbm ?_
       refine qaa ?_
       refine q_l rfl (sensNothing_tri _ _) ?_
       refine LJ_q (yv_index_ow tb ((⟨.own b37 a.mine.roads.l.length [], l⟩ : OwL XSpan)) _ rfl rfl ((show _ = Value.slice _ _ _ from rfl).trans (own_val hll)) rfl (by assumption) (i := k) (by first | rfl | omega | (simp; omega)) (by first | omega | (dsimp only; omega) | (dsimp only; rw [List.length_set]; omega))) rfl ?_
       refine LJ_g0 (gives_storeN_ow tb ((⟨.own b37 a.mine.roads.l.length [], l⟩ : OwL XSpan)) (nothingS) rfl rfl rfl rfl (by repeat (first | apply OSeg.cons | exact OSeg.here | exact OSeg.last | exact OSeg.at (by assumption) | apply OSeg.app)) (by assumption) (fun _ => rfl) (by assumption) (Nat.le_of_ble_eq_true rfl) (by rfl) (by rfl)) ?_
       rintro v L' R' ⟨rfl, rfl⟩
       refine qcs ?_
       refine qar ?_
       refine qaa ?_
       refine qav ?_
       exact q_k ⟨(k + 1, l.set k nothingS), by dsimp only; omega, w2.next (by omega) hbf⟩
      ·
       have hbf : (⟨0, 0⟩ : XSpan) = blindF a k := by rw [blindF, if_pos (by simpa using hc4)]
       refine qbj ?_
       refine qar ?_
       refine qaa ?_
       refine qav ?_
       exact q_k ⟨(k + 1, l), by dsimp only; omega, w2.stay (by omega) hbf⟩
     ·
      obtain rfl : k = a.mine.roads.l.length := by omega
      refine qbk ?_
      refine qbm ?_
      refine qc4 ?_
      refine qad ?_
      refine qa0 ?_
      refine retK_ret (L' := (⟨.own b37 a.mine.roads.l.length [], l⟩ : OwL XSpan).L 59 XSpan.cells ++ L) (R' := R) (res2 rfl (rv_tmp (show _ = Value.slice _ _ _ from rfl)) (rv_tmp (show _ = Value.int _ _ from rfl))) ?hp ?hL ?hR
      case hp =>
       have ha : anaS a s A = (0, (List.range a.mine.roads.l.length).map (blindF a)) := by rw [anaS, if_neg hc0, if_neg hff, if_neg hc2]
       exact ⟨(⟨.own b37 a.mine.roads.l.length [], l⟩ : OwL XSpan), by rw [ha]; simp only [OwL.val, Ow.addr, Ow.cap, hll], hkq, by rw [ha]; exact w2.done, rfl, rfl⟩
      case hL => exact (by repeat (first | exact zs0 _ | exact zs1 _ | apply zs2 | apply zs3 | apply zs4 | apply zs5))
      case hR => exact fun r h => inR_self (by simp [h])

/-- P13.2 -/
def dirS (x : XSpan) : Int := if x.high < x.low then 0 else if 0 < x.low then 1 else if x.high < 0 then -1 else 0
theorem direction_tri (x : XSpan) (L : List Blk) (R : List Sl) :
    Tri Try.prog 97 [x.val].toArray L R (fun v L' R' => v = .int .i64 (dirS x) ∧ L = L' ∧ R = R') := by
  refine tri_enter 17 Try.call97 Try.func97 rfl rfl rfl ?_
  refine qae ?_
  refine qax ?_
  intro b1
  refine qad ?_
  refine LJ_nil (seqK_normal (CJ_seq (CJ_block (CJ_seq (CJ_region ?_)))))
  refine qab ?_
  refine qac ?_
  refine qab ?_
  refine qac ?_
  refine qa5 ?_
  refine qaz ?_
  refine qaf ?_
  refine q_c (fun hc0 => ?_) (fun hc0 => ?_)
  ·
   refine qae ?_
   refine qad ?_
   refine qdb ?_
   refine q_i (L' := L) (R' := R) ?_
   exact ⟨by rw [dirS, if_pos hc0], rfl, rfl⟩
  ·
   refine qae ?_
   refine qab ?_
   refine qac ?_
   refine qa5 ?_
   refine qaz ?_
   refine qaf ?_
   refine q_c (fun hc1 => ?_) (fun hc1 => ?_)
   ·
    refine qae ?_
    refine qad ?_
    refine qdb ?_
    refine q_i (L' := L) (R' := R) ?_
    exact ⟨by rw [dirS, if_neg (by omega), if_pos hc1], rfl, rfl⟩
   ·
    refine qae ?_
    refine qab ?_
    refine qac ?_
    refine qaj ?_
    refine qaz ?_
    refine qaf ?_
    refine q_c (fun hc2 => ?_) (fun hc2 => ?_)
    ·
     refine qae ?_
     refine qad ?_
     refine qdb ?_
     refine q_i (L' := L) (R' := R) ?_
     exact ⟨by rw [dirS, if_neg (by omega), if_neg (by omega), if_pos hc2], rfl, rfl⟩
    ·
     refine CJ_skip (blockK_normal (seqK_normal (CJ_seq (CJ_region ?_))))
     refine qad ?_
     refine qa0 ?_
     refine q_i (L' := L) (R' := R) ?_
     exact ⟨by rw [dirS, if_neg (by omega), if_neg (by omega), if_neg (by omega)], rfl, rfl⟩

end Go.Proofs.Ytlgjgigciapkfaa
