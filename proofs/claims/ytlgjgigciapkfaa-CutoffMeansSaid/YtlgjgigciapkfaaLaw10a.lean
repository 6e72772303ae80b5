import Derived.Test.YtlgjgigciapkfaaRel
import Derived.Test.YtlgjgigciapkfaaComp
import Derived.Test.YtlgjgigciapkfaaCflow
import Derived.Test.YtlgjgigciapkfaaNets
import Derived.Test.YtlgjgigciapkfaaFits
section
/-
  The program's bounds. By an AI agent; no person has read it.
-/
set_option linter.unusedSimpArgs false
set_option linter.unusedVariables false
namespace Go.Proofs.Ytlgjgigciapkfaa
open Go.Aw Go
set_option maxRecDepth 20000
attribute [local irreducible] CJ LJ DJ Tri YV Gives seqK blockK loopK retK RV mergeK OwL.L

end Go.Proofs.Ytlgjgigciapkfaa
end
section
/-
  The state of certify.Flows' loop, in plain numbers. By an AI agent; no person has read it.
-/
set_option linter.unusedSimpArgs false
set_option linter.unusedVariables false
namespace Go.Proofs.Ytlgjgigciapkfaa
open Go.Aw Go

end Go.Proofs.Ytlgjgigciapkfaa
end
section
/-
  certify.Flows. By an AI agent; no person has read it.
-/
set_option linter.unusedSimpArgs false
set_option linter.unusedVariables false
namespace Go.Proofs.Ytlgjgigciapkfaa
open Go.Aw Go
set_option maxRecDepth 20000
attribute [local irreducible] CJ LJ DJ Tri YV Gives seqK blockK loopK retK RV mergeK OwL.L

end Go.Proofs.Ytlgjgigciapkfaa
end
section
/-
  What is known of the air: airflow.Analyse and the reference's; the direction of a span. By an AI agent; no person has read it.
-/
set_option linter.unusedSimpArgs false
set_option linter.unusedVariables false
namespace Go.Proofs.Ytlgjgigciapkfaa
open Go.Aw Go
set_option maxRecDepth 20000
attribute [local irreducible] CJ LJ DJ Tri YV Gives seqK blockK loopK retK RV mergeK OwL.L

section
variable {A9 B9 : Prop}
theorem ya5aa (a : A9) (h : A9 → B9 := by exact LJ_g (gives_buildSlice (qs := [(0, (Value.agg _).cells.toList)]) (out := [_, _]) tb rfl rfl rfl rfl rfl rfl rfl) rfl) : B9 := h a
theorem ya5ab (a : A9) (h : A9 → B9 := by exact LJ_g (gives_append1 (f := XSpan.cells) (a := ⟨_, _⟩) tb rfl rfl rfl rfl (w2) (by repeat (first | apply OSeg.cons | exact OSeg.here | exact OSeg.last | exact OSeg.at (by assumption) | apply OSeg.app)) (shown_own (by repeat (first | exact zi0 | apply zi1 | apply zi2)) rfl rfl) rfl (by first | omega | (simp only [List.length_cons, List.length_nil, List.length_append]; omega))) rfl) : B9 := h a
end
theorem boundFlows_congr {a : XAir} {s : XSetting} {b b' : XBounds} {A : List Bool} (h1 : b.low.l = b'.low.l) (h2 : b.high.l = b'.high.l) : boundFlows a s b A = boundFlows a s b' A := by
  have e1 : nodeBad a s b A = nodeBad a s b' A := funext fun i => by rw [nodeBad, nodeBad, h1, h2]
  have e2 : checkS a s b A = checkS a s b' A := by rw [checkS, checkS, h1, h2, e1]
  have e3 : roadFlow a s b A = roadFlow a s b' A := funext fun i => by rw [roadFlow, roadFlow, h1, h2]
  rw [boundFlows, boundFlows, e2, e3]
def foundB (a : XAir) (s : XSetting) (A : List Bool) : XBounds := ⟨⟨none, 0, (solveS a s A).2.1⟩, ⟨none, 0, (solveS a s A).2.2⟩⟩
def blindF (a : XAir) (k : Nat) : XSpan := if (a.mine.roads.l.getD k default).closed = true then ⟨0, 0⟩ else nothingS
def anaS (a : XAir) (s : XSetting) (A : List Bool) : Int × List XSpan :=
  if airErr a ≠ 0 then (airErr a, []) else if fitB a s = false then (21, []) else if (solveS a s A).1 = 0 then (0, boundFlows a s (foundB a s A) A)
  else (0, (List.range a.mine.roads.l.length).map (blindF a))

theorem sensNothing_tri (L : List Blk) (R : List Sl) :
    Tri Try.prog 75 [].toArray L R (fun v L' R' => v = nothingS.val ∧ L = L' ∧ R = R') := by
  refine tri_enter 2 Try.call75 Try.func75 rfl rfl rfl ?_
  refine qae ?_
  refine qaq ?_
  intro b0
  refine qam ?_
  refine qcd ?_
  refine qak ?_
  refine qa0 ?_
  refine q_r (L' := L) (R' := R) (res1 rfl (rv_cell (row := [_, _]) tb rfl rfl rfl (by repeat (first | exact zi0 | apply zi1 | apply zi2)) (by rfl) (by rfl))) ?_
  exact ⟨rfl, rfl, rfl⟩

theorem refAnalyse_tri (a : XAir) (s : XSetting) (A : List Bool) (L : List Blk) (R : List Sl) (hm : AirR a R) (hs : SetR s R) (hA : airErr a = 0 → AiryIs a.mine A) :
    Tri Try.prog 40 [a.val, s.val].toArray L R (fun w L' R' => ∃ p : OwL XSpan, w = .tuple #[p.val, .int .i64 (anaS a s A).1] ∧ p.ok 2 XSpan.cells ∧ p.l = (anaS a s A).2 ∧ p.L 59 XSpan.cells ++ L = L' ∧ R = R') := by
  have hmr := hm.roads
  refine tri_enter 56 Try.call40 Try.func40 rfl rfl rfl ?_
  refine qae ?_
  refine qax ?_
  intro b2
  refine qax ?_
  intro b3
  refine qc4 ?_
  refine qad ?_
  refine qaw ?_
  refine qa8 ?_
  refine q_l rfl (ref09Check_tri a _ _ hm) ?_
  refine qad ?_
  refine qam ?_
  refine qaa ?_
  refine qbq ?_
  refine qaf ?_
  refine q_c (fun hc0 => ?_) (fun hc0 => ?_)
  ·
   refine qae ?_
   refine qaa ?_
   refine qc4 ?_
   refine qad ?_
   refine qbh ?_
   refine q_r (L' := L) (R' := R) (res2 rfl (rv_tmp (show _ = Value.slice _ _ _ from rfl)) (rv_tmp (show _ = Value.int _ _ from rfl))) ?_
   exact ⟨OwL.nil, by rw [anaS, if_pos hc0]; rfl, OwL.nil_ok, by rw [anaS, if_pos hc0], by rw [nil_L, List.nil_append], rfl⟩
  have h0 : airErr a = 0 := by omega
  have hok := airOk_of h0
  have hnp := hok.mine.places
  have hnr := hok.mine.roads
  refine qbo ?_
  refine qa8 ?_
  refine qbe ?_
  refine q_l rfl (ref09Right_tri a s _ _ hm hs) ?_
  refine qb4 ?_
  refine qaf ?_
  refine q_c (fun hc1 => ?_) (fun hc1 => ?_)
  ·
   refine qae ?_
   refine qc4 ?_
   refine qad ?_
   refine qbh ?_
   refine q_r (L' := L) (R' := R) (res2 rfl (rv_tmp (show _ = Value.slice _ _ _ from rfl)) (rv_tmp (show _ = Value.int _ _ from rfl))) ?_
   have hf1 : fitB a s = false := by simpa [rightB, h0] using hc1
   exact ⟨OwL.nil, by rw [anaS, if_neg hc0, if_pos hf1]; rfl, OwL.nil_ok, by rw [anaS, if_neg hc0, if_pos hf1], by rw [nil_L, List.nil_append], rfl⟩
  have hf0 : fitB a s = true := by simpa [rightB, h0] using hc1
  have hff : ¬ fitB a s = false := by rw [hf0]; decide
  refine qbv ?_
  refine qa8 ?_
  refine qbe ?_
  refine LJ_call rfl (ref12solve_tri a s A _ _ hm hs hA (by omega)) rfl ?_
  rintro v L' R' ⟨lo, hi, rfl, h1, h2, h3, h4, rfl, rfl⟩
  refine LJ_q (yv_move rfl) rfl ?_
  refine qbs ?_
  refine qbs ?_
  refine qaq ?_
  intro b7
  refine qak ?_
  refine qad ?_
  refine qco ?_
  refine CJ_frz1 (A := [_]) (wd := 1) [] (fun _ => rfl) (by decide) h1 (fun s hs => by cases hs) ?_
  refine qb1 ?_
  refine CJ_frz1 (A := [_]) (wd := 1) [] (fun _ => rfl) (by decide) h2 (fun s hs => by cases hs) ?_
  refine qb1 ?_
  have hR2 : ∀ r ∈ R, InR r (isl hi.arr :: isl lo.arr :: R) := fun r hr => inR_self (by simp [hr])
  have hB2 : BoundsR ⟨lo.arr, hi.arr⟩ (isl hi.arr :: isl lo.arr :: R) := ⟨inR_self (.tail _ (.head _)), inR_self (.head _)⟩
  have hmr2 := hmr.mono hR2
  refine qay ?_
  refine qaa ?_
  refine qbn ?_
  refine qaf ?_
  refine q_c (fun hc2 => ?_) (fun hc2 => ?_)
  ·
   refine qae ?_
   refine qa8 ?_
   refine qbe ?_
   refine qbe ?_
   refine LJ_call rfl (refBflow_tri a s ⟨lo.arr, hi.arr⟩ A _ _ (airR_mono hm hR2) (setR_mono hs hR2) hB2 hA) rfl ?_
   rintro v L' R' ⟨p, rfl, hpk, hpl, rfl, rfl⟩
   refine qc4 ?_
   refine qad ?_
   refine qbh ?_
   refine retK_ret (L' := p.L 59 XSpan.cells ++ L) (R' := R) (res2 rfl (rv_tmp (show _ = Value.slice _ _ _ from rfl)) (rv_tmp (show _ = Value.int _ _ from rfl))) ?hp ?hL ?hR
   case hp =>
    have ha : anaS a s A = (0, boundFlows a s (foundB a s A) A) := by rw [anaS, if_neg hc0, if_neg hff, if_pos hc2]
    exact ⟨p, by rw [ha]; rfl, hpk, by rw [ha, hpl]; exact boundFlows_congr h3 h4, rfl, rfl⟩
   case hL => exact (by repeat (first | exact zs0 _ | exact zs1 _ | apply zs2 | apply zs3 | apply zs4 | apply zs5))
   case hR => exact fun r h => inR_self (by simp [h])
  refine qbv ?_
  refine qc4 ?_
  refine qaw ?_
  refine qad ?_
  refine qa2 ?_
  refine CJ_forget [(2, Value.pointer _), (9, Value.slice _ _ _), (10, Value.int _ _)] (by repeat' (first | exact trivial | refine And.intro rfl ?_)) fun tq0 => ?_
  refine CJ_loop [9, 10, 11, 33, 34, 35, 36, 37, 38, 39, 40, 41, 42, 43, 44, 45, 46, 47, 48, 49, 50, 51, 52, 53, 54] ((⟨fun g => [(10, .int .i64 ((g.1.1 : Nat) : Int)), (9, g.1.2.val)], fun g => g.1.2.L 59 XSpan.cells ++ (⟨b7, [lo.val, hi.val], 164⟩ :: ⟨b3, s.cells, 40⟩ :: ⟨b2, a.cells, 30⟩ :: L), fun _ => isl hi.arr :: isl lo.arr :: R, fun g => a.mine.roads.l.length - g.1.1⟩ : Head {g : Nat × OwL XSpan // g.1 ≤ a.mine.roads.l.length ∧ g.2.ok 2 XSpan.cells ∧ g.2.l = (List.range g.1).map (blindF a)})) (⟨(0, OwL.nil), by dsimp only; omega, OwL.nil_ok, rfl⟩) (by repeat' (first | exact trivial | refine And.intro rfl ?_)) (by dsimp only; rw [nil_L, List.nil_append]; exact List.Sublist.refl _) (allR_self _) ?_
  rintro ⟨⟨k, q⟩, w1, w2, w3⟩ junk
  try dsimp only
  dsimp only at w1 w2 w3
  have hql : q.l.length = k := by rw [w3]; simp
  refine qbi ?_
  refine qaa ?_
  refine qab ?_
  refine qab ?_
  refine qac ?_
  refine qag ?_
  refine qaj ?_
  refine qaf ?_
  refine q_c (fun hc3 => ?_) (fun hc3 => ?_)
  ·
   have hrg := get_D (l := a.mine.roads.l) (k := k) default (by omega)
   refine qbb ?_
   refine qck ?_
   refine qaq ?_
   intro b11
   refine qak ?_
   refine qaw ?_
   refine qab ?_
   refine qab ?_
   refine qac ?_
   refine qaa ?_
   refine LJ_q (by first | exact yv_index_ro tb rfl rfl rfl rfl (by first | assumption | exact zr (by simp)) (i := k) (by first | rfl | omega | (simp; omega)) (by omega) | exact yv_index tb rfl rfl rfl rfl (i := k) (by first | rfl | omega | (simp; omega)) (by omega)) rfl ?_
   refine qb0 ?_
   refine qa7 ?_
   refine qb4 ?_
   refine qaf ?_
   refine q_c (fun hc4 => ?_) (fun hc4 => ?_)
   ·
    have hbf : blindF a k = nothingS := by rw [blindF, if_neg (by simpa using hc4)]
    refine qay ?_
    refine q_l rfl (nothing_tri _ _) ?_
    refine qak ?_
    refine LJ_nil (seqK_normal (CJ_region ?_))
    refine qbm ?_
    refine qbe ?_
    refine ya5aa ?_
    rintro v L' R' ⟨b53, rfl, rfl, hR53⟩
    replace hR53 := hR53.symm; subst hR53
    refine ya5ab ?_
    rintro v L' R' ⟨o54, rfl, hok54, rfl, rfl⟩
    refine qc4 ?_
    refine qcs ?_
    refine qaa ?_
    refine qar ?_
    refine qad ?_
    refine qav ?_
    exact q_k ⟨(k + 1, (⟨o54, _⟩ : OwL XSpan)), by dsimp only; omega, hok54, by dsimp only; rw [List.range_succ, List.map_append, w3]; simp only [List.map_cons, List.map_nil, hbf]; try rfl⟩
   have hbf : blindF a k = ⟨0, 0⟩ := by rw [blindF, if_pos (by simpa using hc4)]
   refine CJ_skip (seqK_normal (CJ_region ?_))
   refine qbm ?_
   refine qbe ?_
   refine ya5aa ?_
   rintro v L' R' ⟨b53, rfl, rfl, hR53⟩
   replace hR53 := hR53.symm; subst hR53
   refine ya5ab ?_
   rintro v L' R' ⟨o54, rfl, hok54, rfl, rfl⟩
   refine qc4 ?_
   refine qcs ?_
   refine qaa ?_
   refine qar ?_
   refine qad ?_
   refine qav ?_
   exact q_k ⟨(k + 1, (⟨o54, _⟩ : OwL XSpan)), by dsimp only; omega, hok54, by dsimp only; rw [List.range_succ, List.map_append, w3]; simp only [List.map_cons, List.map_nil, hbf]; try rfl⟩
  obtain rfl : k = a.mine.roads.l.length := by omega
  refine qbk ?_
  refine qbm ?_
  refine qc4 ?_
  refine qad ?_
  refine qa0 ?_
  refine retK_ret (L' := q.L 59 XSpan.cells ++ L) (R' := R) (res2 rfl (rv_tmp (show _ = Value.slice _ _ _ from rfl)) (rv_tmp (show _ = Value.int _ _ from rfl))) ?hp ?hL ?hR
  case hp =>
   have ha : anaS a s A = (0, (List.range a.mine.roads.l.length).map (blindF a)) := by rw [anaS, if_neg hc0, if_neg hff, if_neg hc2]
   exact ⟨q, by rw [ha]; rfl, w2, by rw [ha]; exact w3, rfl, rfl⟩
  case hL => exact (by repeat (first | exact zs0 _ | exact zs1 _ | apply zs2 | apply zs3 | apply zs4 | apply zs5))
  case hR => exact fun r h => inR_self (by simp [h])

end Go.Proofs.Ytlgjgigciapkfaa
end
section
/-
  ref01.Spans: two lists of spans are alike. By an AI agent; no person has read it.
-/
set_option linter.unusedSimpArgs false
set_option linter.unusedVariables false
namespace Go.Proofs.Ytlgjgigciapkfaa
open Go.Aw Go
set_option maxRecDepth 20000
attribute [local irreducible] CJ LJ DJ Tri YV Gives seqK blockK loopK retK RV mergeK OwL.L

abbrev spsl (x : Arr XSpan) : Sl := x.sl 2 XSpan.cells []
end Go.Proofs.Ytlgjgigciapkfaa
end
section
/-
  Faces and their air: airflow.Fed and the reference's. By an AI agent; no person has read it.
-/
set_option linter.unusedSimpArgs false
set_option linter.unusedVariables false
namespace Go.Proofs.Ytlgjgigciapkfaa
open Go.Aw Go
set_option maxRecDepth 20000
attribute [local irreducible] CJ LJ DJ Tri YV Gives seqK blockK loopK retK RV mergeK OwL.L

structure XFace where
  road : Int
  need : Int
  deriving Inhabited
def XFace.cells (s : XFace) : List Value := [.int .i64 s.road, .int .i64 s.need]
abbrev fcsl (x : Arr XFace) : Sl := x.sl 2 XFace.cells []

structure WrTo {α : Type} (n : Nat) (z : α) (g : Nat → α) (i : Nat) (l : List α) : Prop where
  len : l.length = n
  don : ∀ j : Nat, j < i → l[j]? = some (g j)
  non : ∀ j : Nat, i ≤ j → j < n → l[j]? = some z
theorem WrTo.zero {α : Type} {n : Nat} {z : α} {g : Nat → α} : WrTo n z g 0 (List.replicate n z) := ⟨by simp, fun j hj => by omega, fun j _ hj => by rw [List.getElem?_replicate, if_pos hj]⟩
theorem WrTo.next {α : Type} {n : Nat} {z : α} {g : Nat → α} {i : Nat} {l : List α} (h : WrTo n z g i l) (hi : i < n) {x : α} (hx : x = g i) : WrTo n z g (i + 1) (l.set i x) := by
  have hl := h.len
  refine ⟨by simp [hl], fun j hj => ?_, fun j h1 h2 => ?_⟩
  · rw [List.getElem?_set]
    split
    · rename_i e; rw [if_pos (by omega), hx, e]
    · exact h.don j (by omega)
  · rw [List.getElem?_set_ne (by omega)]
    exact h.non j (by omega) h2
theorem WrTo.stay {α : Type} {n : Nat} {z : α} {g : Nat → α} {i : Nat} {l : List α} (h : WrTo n z g i l) (hi : i < n) (hx : z = g i) : WrTo n z g (i + 1) l := by
  refine ⟨h.len, fun j hj => ?_, fun j h1 h2 => h.non j (by omega) h2⟩
  rcases Nat.lt_or_ge j i with h1 | h1
  · exact h.don j h1
  · obtain rfl : j = i := by omega
    rw [h.non j (Nat.le_refl _) hi, hx]
theorem WrTo.done {α : Type} {n : Nat} {z : α} {g : Nat → α} {l : List α} (h : WrTo n z g n l) : l = (List.range n).map g := by
  have hl := h.len
  refine List.ext_getElem? fun j => ?_
  rcases Nat.lt_or_ge j n with hj | hj
  · rw [h.don j hj, List.getElem?_map, List.getElem?_range hj]; rfl
  · rw [List.getElem?_eq_none (by omega), List.getElem?_eq_none (by simp; omega)]

def fedS (x : XSpan) (need : Int) : Int :=
  if x.high < x.low then 0 else if (need ≤ 0 ∨ need ≤ x.low) ∨ x.high ≤ -need then 1 else if -need < x.low ∧ x.high < need then -1 else 0
def fedAt (fl : List XSpan) (f : XFace) : Int := if 0 ≤ f.road ∧ f.road < fl.length then fedS (fl.getD f.road.toNat default) f.need else 0
def fedL (fl : List XSpan) (fc : List XFace) : List Int := (List.range fc.length).map fun k => fedAt fl (fc.getD k default)
def FacesOk (fc : List XFace) : Prop := ∀ f ∈ fc, -4611686018427387904 ≤ f.need ∧ f.need ≤ 4611686018427387904

theorem fed_tri (x : XSpan) (need : Int) (L : List Blk) (R : List Sl) (hn : -4611686018427387904 ≤ need ∧ need ≤ 4611686018427387904) :
    Tri Try.prog 124 [x.val, .int .i64 need].toArray L R (fun v L' R' => v = .int .i64 (fedS x need) ∧ L = L' ∧ R = R') := by
  refine tri_enter 39 Try.call124 Try.func124 rfl rfl rfl ?_
  refine qae ?_
  refine qax ?_
  intro b2
  refine qad ?_
  refine LJ_nil (seqK_normal (CJ_seq (CJ_block (CJ_seq (CJ_region ?_)))))
  refine qab ?_
  refine qac ?_
  refine qab ?_
  refine qac ?_
  refine qa5 ?_
  refine qaz ?_
  refine qaf ?_
  refine q_c (fun hc0 => ?_) (fun hc0 => ?_)
  ·
   refine qae ?_
   refine qad ?_
   refine qdb ?_
   refine q_i (L' := L) (R' := R) ?_
   exact ⟨by rw [fedS, if_pos hc0], rfl, rfl⟩
  refine qae ?_
  refine qaa ?_
  refine qbx ?_
  refine qah ?_
  apply LJ_or (G := [_, _, _, _]) (j := 2) (cj := 14) rfl rfl (by rfl) rfl (show _ = Value.bool _ from rfl) rfl
  ·
   intro hg3
   replace hg3 := qb hg3
   refine qab ?_
   refine qac ?_
   refine qaa ?_
   refine qbz ?_
   exact qai
  intro junk3
  refine qah ?_
  apply LJ_or (G := [_, _, _, _, _]) (j := 8) (cj := 20) rfl rfl (by rfl) rfl (show _ = Value.bool _ from rfl) rfl
  ·
   intro hg9
   replace hg9 := qb hg9
   refine qab ?_
   refine qac ?_
   refine qaa ?_
   refine qcq ?_
   refine qbx ?_
   exact qai
  intro junk9
  refine qaz ?_
  refine qaf ?_
  refine q_c (fun hc1 => ?_) (fun hc1 => ?_)
  ·
   refine qae ?_
   refine qad ?_
   refine qdb ?_
   refine q_i (L' := L) (R' := R) ?_
   exact ⟨by rw [fedS, if_neg (by omega), if_pos (by omega)], rfl, rfl⟩
  refine qae ?_
  refine qab ?_
  refine qac ?_
  refine qaa ?_
  refine qcq ?_
  refine qa5 ?_
  refine qah ?_
  apply LJ_and (G := [_, _, _, _]) (j := 5) (cj := 33) rfl rfl (by rfl) rfl (show _ = Value.bool _ from rfl) rfl
  ·
   intro hg6
   replace hg6 := qb hg6
   refine qab ?_
   refine qac ?_
   refine qaa ?_
   refine qaj ?_
   exact qai
  intro junk6
  refine qaz ?_
  refine qaf ?_
  refine q_c (fun hc2 => ?_) (fun hc2 => ?_)
  ·
   refine qae ?_
   refine qad ?_
   refine qdb ?_
   refine q_i (L' := L) (R' := R) ?_
   exact ⟨by rw [fedS, if_neg (by omega), if_neg (by omega), if_pos (by omega)], rfl, rfl⟩
  refine CJ_skip (blockK_normal (seqK_normal (CJ_seq (CJ_region ?_))))
  refine qad ?_
  refine qa0 ?_
  refine q_i (L' := L) (R' := R) ?_
  exact ⟨by rw [fedS, if_neg (by omega), if_neg (by omega), if_neg (by omega)], rfl, rfl⟩

theorem fedL_tri (fl : Arr XSpan) (fc : Arr XFace) (L : List Blk) (R : List Sl) (hfl : InR (spsl fl) R) (hfc : InR (fcsl fc) R) (hn : FacesOk fc.l) (hlen : fc.l.length ≤ 1000) (hflen : fl.l.length ≤ 1000) :
    Tri Try.prog 82 [fl.val, fc.val].toArray L R (fun w L' R' => ∃ p : OwL Int, w = p.val ∧ p.ok 1 icell ∧ p.l = fedL fl.l fc.l ∧ p.L 3 icell ++ L = L' ∧ R = R') := by
  refine tri_enter 41 Try.call82 Try.func82 rfl rfl rfl ?_
  refine qae ?_
  refine qc4 ?_
  refine qam ?_
  refine qbm ?_
  refine qag ?_
  refine qc7 ?_
  rintro v L' R' ⟨b10, rfl, rfl, hR10⟩
  replace hR10 := hR10.symm; subst hR10
  refine qc4 ?_
  refine qco ?_
  refine CJ_L (made_ow (f := icell) (x := 0) rfl _) ?_
  refine qay ?_
  refine qbm ?_
  refine qag ?_
  refine qaa ?_
  refine qa2 ?_
  refine CJ_forget [(0, Value.slice _ _ _), (5, Value.slice _ _ _), (11, Value.slice _ _ _), (12, Value.int _ _), (13, Value.int _ _)] (by repeat' (first | exact trivial | refine And.intro rfl ?_)) fun tq0 => ?_
  refine q_p [6, 7, 13, 14, 15, 16, 17, 18, 19, 20, 21, 22, 23, 24, 25, 26, 27, 28, 29, 30, 31, 32, 33, 34, 35, 36, 37, 38, 39] ((⟨fun g => [(13, .int .i64 ((g.1.1 : Nat) : Int))], fun g => (⟨.own b10 fc.l.length [], g.1.2⟩ : OwL Int).L 3 icell ++ L, fun _ => R, fun g => fc.l.length - g.1.1⟩ : Head {g : Nat × List Int // g.1 ≤ fc.l.length ∧ WrTo fc.l.length 0 (fun k => fedAt fl.l (fc.l.getD k default)) g.1 g.2})) (⟨(0, List.replicate fc.l.length 0), by dsimp only; omega, .zero⟩) ?_
  rintro ⟨⟨k, l⟩, w1, w2⟩ junk
  try dsimp only
  dsimp only at w1 w2
  have hll := w2.len
  have hkq : (⟨.own b10 fc.l.length [], l⟩ : OwL Int).ok 1 icell := by have := made_ok (f := icell) (wd := 1) (b := b10) (n := fc.l.length) (x := 0) icell_len (by simp only [maxLen]; omega); exact OwL.len_ok icell_len this (by simp; exact hll)
  refine qae ?_
  refine qaj ?_
  refine qa4 ?_
  refine q_c (fun hc0 => ?_) (fun hc0 => ?_)
  ·
   have hfg := get_D (l := fc.l) (k := k) default (by omega)
   have hlg := w2.non k (Nat.le_refl _) (by omega)
   have hnd := hn _ (List.mem_of_getElem? hfg)
   obtain ⟨f, hf⟩ : ∃ f, f = fc.l.getD k default := ⟨_, rfl⟩
   rw [← hf] at hfg hnd
   refine qbb ?_
   refine qaa ?_
   refine LJ_q (by first | exact yv_index_ro tb rfl rfl rfl rfl (by first | assumption | exact zr (by simp)) (i := k) (by first | rfl | omega | (simp; omega)) (by omega) | exact yv_index tb rfl rfl rfl rfl (i := k) (by first | rfl | omega | (simp; omega)) (by omega)) rfl ?_
   refine qdl ?_
   refine qaq ?_
   intro b7
   refine qad ?_
   refine qak ?_
   refine qam ?_
   refine qab ?_
   refine qac ?_
   refine qbz ?_
   refine qah ?_
   apply LJ_and (G := [_, _, _, _, _]) (j := 3) (cj := 21) rfl rfl (by rfl) rfl (show _ = Value.bool _ from rfl) rfl
   ·
    intro hg4
    replace hg4 := qb hg4
    refine qab ?_
    refine qac ?_
    refine qbm ?_
    refine qag ?_
    refine qaj ?_
    exact qai
   intro junk4
   refine qaf ?_
   refine q_c (fun hc1 => ?_) (fun hc1 => ?_)
   ·
    have hsg := get_D (l := fl.l) (k := f.road.toNat) default (by omega)
    have hfv : fedS (fl.l.getD f.road.toNat default) f.need = (fun k => fedAt fl.l (fc.l.getD k default)) k := by dsimp only; rw [← hf, fedAt, if_pos (by omega)]
    refine CJ_drawn2 tb [] [0, 1, 2, 3, 4, 5, 6, 7, 8, 9, 10] [11] ([Blk.mk b7 _ _]) _ mixed (by kernel_rfl) (by repeat (first | exact zs0 _ | exact zs1 _ | apply zs2 | apply zs3 | apply zs4 | apply zs5)) (List.nil_sublist _) ?_
    refine qct ?_
    refine qbf ?_
    refine qct ?_
    refine qan ?_
    refine qau ?_
    refine DJ3_q (by first | exact yv_index_ro tb rfl rfl rfl rfl (by first | assumption | exact zr (by simp)) (i := f.road.toNat) (by first | rfl | omega | (simp; omega)) (by omega) | exact yv_index tb rfl rfl rfl rfl (i := f.road.toNat) (by first | rfl | omega | (simp; omega)) (by omega)) rfl rfl rfl rfl ?_
    refine qd1 ?_
    refine qan ?_
    refine qau ?_
    refine DJ3_call rfl (fed_tri (fl.l.getD f.road.toNat default) f.need _ _ hnd) rfl rfl ?_
    rintro v L' R' ⟨rfl, rfl, rfl⟩
    refine qas ?_
    refine DJ3_q (yv_index_ow tb ((⟨.own b10 fc.l.length [], l⟩ : OwL Int)) _ rfl rfl ((show _ = Value.slice _ _ _ from rfl).trans (own_val hll)) rfl (by assumption) (i := k) (by first | rfl | omega | (simp; omega)) (by first | omega | (dsimp only; omega) | (dsimp only; rw [List.length_set]; omega))) rfl rfl rfl rfl ?_
    refine qba ?_
    refine DJ_g0 (gives_store1_ow tb ((⟨.own b10 fc.l.length [], l⟩ : OwL Int)) (fedS (fl.l.getD f.road.toNat default) f.need) rfl rfl rfl rfl (by repeat (first | apply OSeg.cons | exact OSeg.here | exact OSeg.last | exact OSeg.at (by assumption) | apply OSeg.app)) (by assumption) (fun _ => rfl) (by assumption) (by decide) (by rfl) (by rfl)) rfl rfl ?_
    rintro v L' R' ⟨rfl, rfl⟩
    refine qa1 ?_
    refine qby ?_
    refine qar ?_
    refine qaa ?_
    refine qav ?_
    exact q_k ⟨(k + 1, l.set k (fedS (fl.l.getD f.road.toNat default) f.need)), by dsimp only; omega, w2.next (by omega) hfv⟩
   have hfv : (0 : Int) = (fun k => fedAt fl.l (fc.l.getD k default)) k := by dsimp only; rw [← hf, fedAt, if_neg (by omega)]
   refine qbj ?_
   refine qar ?_
   refine qaa ?_
   refine qav ?_
   exact q_k ⟨(k + 1, l), by dsimp only; omega, w2.stay (by omega) hfv⟩
  obtain rfl : k = fc.l.length := by omega
  refine qbk ?_
  refine qbm ?_
  refine qc4 ?_
  refine qa0 ?_
  refine q_r (L' := (⟨.own b10 fc.l.length [], l⟩ : OwL Int).L 3 icell ++ L) (R' := R) (res1 rfl (rv_tmp (show _ = Value.slice _ _ _ from rfl))) ?_
  exact ⟨(⟨.own b10 fc.l.length [], l⟩ : OwL Int), by simp only [OwL.val, Ow.addr, Ow.cap, hll], hkq, w2.done, rfl, rfl⟩

end Go.Proofs.Ytlgjgigciapkfaa
end
section
/-
  What measurements say later: sensor.Check, window.At, window.Meet. By an AI agent; no person has read it.
-/
set_option linter.unusedSimpArgs false
set_option linter.unusedVariables false
namespace Go.Proofs.Ytlgjgigciapkfaa
open Go.Aw Go
set_option maxRecDepth 20000
attribute [local irreducible] CJ LJ DJ Tri YV Gives seqK blockK loopK retK RV mergeK OwL.L

section
variable {A9 B9 : Prop}
theorem ya8aa (a : A9) (h : A9 → B9 := by exact LJ_q (by first | exact yv_pick_true rfl rfl | exact yv_pick_false rfl rfl | exact yv_pick rfl) rfl) : B9 := h a
theorem ya8ab (a : A9) (h : A9 → B9 := by exact LJ_qg (yv_load1 tb rfl rfl rfl (by repeat (first | exact zi0 | apply zi1 | apply zi2)) (by rfl)) rfl rfl) : B9 := h a
end
structure XSens where
  address : Int
  kind : Int
  target : Int
  offset : Int
  scale : Int
  error : Int
  drift : Int
  life : Int
  deriving Inhabited
def XSens.cells (s : XSens) : List Value := [.int .i64 s.address, .int .i64 s.kind, .int .i64 s.target, .int .i64 s.offset, .int .i64 s.scale, .int .i64 s.error, .int .i64 s.drift, .int .i64 s.life]
abbrev XSens.val (s : XSens) : Value := .agg #[.int .i64 s.address, .int .i64 s.kind, .int .i64 s.target, .int .i64 s.offset, .int .i64 s.scale, .int .i64 s.error, .int .i64 s.drift, .int .i64 s.life]
structure XMeas where
  sensor : Int
  time : Int
  span : XSpan
  deriving Inhabited
def XMeas.cells (m : XMeas) : List Value := [.int .i64 m.sensor, .int .i64 m.time, .int .i64 m.span.low, .int .i64 m.span.high]
abbrev XMeas.val (m : XMeas) : Value := .agg #[.int .i64 m.sensor, .int .i64 m.time, .int .i64 m.span.low, .int .i64 m.span.high]
abbrev sesl (x : Arr XSens) : Sl := x.sl 8 XSens.cells []
abbrev mesl (x : Arr XMeas) : Sl := x.sl 4 XMeas.cells []

theorem sensIn_tri (lo hi : Int) (x : Arr Int) (L : List Blk) (R : List Sl) (hx : InR (isl x) R) (hn : x.l.length ≤ 100) :
    Tri Try.prog 156 [.int .i64 lo, .int .i64 hi, x.val].toArray L R (fun v L' R' => v = .bool (decide (∀ n ∈ x.l, lo ≤ n ∧ n ≤ hi)) ∧ L = L' ∧ R = R') := by
  refine tri_enter 24 Try.call156 Try.func156 rfl rfl rfl ?_
  refine qae ?_
  refine qaz ?_
  refine qaw ?_
  refine qbm ?_
  refine qag ?_
  refine qaa ?_
  refine qa2 ?_
  refine CJ_forget [(0, Value.int _ _), (1, Value.int _ _), (9, Value.slice _ _ _), (10, Value.int _ _), (11, Value.int _ _)] (by repeat' (first | exact trivial | refine And.intro rfl ?_)) fun tq0 => ?_
  refine q_s [6, 8, 11, 12, 13, 14, 15, 16, 17, 18, 19, 20, 21, 22, 23] (fun g : {k : Nat // k ≤ x.l.length ∧ ∀ n ∈ x.l.take k, lo ≤ n ∧ n ≤ hi} => [(11, .int .i64 ((g.1 : Nat) : Int))]) (fun g => x.l.length - g.1) (⟨0, by omega, by simp⟩) ?_
  rintro ⟨k, hk, hal⟩ junk
  try dsimp only
  refine qae ?_
  refine qaj ?_
  refine qa4 ?_
  refine q_c (fun hc0 => ?_) (fun hc0 => ?_)
  ·
   have h1 := get_D (l := x.l) (k := k) 0 (by omega)
   refine qbb ?_
   refine LJ_q (by first | exact yv_index_ro tb rfl rfl rfl rfl (by first | assumption | exact zr (by simp)) (i := k) (by first | rfl | omega | (simp; omega)) (by omega) | exact yv_index tb rfl rfl rfl rfl (i := k) (by first | rfl | omega | (simp; omega)) (by omega)) rfl ?_
   refine qa7 ?_
   refine qad ?_
   refine qam ?_
   refine qaa ?_
   refine qaa ?_
   refine qaj ?_
   refine qah ?_
   apply LJ_or (G := [_, _, _]) (j := 3) (cj := 18) rfl rfl (by rfl) rfl (show _ = Value.bool _ from rfl) rfl
   ·
    intro hg4
    replace hg4 := qb hg4
    refine qaa ?_
    refine qaa ?_
    refine qa5 ?_
    exact qai
   intro junk4
   refine qaf ?_
   refine q_c (fun hc1 => ?_) (fun hc1 => ?_)
   ·
    refine qae ?_
    refine qaz ?_
    refine qbt ?_
    refine q_b (L' := L) (R' := R) ?_
    exact ⟨by rw [decide_eq_false (fun h => by have := h _ (List.mem_of_getElem? h1); omega)], rfl, rfl⟩
   refine qbj ?_
   refine qar ?_
   refine qaa ?_
   refine qav ?_
   exact loopK_mk (⟨k + 1, by omega, fun n hn => by
   rw [List.take_add_one, h1] at hn
   simp only [Option.toList_some, List.mem_append, List.mem_singleton] at hn
   rcases hn with h | h
   · exact hal n h
   · omega⟩) (by repeat (first | exact Off.refl | apply Off.upd rfl | apply Off.havoc rfl | apply Off.updL rfl | apply Off.left rfl)) (by repeat' (first | exact trivial | refine And.intro rfl ?_)) (by repeat (first | exact zs0 _ | exact zs1 _ | apply zs2 | apply zs3 | apply zs4 | apply zs5)) (allR_self _) (by dsimp only; omega)
  refine qbk ?_
  refine qaz ?_
  refine qa0 ?_
  refine q_b (L' := L) (R' := R) ?_
  exact ⟨by rw [decide_eq_true (fun n hn => by rw [List.take_of_length_le (by omega)] at hal; exact hal n hn)], rfl, rfl⟩

def SensOk (s : XSens) : Prop := (0 ≤ s.address ∧ s.address ≤ 255) ∧ 0 ≤ s.target ∧ (-1000000 ≤ s.offset ∧ s.offset ≤ 1000000) ∧ (-1000000 ≤ s.scale ∧ s.scale ≤ 1000000) ∧ (0 ≤ s.error ∧ s.error ≤ 1000000) ∧ (0 ≤ s.drift ∧ s.drift ≤ 1000000) ∧ (1 ≤ s.life ∧ s.life ≤ 1000000)
instance (s : XSens) : Decidable (SensOk s) := by unfold SensOk; infer_instance
def sensErr (s : XSens) : Int := if ¬ (1 ≤ s.kind ∧ s.kind ≤ 6) then 5 else if SensOk s then 0 else 1
theorem sensCheck_tri (s : XSens) (L : List Blk) (R : List Sl) :
    Tri Try.prog 110 [s.val].toArray L R (fun v L' R' => v = .int .i64 (sensErr s) ∧ L = L' ∧ R = R') := by
  refine tri_enter 44 Try.call110 Try.func110 rfl rfl rfl ?_
  refine qae ?_
  refine qax ?_
  intro b1
  refine qad ?_
  refine LJ_nil (seqK_normal (CJ_seq (CJ_block (CJ_seq (CJ_region ?_)))))
  refine qab ?_
  refine qac ?_
  refine qcx ?_
  rintro v L' R' ⟨b6, rfl, rfl, hR6⟩
  replace hR6 := hR6.symm; subst hR6
  refine LJ_frz (wd := 1) (len := 1) (cap := 1) (rows := [icell s.kind]) (subs := []) rfl (by decide) (by decide) (fun r hr => by rw [List.mem_singleton.1 hr]; rfl) (by decide) rfl (fun s hs => by cases hs) ?_
  refine q_l rfl (sensIn_tri 1 6 ⟨some ⟨b6, 0, none⟩, 1, [s.kind]⟩ _ _ (inR_self (.head _)) (by simp)) ?_
  refine qb4 ?_
  refine qaz ?_
  refine qaf ?_
  refine q_c (fun hc0 => ?_) (fun hc0 => ?_)
  ·
   refine qae ?_
   refine qad ?_
   refine qdb ?_
   refine retK_ret (L' := L) (R' := R) (res1 rfl (rv_tmp (show _ = Value.int _ _ from rfl))) ?hp ?hL ?hR
   case hp => exact ⟨by simp at hc0; rw [sensErr, if_pos (by omega)], rfl, rfl⟩
   case hL => exact (by repeat (first | exact zs0 _ | exact zs1 _ | apply zs2 | apply zs3 | apply zs4 | apply zs5))
   case hR => exact fun r h => inR_self (by simp [h])
  refine qae ?_
  refine qab ?_
  refine qac ?_
  refine qcx ?_
  rintro v L' R' ⟨b12, rfl, rfl, hR12⟩
  replace hR12 := hR12.symm; subst hR12
  refine LJ_frz (wd := 1) (len := 1) (cap := 1) (rows := [icell s.address]) (subs := []) rfl (by decide) (by decide) (fun r hr => by rw [List.mem_singleton.1 hr]; rfl) (by decide) rfl (fun s hs => by cases hs) ?_
  refine q_l rfl (sensIn_tri 0 255 ⟨some ⟨b12, 0, none⟩, 1, [s.address]⟩ _ _ (inR_self (.head _)) (by simp)) ?_
  refine qb4 ?_
  refine qah ?_
  refine LJ_case (k := 15) (show _ = Value.bool _ from rfl) (fun hg6 => ?_) (fun hg6 => ?_)
  ·
   replace hg6 := qb hg6
   iterate 3 refine LJ_skg rfl rfl ?_
   refine ya8aa ?_
   refine qah ?_
   ·
    skip
    iterate 7 refine LJ_skg rfl rfl ?_
    refine ya8aa ?_
    refine qaz ?_
    refine qaf ?_
    refine CJ_cond_true rfl ?_
    refine qae ?_
    refine qad ?_
    refine qdb ?_
    refine retK_ret (L' := L) (R' := R) (res1 rfl (rv_tmp (show _ = Value.int _ _ from rfl))) ?hp ?hL ?hR
    case hp => exact ⟨by rw [sensErr, if_neg (by simp at hc0; omega), if_neg (by first | (simp at hc1; rw [SensOk]; omega) | (simp at hg6; rw [SensOk]; omega))], rfl, rfl⟩
    case hL => exact (by repeat (first | exact zs0 _ | exact zs1 _ | apply zs2 | apply zs3 | apply zs4 | apply zs5))
    case hR => exact fun r h => inR_self (by simp [h])
  replace hg6 := qb hg6
  refine LJ_qg (yv_field tb rfl rfl rfl) rfl rfl ?_
  refine ya8ab ?_
  refine LJ_qg (yv_lss rfl rfl) rfl rfl ?_
  refine ya8aa ?_
  refine qah ?_
  refine LJ_case (k := 20) (show _ = Value.bool _ from rfl) (fun hg11 => ?_) (fun hg11 => ?_)
  ·
   replace hg11 := qb hg11
   iterate 7 refine LJ_skg rfl rfl ?_
   refine ya8aa ?_
   refine qaz ?_
   refine qaf ?_
   refine CJ_cond_true rfl ?_
   refine qae ?_
   refine qad ?_
   refine qdb ?_
   refine retK_ret (L' := L) (R' := R) (res1 rfl (rv_tmp (show _ = Value.int _ _ from rfl))) ?hp ?hL ?hR
   case hp => exact ⟨by rw [sensErr, if_neg (by simp at hc0; omega), if_neg (by first | (simp at hc1; rw [SensOk]; omega) | (simp at hg6; rw [SensOk]; omega))], rfl, rfl⟩
   case hL => exact (by repeat (first | exact zs0 _ | exact zs1 _ | apply zs2 | apply zs3 | apply zs4 | apply zs5))
   case hR => exact fun r h => inR_self (by simp [h])
  replace hg11 := qb hg11
  refine LJ_qg (yv_field tb rfl rfl rfl) rfl rfl ?_
  refine ya8ab ?_
  refine LJ_qg (yv_field tb rfl rfl rfl) rfl rfl ?_
  refine ya8ab ?_
  refine LJ_gg (gives_buildSlice (qs := [(0, (Value.int _ _).cells.toList), (1, (Value.int _ _).cells.toList)]) (out := [_, _]) tb rfl rfl rfl rfl rfl rfl rfl) rfl rfl ?_
  rintro v L' R' ⟨b25, rfl, rfl, hR25⟩
  replace hR25 := hR25.symm; subst hR25
  refine LJ_frz (wd := 1) (len := 2) (cap := 2) (rows := [icell s.offset, icell s.scale]) (subs := []) rfl (by decide) (by decide) (fun r hr => by simp only [List.mem_cons, List.not_mem_nil, or_false] at hr; rcases hr with rfl | rfl <;> rfl) (by decide) rfl (fun s hs => by cases hs) ?_
  refine LJ_callg rfl (sensIn_tri (-1000000) 1000000 ⟨some ⟨b25, 0, none⟩, 2, [s.offset, s.scale]⟩ _ _ (inR_self (.head _)) (by simp)) rfl rfl ?_
  rintro v L' R' ⟨rfl, rfl, rfl⟩
  refine LJ_qg (yv_not rfl) rfl rfl ?_
  refine ya8aa ?_
  refine qaz ?_
  refine qaf ?_
  refine q_c (fun hc1 => ?_) (fun hc1 => ?_)
  ·
   refine qae ?_
   refine qad ?_
   refine qdb ?_
   refine retK_ret (L' := L) (R' := R) (res1 rfl (rv_tmp (show _ = Value.int _ _ from rfl))) ?hp ?hL ?hR
   case hp => exact ⟨by rw [sensErr, if_neg (by simp at hc0; omega), if_neg (by first | (simp at hc1; rw [SensOk]; omega) | (simp at hg6; rw [SensOk]; omega))], rfl, rfl⟩
   case hL => exact (by repeat (first | exact zs0 _ | exact zs1 _ | apply zs2 | apply zs3 | apply zs4 | apply zs5))
   case hR => exact fun r h => inR_self (by simp [h])
  refine qae ?_
  refine qab ?_
  refine qac ?_
  refine qab ?_
  refine qac ?_
  refine LJ_g (gives_buildSlice (qs := [(0, (Value.int _ _).cells.toList), (1, (Value.int _ _).cells.toList)]) (out := [_, _]) tb rfl rfl rfl rfl rfl rfl rfl) rfl ?_
  rintro v L' R' ⟨b34, rfl, rfl, hR34⟩
  replace hR34 := hR34.symm; subst hR34
  refine LJ_frz (wd := 1) (len := 2) (cap := 2) (rows := [icell s.error, icell s.drift]) (subs := []) rfl (by decide) (by decide) (fun r hr => by simp only [List.mem_cons, List.not_mem_nil, or_false] at hr; rcases hr with rfl | rfl <;> rfl) (by decide) rfl (fun s hs => by cases hs) ?_
  refine q_l rfl (sensIn_tri 0 1000000 ⟨some ⟨b34, 0, none⟩, 2, [s.error, s.drift]⟩ _ _ (inR_self (.head _)) (by simp)) ?_
  refine qb4 ?_
  refine qah ?_
  refine LJ_case (k := 37) (show _ = Value.bool _ from rfl) (fun hg8 => ?_) (fun hg8 => ?_)
  ·
   replace hg8 := qb hg8
   iterate 5 refine LJ_skg rfl rfl ?_
   refine ya8aa ?_
   refine qaz ?_
   refine qaf ?_
   refine CJ_cond_true rfl ?_
   refine qae ?_
   refine qad ?_
   refine qdb ?_
   refine retK_ret (L' := L) (R' := R) (res1 rfl (rv_tmp (show _ = Value.int _ _ from rfl))) ?hp ?hL ?hR
   case hp => exact ⟨by rw [sensErr, if_neg (by simp at hc0; omega), if_neg (by first | (simp at hc2; rw [SensOk]; omega) | (simp at hg8; rw [SensOk]; omega))], rfl, rfl⟩
   case hL => exact (by repeat (first | exact zs0 _ | exact zs1 _ | apply zs2 | apply zs3 | apply zs4 | apply zs5))
   case hR => exact fun r h => inR_self (by simp [h])
  replace hg8 := qb hg8
  refine LJ_qg (yv_field tb rfl rfl rfl) rfl rfl ?_
  refine ya8ab ?_
  refine LJ_gg (gives_buildSlice (qs := [(0, (Value.int _ _).cells.toList)]) (out := [_]) tb rfl rfl rfl rfl rfl rfl rfl) rfl rfl ?_
  rintro v L' R' ⟨b40, rfl, rfl, hR40⟩
  replace hR40 := hR40.symm; subst hR40
  refine LJ_frz (wd := 1) (len := 1) (cap := 1) (rows := [icell s.life]) (subs := []) rfl (by decide) (by decide) (fun r hr => by rw [List.mem_singleton.1 hr]; rfl) (by decide) rfl (fun s hs => by cases hs) ?_
  refine LJ_callg rfl (sensIn_tri 1 1000000 ⟨some ⟨b40, 0, none⟩, 1, [s.life]⟩ _ _ (inR_self (.head _)) (by simp)) rfl rfl ?_
  rintro v L' R' ⟨rfl, rfl, rfl⟩
  refine LJ_qg (yv_not rfl) rfl rfl ?_
  refine ya8aa ?_
  refine qaz ?_
  refine qaf ?_
  refine q_c (fun hc2 => ?_) (fun hc2 => ?_)
  ·
   refine qae ?_
   refine qad ?_
   refine qdb ?_
   refine retK_ret (L' := L) (R' := R) (res1 rfl (rv_tmp (show _ = Value.int _ _ from rfl))) ?hp ?hL ?hR
   case hp => exact ⟨by rw [sensErr, if_neg (by simp at hc0; omega), if_neg (by first | (simp at hc2; rw [SensOk]; omega) | (simp at hg8; rw [SensOk]; omega))], rfl, rfl⟩
   case hL => exact (by repeat (first | exact zs0 _ | exact zs1 _ | apply zs2 | apply zs3 | apply zs4 | apply zs5))
   case hR => exact fun r h => inR_self (by simp [h])
  refine CJ_skip (blockK_normal (seqK_normal (CJ_seq (CJ_region ?_))))
  refine qad ?_
  refine qa0 ?_
  refine retK_ret (L' := L) (R' := R) (res1 rfl (rv_tmp (show _ = Value.int _ _ from rfl))) ?hp ?hL ?hR
  case hp => exact ⟨by simp at hc0 hg6 hc1 hg8 hc2; rw [sensErr, if_neg (by omega), if_pos (by rw [SensOk]; omega)], rfl, rfl⟩
  case hL => exact (by repeat (first | exact zs0 _ | exact zs1 _ | apply zs2 | apply zs3 | apply zs4 | apply zs5))
  case hR => exact fun r h => inR_self (by simp [h])

theorem plain_tri (k : Int) (L : List Blk) (R : List Sl) :
    Tri Try.prog 123 [.int .i64 k].toArray L R (fun v L' R' => v = .bool (decide (k = 4 ∨ k = 5 ∨ k = 6)) ∧ L = L' ∧ R = R') := by
  refine tri_enter 13 Try.call123 Try.func123 rfl rfl rfl ?_
  refine qae ?_
  refine qaz ?_
  refine qam ?_
  refine qaa ?_
  refine qbn ?_
  refine qah ?_
  apply LJ_or (G := [_, _]) (j := 2) (cj := 5) rfl rfl (by rfl) rfl (show _ = Value.bool _ from rfl) rfl
  ·
   intro hg3
   replace hg3 := qb hg3
   refine qaa ?_
   refine qbn ?_
   exact qai
  intro junk3
  refine qah ?_
  apply LJ_or (G := [_, _]) (j := 6) (cj := 9) rfl rfl (by rfl) rfl (show _ = Value.bool _ from rfl) rfl
  ·
   intro hg7
   replace hg7 := qb hg7
   refine qaa ?_
   refine qbn ?_
   exact qai
  intro junk7
  refine qaz ?_
  refine qa0 ?_
  refine q_b (L' := L) (R' := R) ?_
  exact ⟨by refine congrArg Value.bool ?_; rw [Bool.eq_iff_iff]; simp; omega, rfl, rfl⟩

def moreS (s : XSens) (m : XMeas) (t : Int) : Int := (s.drift * (t - m.time) + 999).tdiv 1000
def goneS (s : XSens) (m : XMeas) (t : Int) : Prop := sensErr s ≠ 0 ∨ m.sensor < 0 ∨ m.span = nothingS ∨ t < m.time ∨ s.life < t - m.time
instance (s : XSens) (m : XMeas) (t : Int) : Decidable (goneS s m t) := by unfold goneS; infer_instance
def wideS (s : XSens) (m : XMeas) (t : Int) : XSpan := ⟨m.span.low - moreS s m t, m.span.high + moreS s m t⟩
def atS (s : XSens) (m : XMeas) (t : Int) : XSpan :=
  if goneS s m t then nothingS else if s.kind = 4 ∨ s.kind = 5 ∨ s.kind = 6 then m.span
  else if s.kind = 1 ∨ s.kind = 2 then ⟨max (wideS s m t).low 0, max (wideS s m t).high 0⟩ else wideS s m t
def MeasOk (m : XMeas) : Prop := (0 ≤ m.time ∧ m.time ≤ 2147483648) ∧ (-1125899906842624 ≤ m.span.low ∧ m.span.low ≤ 1125899906842624) ∧ (-1125899906842624 ≤ m.span.high ∧ m.span.high ≤ 1125899906842624)
theorem more_bounds {s : XSens} {m : XMeas} {t : Int} (h : ¬ goneS s m t) : (0 ≤ s.drift * (t - m.time) ∧ s.drift * (t - m.time) ≤ 1000000000000) ∧ 0 ≤ moreS s m t ∧ moreS s m t ≤ 1000000001 := by
  rw [goneS] at h
  have he : sensErr s = 0 := by omega
  rw [sensErr] at he
  split at he
  · omega
  split at he
  · rename_i hs
    rw [SensOk] at hs
    have h1 : 0 ≤ t - m.time ∧ t - m.time ≤ 1000000 := by omega
    have h2 : 0 ≤ s.drift ∧ s.drift ≤ 1000000 := by omega
    have h3 : 0 ≤ s.drift * (t - m.time) := Int.mul_nonneg h2.1 h1.1
    have h4 : s.drift * (t - m.time) ≤ 1000000 * 1000000 := Int.mul_le_mul h2.2 h1.2 h1.1 (by decide)
    refine ⟨⟨h3, by omega⟩, ?_⟩
    rw [moreS, Int.tdiv_eq_ediv_of_nonneg (by omega)]
    omega
  · omega
theorem span_eq {a b : XSpan} : a = b ↔ a.low = b.low ∧ a.high = b.high := by
  cases a; cases b; simp
theorem at_tri (s : XSens) (m : XMeas) (t : Int) (L : List Blk) (R : List Sl) (hm : MeasOk m) (ht : 0 ≤ t ∧ t ≤ 2147483648) :
    Tri Try.prog 76 [s.val, m.val, .int .i64 t].toArray L R (fun v L' R' => v = (atS s m t).val ∧ L = L' ∧ R = R') := by
  rw [MeasOk] at hm
  refine tri_enter 83 Try.call76 Try.func76 rfl rfl rfl ?_
  refine qae ?_
  refine qax ?_
  intro b3
  refine qax ?_
  intro b4
  refine qaq ?_
  intro b6
  refine qam ?_
  refine q_l rfl (sensNothing_tri _ _) ?_
  refine qaq ?_
  intro b7
  refine qak ?_
  refine qaw ?_
  refine LJ_q (yv_loadN (row := [_, _, _, _, _, _, _, _]) tb rfl rfl rfl (by repeat (first | exact zi0 | apply zi1 | apply zi2)) (by rfl) (by rfl)) rfl ?_
  refine q_l rfl (sensCheck_tri s _ _) ?_
  refine qbq ?_
  refine qah ?_
  apply LJ_or (G := [_, _, _]) (j := 3) (cj := 14) rfl rfl (by rfl) rfl (show _ = Value.bool _ from rfl) rfl
  ·
   intro hg4
   replace hg4 := qb hg4
   refine qab ?_
   refine qac ?_
   refine qaj ?_
   exact qai
  intro junk4
  refine qah ?_
  apply LJ_or (G := [_, _, _, _]) (j := 8) (cj := 19) rfl rfl (by rfl) rfl (show _ = Value.bool _ from rfl) rfl
  ·
   intro hg9
   replace hg9 := qb hg9
   refine qab ?_
   refine qbe ?_
   refine qbe ?_
   refine LJ_q (yv_eql_span spanEq rfl rfl) rfl ?_
   exact qai
  intro junk9
  refine qah ?_
  apply LJ_or (G := [_, _, _, _]) (j := 14) (cj := 25) rfl rfl (by rfl) rfl (show _ = Value.bool _ from rfl) rfl
  ·
   intro hg15
   replace hg15 := qb hg15
   refine qaa ?_
   refine qab ?_
   refine qac ?_
   refine qaj ?_
   exact qai
  intro junk15
  refine qah ?_
  apply LJ_or (G := [_, _, _, _, _, _, _]) (j := 20) (cj := 31) rfl rfl (by rfl) rfl (show _ = Value.bool _ from rfl) rfl
  ·
   intro hg21
   replace hg21 := qb hg21
   refine qaa ?_
   refine qab ?_
   refine qac ?_
   refine qa9 ?_
   refine qab ?_
   refine qac ?_
   refine qa5 ?_
   exact qai
  intro junk21
  refine qaf ?_
  refine q_c (fun hc0 => ?_) (fun hc0 => ?_)
  ·
   refine qae ?_
   refine qbe ?_
   refine qak ?_
   refine qbh ?_
   refine q_r (L' := L) (R' := R) (res1 rfl (rv_cell (row := [_, _]) tb rfl rfl rfl (by repeat (first | exact zi0 | apply zi1 | apply zi2)) (by rfl) (by rfl))) ?_
   have hgo : goneS s m t := by simp [nothingS] at hc0; rw [goneS, span_eq]; simp only [nothingS]; omega
   exact ⟨by rw [atS, if_pos hgo]; try rfl, rfl, rfl⟩
  have hgo : ¬ goneS s m t := by simp [nothingS] at hc0; rw [goneS, span_eq]; simp only [nothingS]; omega
  obtain ⟨hb1, hb2⟩ := more_bounds hgo
  rw [moreS] at hb2
  refine qbo ?_
  refine qab ?_
  refine qac ?_
  refine q_l rfl (plain_tri _ _ _) ?_
  refine qaf ?_
  refine q_c (fun hc1 => ?_) (fun hc1 => ?_)
  ·
   refine qae ?_
   refine qab ?_
   refine qbe ?_
   refine qak ?_
   refine qbh ?_
   refine q_r (L' := L) (R' := R) (res1 rfl (rv_cell (row := [_, _]) tb rfl rfl rfl (by repeat (first | exact zi0 | apply zi1 | apply zi2)) (by rfl) (by rfl))) ?_
   exact ⟨by rw [atS, if_neg hgo, if_pos (by simpa using hc1)], rfl, rfl⟩
  refine qbv ?_
  refine qab ?_
  refine qac ?_
  refine qaa ?_
  refine qab ?_
  refine qac ?_
  refine qa9 ?_
  refine qcm ?_
  refine qar ?_
  refine qdd ?_
  refine qad ?_
  refine qam ?_
  refine qab ?_
  refine qab ?_
  refine qac ?_
  refine qaa ?_
  refine qa9 ?_
  refine qab ?_
  refine qab ?_
  refine qac ?_
  refine qaa ?_
  refine qar ?_
  refine qcd ?_
  refine qaq ?_
  intro b9
  refine qak ?_
  refine qaw ?_
  refine qab ?_
  refine qac ?_
  refine qbn ?_
  refine qah ?_
  apply LJ_or (G := [_, _, _]) (j := 3) (cj := 69) rfl rfl (by rfl) rfl (show _ = Value.bool _ from rfl) rfl
  ·
   intro hg4
   replace hg4 := qb hg4
   refine qab ?_
   refine qac ?_
   refine qbn ?_
   exact qai
  intro junk4
  refine qaf ?_
  refine q_c (fun hc2 => ?_) (fun hc2 => ?_)
  ·
   refine qay ?_
   refine qab ?_
   refine qac ?_
   refine LJ_q (yv_max2 rfl rfl) rfl ?_
   refine qab ?_
   refine qac ?_
   refine LJ_q (yv_max2 rfl rfl) rfl ?_
   refine qab ?_
   refine qcn ?_
   refine qab ?_
   refine qcn ?_
   refine qam ?_
   refine qbe ?_
   refine qak ?_
   refine qa0 ?_
   refine q_r (L' := L) (R' := R) (res1 rfl (rv_cell (row := [_, _]) tb rfl rfl rfl (by repeat (first | exact zi0 | apply zi1 | apply zi2)) (by rfl) (by rfl))) ?_
   exact ⟨by rw [atS, if_neg hgo, if_neg (by simpa using hc1), if_pos (by omega)]; try rfl, rfl, rfl⟩
  refine qbv ?_
  refine qbe ?_
  refine qak ?_
  refine qa0 ?_
  refine q_r (L' := L) (R' := R) (res1 rfl (rv_cell (row := [_, _]) tb rfl rfl rfl (by repeat (first | exact zi0 | apply zi1 | apply zi2)) (by rfl) (by rfl))) ?_
  exact ⟨by rw [atS, if_neg hgo, if_neg (by simpa using hc1), if_neg (by omega)]; try rfl, rfl, rfl⟩

end Go.Proofs.Ytlgjgigciapkfaa
end
section
/-
  Statements about chapter 10: what they share. By an AI agent; no person has read it.
-/
set_option linter.unusedSimpArgs false
set_option linter.unusedVariables false
namespace Go.Proofs.Ytlgjgigciapkfaa
open Go.Aw Go
set_option maxRecDepth 20000
attribute [local irreducible] CJ LJ DJ Tri YV Gives seqK blockK loopK retK RV mergeK OwL.L

end Go.Proofs.Ytlgjgigciapkfaa
end
