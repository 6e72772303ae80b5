/-
  Draws: MakeS, Make, BranchW, Draw1, Draw2, FitS, Fit, MadeS, Made, New, Base, in one text. By an AI agent; no person has read it.
-/
import Derived.Test.YtkpfjmibipblhaaFlows
import Derived.Test.YtkpfjmibipblhaaOwn
set_option linter.unusedSimpArgs false
set_option linter.unusedVariables false
section
variable {A9 B9 : Prop}
theorem yaiaa (a : A9) (h : A9 → B9 := by exact LJ_call rfl (range1 (by repeat (first | apply USeg.here | apply USeg.cons | apply USeg.app)) hx hk (by omega)) rfl) : B9 := h a
theorem yaiab (a : A9) (h : A9 → B9 := by exact LJ_call rfl (range1 (by repeat (first | apply USeg.here | apply USeg.cons | apply USeg.app)) hx hk1 (by omega)) rfl) : B9 := h a
theorem yaiac (a : A9) (h : A9 → B9 := by exact LJ_call rfl (next1 (by repeat (first | apply USeg.here | apply USeg.cons | apply USeg.app)) hx hk2 (by omega)) rfl) : B9 := h a
theorem yaiad (a : A9) (h : A9 → B9 := by exact LJ_g (gives_buildSlice (qs := [(0, (Value.agg _).cells.toList)]) (out := [_, _]) tb rfl rfl rfl rfl rfl rfl rfl) rfl) : B9 := h a
theorem yaiae (a : A9) (h : A9 → B9 := by exact LJ_q (yv_build (qs := [(0, (Value.slice _ _ _).cells.toList)]) (out := [_, _]) tb rfl rfl rfl rfl) rfl) : B9 := h a
theorem yaiaf (a : A9) (h : A9 → B9 := by exact WStep_g rfl (gives_append1 (f := XRoad.cells) (p := rl) (a := rr) tb rfl rfl rfl rfl (hokr) (by repeat (first | apply OSeg.cons | exact OSeg.here | exact OSeg.last | exact OSeg.at (by assumption) | apply OSeg.app)) (shown_own (by repeat (first | exact zi0 | apply zi1 | apply zi2)) rfl rfl) rfl (by first | omega | (simp only [List.length_cons, List.length_nil, List.length_append]; omega))) rfl rfl) : B9 := h a
theorem yaiag (a : A9) (h : A9 → B9 := by exact WStep_g rfl (gives_append1 (f := icell) (p := fl) (a := q) tb rfl rfl rfl rfl (hokf) (by repeat (first | apply OSeg.cons | exact OSeg.here | exact OSeg.last | exact OSeg.at (by assumption) | apply OSeg.app)) (shown_own (by repeat (first | exact zi0 | apply zi1 | apply zi2)) rfl rfl) rfl (by first | omega | (simp only [List.length_cons, List.length_nil, List.length_append]; omega))) rfl rfl) : B9 := h a
theorem yaiah (a : A9) (h : A9 → B9 := by exact WZ_q 11 hT26 (List.nil_sublist _) (by kernel_rfl) rfl rfl rfl rfl rfl (yv_field tb rfl rfl rfl)) : B9 := h a
theorem yaiai (a : A9) (h : A9 → B9 := by exact WZ_q 12 hT26 (List.nil_sublist _) (by kernel_rfl) rfl rfl rfl rfl rfl (yv_field tb rfl rfl rfl)) : B9 := h a
theorem yaiaj (a : A9) (h : A9 → B9 := by exact WStep_g rfl (gives_append1 (f := XRoad.cells) (p := rl) (a := rr) tb rfl rfl rfl rfl (hokr2) (by repeat (first | apply OSeg.cons | exact OSeg.here | exact OSeg.last | exact OSeg.at (by assumption) | apply OSeg.app)) (shown_own (by repeat (first | exact zi0 | apply zi1 | apply zi2)) rfl rfl) rfl (by first | omega | (simp only [List.length_cons, List.length_nil, List.length_append]; omega))) rfl rfl) : B9 := h a
theorem yaiak (a : A9) (h : A9 → B9 := by exact WStep_g rfl (gives_append1 (f := icell) (p := fl) (a := q) tb rfl rfl rfl rfl (hokf2) (by repeat (first | apply OSeg.cons | exact OSeg.here | exact OSeg.last | exact OSeg.at (by assumption) | apply OSeg.app)) (shown_own (by repeat (first | exact zi0 | apply zi1 | apply zi2)) rfl rfl) rfl (by first | omega | (simp only [List.length_cons, List.length_nil, List.length_append]; omega))) rfl rfl) : B9 := h a
theorem yaial (a : A9) (h : A9 → B9 := by exact WZ_q 11 hT35 (List.nil_sublist _) (by kernel_rfl) rfl rfl rfl rfl rfl (yv_field tb rfl rfl rfl)) : B9 := h a
theorem yaiam (a : A9) (h : A9 → B9 := by exact WZ_q 12 hT35 (List.nil_sublist _) (by kernel_rfl) rfl rfl rfl rfl rfl (yv_field tb rfl rfl rfl)) : B9 := h a
theorem yaian (a : A9) (h : A9 → B9 := by exact CJ_drawn2 tb [] [0, 1, 2, 3, 4, 5, 6, 7] [8] ([Blk.mk b7 _ _]) _ mixed (by kernel_rfl) (by repeat (first | exact zs0 _ | exact zs1 _ | apply zs2 | apply zs3 | apply zs4 | apply zs5)) (by (repeat (first | apply List.Sublist.cons (a := Blk.mk b7 _ _) | apply List.Sublist.cons_cons)); exact List.Sublist.refl _)) : B9 := h a
theorem yaiao (a : A9) (h : A9 → B9 := by exact DJ3_call rfl (next1 (by repeat (first | apply USeg.here | apply USeg.cons | apply USeg.app)) hx hk4 (by omega)) rfl rfl) : B9 := h a
theorem yaiap (a : A9) (h : A9 → B9 := by exact DJ3_call rfl (range1 (by repeat (first | apply USeg.here | apply USeg.cons | apply USeg.app)) hx hkk (by omega)) rfl rfl) : B9 := h a
theorem yaiaq (a : A9) (h : A9 → B9 := by exact DJ3_g (gives_buildSlice (qs := [(0, (Value.agg _).cells.toList)]) (out := [_, _]) tb rfl rfl rfl rfl rfl rfl rfl) rfl rfl rfl) : B9 := h a
theorem yaiar (a : A9) (h : A9 → B9 := by exact LJ_g (gives_append1 (f := icell) (p := tf) (a := _) tb rfl rfl rfl rfl (hok) (by repeat (first | apply OSeg.cons | exact OSeg.here | exact OSeg.last | exact OSeg.at (by assumption) | apply OSeg.app)) (shown_own (by repeat (first | exact zi0 | apply zi1 | apply zi2)) rfl rfl) rfl (by first | omega | (simp only [List.length_cons, List.length_nil, List.length_append]; omega))) rfl) : B9 := h a
theorem yaias (a : A9) (h : A9 → B9 := by exact LJ_g (gives_append1 (f := icell) (p := td) (a := _) tb rfl rfl rfl rfl (hok2) (by repeat (first | apply OSeg.cons | exact OSeg.here | exact OSeg.last | exact OSeg.at (by assumption) | apply OSeg.app)) (shown_own (by repeat (first | exact zi0 | apply zi1 | apply zi2)) rfl rfl) rfl (by first | omega | (simp only [List.length_cons, List.length_nil, List.length_append]; omega))) rfl) : B9 := h a
theorem yaiat (a : A9) (h : A9 → B9 := by exact LJ_call rfl (next1 (by repeat (first | apply USeg.here | apply USeg.cons | apply USeg.app)) hx hk1 (by omega)) rfl) : B9 := h a
theorem yaiau (a : A9) (h : A9 → B9 := by exact LJ_q (yv_index_ow tb ((⟨.own b75 pl.l.length [], nl⟩ : OwL Int)) _ rfl rfl ((show _ = Value.slice _ _ _ from rfl).trans (own_val hDl)) rfl (by assumption) (i := rr.fr.toNat) (by first | rfl | omega | (simp; omega)) (by first | omega | (dsimp only; omega) | (dsimp only; rw [List.length_set]; omega) | (dsimp only; simp only [List.length_set]; omega))) rfl) : B9 := h a
theorem yaiav (a : A9) (h : A9 → B9 := by exact LJ_q (yv_index_ow tb ((⟨.own b75 pl.l.length [], nl.set rr.fr.toNat (nl.getD rr.fr.toNat 0 + q)⟩ : OwL Int)) _ rfl rfl ((show _ = Value.slice _ _ _ from rfl).trans (own_val (by rw [List.length_set]; exact hDl))) rfl (by assumption) (i := rr.to.toNat) (by first | rfl | omega | (simp; omega)) (by first | omega | (dsimp only; omega) | (dsimp only; rw [List.length_set]; omega) | (dsimp only; simp only [List.length_set]; omega))) rfl) : B9 := h a
end
section
namespace Go.Proofs.Ytkpfjmibipblhaa
open Go.Aw Go

def restsTo (a : XAir) (s : XSetting) : Nat → List XSpan
  | 0 => List.replicate a.mine.roads.l.length ⟨0, 0⟩
  | k + 1 =>
    let d := a.doors.l.getD k default
    let x := restS d (s.doors.l.getD k 0)
    let y := (restsTo a s k).getD d.road.toNat default
    (restsTo a s k).set d.road.toNat ⟨y.low + x.low, y.high + x.high⟩

theorem restsTo_length (a : XAir) (s : XSetting) : ∀ k, (restsTo a s k).length = a.mine.roads.l.length
  | 0 => by simp [restsTo]
  | k + 1 => by simp only [restsTo, List.length_set]; exact restsTo_length a s k

theorem restsTo_get {a : XAir} {s : XSetting} (ha : AirOk a) {r : Nat} (hr : r < a.mine.roads.l.length) : ∀ k, k ≤ a.doors.l.length → ∃ x : XSpan, (restsTo a s k)[r]? = some x ∧
    (restTo a s r k).low = (a.mine.roads.l.getD r default).rest.low + x.low ∧ (restTo a s r k).high = (a.mine.roads.l.getD r default).rest.high + x.high
  | 0, _ => ⟨⟨0, 0⟩, by simp [restsTo, hr], by simp [restTo], by simp [restTo]⟩
  | k + 1, hk => by
    obtain ⟨x, h1, h2, h3⟩ := restsTo_get (s := s) ha hr k (by omega)
    have hd := ha.door k _ (get_D default (show k < a.doors.l.length by omega))
    have hd0 := hd.1.road
    simp only [restsTo, restTo]
    by_cases he : (a.doors.l.getD k default).road = (r : Int)
    · rw [if_pos he]
      have he' : (a.doors.l.getD k default).road.toNat = r := by omega
      rw [he']
      have hg : (restsTo a s k).getD r default = x := by rw [List.getD_eq_getElem?_getD, h1]; rfl
      refine ⟨_, List.getElem?_set_self (by rw [restsTo_length]; exact hr), ?_, ?_⟩ <;> rw [hg] <;> dsimp only <;> omega
    · rw [if_neg he]
      have he' : ¬ (a.doors.l.getD k default).road.toNat = r := by omega
      exact ⟨x, by rw [List.getElem?_set_ne he']; exact h1, h2, h3⟩

end Go.Proofs.Ytkpfjmibipblhaa

end
section
namespace Go.Proofs.Ytkpfjmibipblhaa
open Go.Aw Go
set_option maxRecDepth 20000
attribute [local irreducible] CJ LJ DJ Tri YV Gives seqK blockK loopK retK RV mergeK OwL.L

end Go.Proofs.Ytkpfjmibipblhaa

end
section
namespace Go.Proofs.Ytkpfjmibipblhaa
open Go.Aw Go
set_option maxRecDepth 20000
attribute [local irreducible] CJ LJ DJ Tri YV Gives seqK blockK loopK retK RV mergeK OwL.L

theorem fitsS_zero {a : XAir} {s : XSetting} {x : XState} (h0 : airErr a = 0) (h1 : fitB a s = true) (h2 : ¬ (x.pres.l.length ≠ a.mine.places.l.length ∨ x.flows.l.length ≠ a.mine.roads.l.length)) (h3 : x.pres.l.findSome? presBad = none) (h4 : x.flows.l.findSome? flowBad = none)
    (h5 : ∀ i, i < x.flows.l.length → roadUnfit a s x i = none) (h6 : ∀ v, v < x.pres.l.length → placeUnfit a x (netTo a x x.flows.l.length) v = none) : fitsS a s x = 0 := by
  have e1 : (List.range x.flows.l.length).findSome? (roadUnfit a s x) = none := List.findSome?_eq_none_iff.2 fun i hi => h5 i (List.mem_range.1 hi)
  have e2 : (List.range x.pres.l.length).findSome? (placeUnfit a x (netTo a x x.flows.l.length)) = none := List.findSome?_eq_none_iff.2 fun i hi => h6 i (List.mem_range.1 hi)
  rw [fitsS_at h0 h1 h2, h3, h4, e1, e2]
  rfl

end Go.Proofs.Ytkpfjmibipblhaa

end
section
namespace Go.Proofs.Ytkpfjmibipblhaa
open Go.Aw Go
set_option maxRecDepth 20000
attribute [local irreducible] CJ LJ DJ Tri YV Gives seqK blockK loopK retK RV mergeK OwL.L

structure MadeRoad (fr to : Int) (r : XRoad) : Prop where
  fr : r.fr = fr
  to : r.to = to
  len : 1 ≤ r.len ∧ r.len ≤ 400
  area : 4 ≤ r.area ∧ r.area ≤ 30
  closed : r.closed = false
  rest : 1 ≤ r.rest.low ∧ r.rest.low ≤ r.rest.high ∧ r.rest.high ≤ 22
  lift : -300 ≤ r.lift.low ∧ r.lift.low ≤ r.lift.high ∧ r.lift.high ≤ 320

theorem CodesR.mono {x : Arr Int} {R R' : List Sl} (h : CodesR x R) (k : ∀ r ∈ R, InR r R') : CodesR x R' := ⟨h.sl.mono k, h.byte⟩

theorem drawRoad_tri (c : Nat) (x : Arr Int) (k : Nat) (fr to : Int) (R : List Sl) (hx : CodesR x R) (hk : k ≤ x.l.length) :
    Tri Try.prog 85 [.pointer (some ⟨c, 0, none⟩), .int .i64 fr, .int .i64 to].toArray [cblk c x k] R
      (fun v L' R' => ∃ (r : XRoad) (k' : Nat), v = r.val ∧ MadeRoad fr to r ∧ k' ≤ x.l.length ∧ [cblk c x k'] = L' ∧ R = R') := by
  refine tri_enter 42 Try.call85 Try.func85 rfl rfl rfl ?_
  refine qae ?_
  refine qaq ?_
  intro b6
  refine qam ?_
  refine qaa ?_
  refine qaa ?_
  refine qa6 ?_
  refine yaiaa ?_
  rintro v L' R' ⟨r1, k1, rfl, g1, g1', hk1, rfl, rfl⟩
  refine qa6 ?_
  refine yaiab ?_
  rintro v L' R' ⟨r2, k2, rfl, g2, g2', hk2, rfl, rfl⟩
  refine qa6 ?_
  refine yaiac ?_
  rintro v L' R' ⟨r3, k3, rfl, g3, g3', g3'', hk3, rfl, rfl⟩
  refine qa5 ?_
  refine qa6 ?_
  refine LJ_call rfl (range1 (by repeat (first | apply USeg.here | apply USeg.cons | apply USeg.app)) hx hk3 (by omega)) rfl ?_
  rintro v L' R' ⟨r4, k4, rfl, g4, g4', hk4, rfl, rfl⟩
  refine LJ_q (yv_build (qs := [(0, (Value.int _ _).cells.toList)]) (out := [_, _]) tb rfl rfl rfl rfl) rfl ?_
  refine LJ_q (yv_build (qs := [(0, (Value.int _ _).cells.toList), (1, (Value.int _ _).cells.toList), (2, (Value.int _ _).cells.toList), (3, (Value.int _ _).cells.toList), (4, (Value.bool _).cells.toList), (6, (Value.agg _).cells.toList)]) (out := [_, _, _, _, _, _, _, _, _, _]) tb rfl rfl rfl rfl) rfl ?_
  refine qaq ?_
  intro b7
  refine qak ?_
  refine qa4 ?_
  refine yaian ?_
  refine qan ?_
  refine qan ?_
  refine qau ?_
  refine qb3 ?_
  refine yaiao ?_
  rintro v L' R' ⟨r5, k5, rfl, g5, g5', g5'', hk5, rfl, rfl⟩
  refine qas ?_
  refine qcj ?_
  refine qan ?_
  refine qan ?_
  refine qba ?_
  refine qb6 ?_
  refine qb9 ?_
  have g5q := g5' (by omega)
  refine qay ?_
  refine qa6 ?_
  refine LJ_call rfl (range1 (by repeat (first | apply USeg.here | apply USeg.cons | apply USeg.app)) hx hk5 (by omega)) rfl ?_
  rintro v L' R' ⟨r6, k6, rfl, g6, g6', hk6, rfl, rfl⟩
  refine qab ?_
  refine qab ?_
  refine qcn ?_
  refine qa4 ?_
  refine yaian ?_
  refine qan ?_
  refine qan ?_
  refine qau ?_
  refine qb3 ?_
  refine DJ3_call rfl (next1 (by repeat (first | apply USeg.here | apply USeg.cons | apply USeg.app)) hx hk6 (by omega)) rfl rfl ?_
  rintro v L' R' ⟨r7, k7, rfl, g7, g7', g7'', hk7, rfl, rfl⟩
  refine qas ?_
  refine qcj ?_
  refine qan ?_
  refine qan ?_
  refine qba ?_
  refine qb6 ?_
  refine qb9 ?_
  have g7q := g7' (by omega)
  refine qay ?_
  refine LJ_q (yv_loadN (row := [_, _, _, _, _, _, _, _, _, _]) tb rfl rfl rfl (by repeat (first | exact zi0 | apply zi1 | apply zi2)) (by rfl) (by rfl)) rfl ?_
  refine qak ?_
  refine qa0 ?_
  refine q_r (L' := [cblk c x k7]) (R' := R) (res1 rfl (rv_cell (row := [_, _, _, _, _, _, _, _, _, _]) tb rfl rfl rfl (by repeat (first | exact zi0 | apply zi1 | apply zi2)) (by rfl) (by rfl))) ?_
  exact ⟨⟨fr, to, r1, r2, decide (0 < r3), false, ⟨r4, r4 + r5⟩, ⟨r6, r6 + r7⟩⟩, k7, rfl, ⟨rfl, rfl, ⟨g1, g1'⟩, ⟨g2, g2'⟩, rfl, by dsimp only; omega, by dsimp only; omega⟩, hk7, rfl, rfl⟩

structure MadeCurve (l : List XPoint) : Prop where
  len : 1 ≤ l.length ∧ l.length ≤ 4
  ok : CurveOk l
  top : (l.getD 0 default).pres ≤ 3000

theorem CurveOk.snoc {l : List XPoint} {p : XPoint} (h : CurveOk l) (hl : 1 ≤ l.length) (hp : -1048576 ≤ p.flow ∧ p.flow ≤ 1048576 ∧ 0 ≤ p.pres ∧ p.pres ≤ 2199023255552) (hs : (l.getD (l.length - 1) default).flow < p.flow ∧ p.pres ≤ (l.getD (l.length - 1) default).pres) : CurveOk (l ++ [p]) := by
  refine ⟨fun i q hq => ?_, fun i q r hq hr => ?_⟩
  · rw [List.getElem?_append] at hq
    split at hq
    · exact h.pt i q hq
    · rw [List.getElem?_singleton] at hq
      split at hq
      · cases hq; exact hp
      · cases hq
  · rw [List.getElem?_append] at hq hr
    split at hr
    · rename_i h2
      rw [if_pos (by omega)] at hq
      exact h.st i q r hq hr
    · rename_i h2
      rw [List.getElem?_singleton] at hr
      split at hr
      · cases hr
        rw [if_pos (by omega)] at hq
        have e : i = l.length - 1 := by omega
        subst e
        rw [getD_some hq] at hs
        exact hs
      · cases hr

theorem getD_append_left {α : Type} {l m : List α} {i : Nat} {d : α} (h : i < l.length) : (l ++ m).getD i d = l.getD i d := by
  rw [List.getD_eq_getElem?_getD, List.getD_eq_getElem?_getD, List.getElem?_append_left h]
theorem getD_append_last {α : Type} {l : List α} {x d : α} {n : Nat} (h : n = l.length) : (l ++ [x]).getD n d = x := by
  subst h
  rw [List.getD_eq_getElem?_getD]; simp

structure CurveI (n : Int) (y : OwL XPoint) : Prop where
  n : 0 ≤ n ∧ (y.l.length : Int) + n ≤ 4
  len : 1 ≤ y.l.length
  cok : CurveOk y.l
  top : (y.l.getD 0 default).pres ≤ 3000
  last : -20 ≤ (y.l.getD (y.l.length - 1) default).flow ∧ (y.l.getD (y.l.length - 1) default).flow ≤ 40 * (y.l.length : Int) ∧ 0 ≤ (y.l.getD (y.l.length - 1) default).pres ∧ (y.l.getD (y.l.length - 1) default).pres ≤ 3000

theorem CurveI.next {n : Int} {y : OwL XPoint} (h : CurveI n y) (hn : 0 < n) {a b : Int} (ha : 1 ≤ a ∧ a ≤ 40) (hb : 0 ≤ b ∧ b ≤ 899) {o : Ow} {p : XPoint} (h1 : p.flow = (y.l.getD (y.l.length - 1) default).flow + a) (h2 : p.pres = max 0 ((y.l.getD (y.l.length - 1) default).pres - b)) : CurveI (n - 1) ⟨o, y.l ++ [p]⟩ := by
  have hl := h.len
  have hla := h.last
  have hnn := h.n
  have e1 : (y.l ++ [p]).length = y.l.length + 1 := by simp
  have e2 : (y.l ++ [p]).getD ((y.l ++ [p]).length - 1) default = p := getD_append_last (by omega)
  refine ⟨by dsimp only; omega, by dsimp only; omega, h.cok.snoc hl (by omega) (by omega), ?_, ?_⟩
  · dsimp only; rw [getD_append_left (by omega)]; exact h.top
  · dsimp only; rw [e2, e1]; omega

theorem drawCurve_tri (c : Nat) (x : Arr Int) (k : Nat) (R : List Sl) (hx : CodesR x R) (hk : k ≤ x.l.length) :
    Tri Try.prog 120 [.pointer (some ⟨c, 0, none⟩)].toArray [cblk c x k] R
      (fun v L' R' => ∃ (y : Arr XPoint) (k' : Nat), v = y.val ∧ MadeCurve y.l ∧ k' ≤ x.l.length ∧ [cblk c x k'] = L' ∧ ptsl y :: R = R') := by
  refine tri_enter 40 Try.call120 Try.func120 rfl rfl rfl ?_
  refine qae ?_
  refine qc4 ?_
  refine qam ?_
  refine qa6 ?_
  refine yaiaa ?_
  rintro v L' R' ⟨r1, k1, rfl, g1, g1', hk1, rfl, rfl⟩
  refine qa6 ?_
  refine yaiab ?_
  rintro v L' R' ⟨r2, k2, rfl, g2, g2', hk2, rfl, rfl⟩
  refine qcd ?_
  refine yaiad ?_
  rintro v L' R' ⟨b11, rfl, rfl, hR11⟩
  replace hR11 := hR11.symm; subst hR11
  refine qc4 ?_
  refine qaw ?_
  refine qa6 ?_
  refine yaiac ?_
  rintro v L' R' ⟨r3, k3, rfl, g3, g3', g3'', hk3, rfl, rfl⟩
  refine qad ?_
  refine qa2 ?_
  refine CJ_forget [(0, Value.pointer _), (3, Value.slice _ _ _), (4, Value.int _ _)] (by repeat' (first | exact trivial | refine And.intro rfl ?_)) fun tq0 => ?_
  have g3q := g3' (by omega)
  refine CJ_L (built_ow (f := XPoint.cells) (n := 1) [⟨r1, r2⟩] rfl _) ?_
  refine q_p [3, 4, 5, 14, 15, 16, 17, 18, 19, 20, 21, 22, 23, 24, 25, 26, 27, 28, 29, 30, 31, 32, 33, 34, 35, 36, 37, 38] ((⟨fun g => [(3, g.1.2.2.val), (4, .int .i64 g.1.2.1)], fun g => g.1.2.2.L 199 XPoint.cells ++ (cblk c x g.1.1 :: []), fun _ => R, fun g => g.1.2.1.toNat⟩ : Head {g : Nat × Int × OwL XPoint // g.1 ≤ x.l.length ∧ g.2.2.ok 2 XPoint.cells ∧ CurveI g.2.1 g.2.2})) (⟨(k3, r3, ⟨.own b11 1 [], [⟨r1, r2⟩]⟩), hk3, built_ok (fun _ => rfl) rfl (by decide), ⟨by dsimp only; simp only [List.length_singleton]; omega, by simp, ⟨fun i q hq => by (cases i with | zero => cases hq; dsimp only; omega | succ i => cases hq), fun i q r hq hr => by cases hr⟩, by simp; omega, by simp; omega⟩⟩) ?_
  rintro ⟨⟨kk, n, y⟩, hkk, hok, hI⟩ junk
  try dsimp only
  dsimp only at hkk hok hI
  refine qbi ?_
  refine qaa ?_
  refine qa5 ?_
  refine qaf ?_
  refine q_c (fun hc0 => ?_) (fun hc0 => ?_)
  ·
   have hl := hI.len
   have hnn := hI.n
   have hla := hI.last
   have hgl := get_D (l := y.l) (k := y.l.length - 1) default (by omega)
   refine qbb ?_
   refine qbm ?_
   refine qbm ?_
   refine qag ?_
   refine qa9 ?_
   refine LJ_q (yv_index_ow tb (y) _ rfl rfl rfl rfl (by assumption) (i := y.l.length - 1) (by first | rfl | omega | (simp; omega)) (by first | omega | (dsimp only; omega) | (dsimp only; rw [List.length_set]; omega) | (dsimp only; simp only [List.length_set]; omega))) rfl ?_
   refine LJ_q (yv_loadN_ow (row := [_, _]) tb (y) rfl rfl rfl (by repeat (first | apply OSeg.cons | exact OSeg.here | exact OSeg.last | exact OSeg.at (by assumption) | apply OSeg.app)) (by assumption) (fun _ => rfl) (by assumption) (by rfl) (by rfl)) rfl ?_
   refine qaq ?_
   intro b5
   refine qak ?_
   refine qaf ?_
   refine CJ_drawn2 tb [] [0, 1, 2, 3, 6, 7, 8, 4, 5, 9, 10, 11, 12, 13] [14, 15] ([Blk.mk b5 _ _]) _ mixed (by kernel_rfl) (by repeat (first | exact zs0 _ | exact zs1 _ | apply zs2 | apply zs3 | apply zs4 | apply zs5)) (List.nil_sublist _) ?_
   refine qct ?_
   refine qan ?_
   refine qau ?_
   refine qb3 ?_
   refine qan ?_
   refine qau ?_
   refine qb3 ?_
   refine yaiap ?_
   rintro v L' R' ⟨r4, k4, rfl, g4, g4', hk4, rfl, rfl⟩
   refine qas ?_
   refine qcj ?_
   refine yaiao ?_
   rintro v L' R' ⟨r5, k5, rfl, g5, g5', g5'', hk5, rfl, rfl⟩
   refine qas ?_
   refine qcc ?_
   refine DJ3_q (yv_max2 rfl rfl) rfl rfl rfl rfl ?_
   refine qcw ?_
   refine yaiaq ?_
   rintro v L' R' ⟨b37, rfl, rfl, hR37⟩
   replace hR37 := hR37.symm; subst hR37
   refine qa1 ?_
   refine qba ?_
   refine DJ_g (gives_append1 (f := XPoint.cells) (p := y) (a := ⟨(y.l.getD (y.l.length - 1) default).flow + r4, max 0 ((y.l.getD (y.l.length - 1) default).pres - r5)⟩) tb rfl rfl rfl rfl (hok) (by repeat (first | apply OSeg.cons | exact OSeg.here | exact OSeg.last | exact OSeg.at (by assumption) | apply OSeg.app)) (shown_own (by repeat (first | exact zi0 | apply zi1 | apply zi2)) rfl rfl) rfl (by first | omega | (simp only [List.length_cons, List.length_nil, List.length_append]; omega))) rfl rfl rfl ?_
   rintro v L' R' ⟨o38, rfl, hok38, rfl, rfl⟩
   refine qa1 ?_
   refine DJ_q (yv_assign (show _ = Value.slice _ _ _ from rfl)) rfl rfl rfl ?_
   refine qby ?_
   refine qaa ?_
   refine qa9 ?_
   refine qad ?_
   refine qav ?_
   exact q_k ⟨(k5, n - 1, _), hk5, hok38, hI.next hc0 ⟨g4, g4'⟩ ⟨g5, by have := g5' (by omega); omega⟩ rfl rfl⟩
  refine qc3 ?_
  refine CJ_frzO [] hok (fun _ => rfl) (by decide) (fun s hs => by cases hs) ?_
  refine qay ?_
  refine qbm ?_
  refine qc4 ?_
  refine qa0 ?_
  refine q_r (L' := [cblk c x kk]) (R' := ptsl y.arr :: R) (res1 rfl (rv_tmp (show _ = Value.slice _ _ _ from rfl))) ?_
  exact ⟨y.arr, kk, rfl, ⟨⟨hI.len, by have := hI.n; dsimp only; omega⟩, hI.cok, hI.top⟩, hkk, rfl, rfl⟩

structure MadeDoor (road : Int) (d : XDoor) : Prop where
  road : d.road = road
  other : d.other = -1
  len : 2 ≤ d.rests.l.length ∧ d.rests.l.length ≤ 4
  rest : ∀ (i : Nat) (v : Int), d.rests.l[i]? = some v → 0 ≤ v ∧ v ≤ 900
  falls : fallsB d.rests.l d.rests.l.length = true

theorem fallsB_append {l m : List Int} : ∀ {k : Nat}, k ≤ l.length → fallsB (l ++ m) k = fallsB l k
  | 0, _ => rfl
  | k + 1, hk => by
    rw [fallsB, fallsB, fallsB_append (by omega), getD_append_left (by omega)]
    rcases k with _ | k
    · rfl
    · rw [getD_append_left (by omega)]

structure DoorI (n : Int) (l : List Int) : Prop where
  n : 0 ≤ n ∧ (l.length : Int) + n ≤ 4 ∧ 2 ≤ (l.length : Int) + n
  len : 1 ≤ l.length
  rest : ∀ (i : Nat) (v : Int), l[i]? = some v → 0 ≤ v ∧ v ≤ 900
  falls : fallsB l l.length = true
  last : 260 - 60 * (l.length : Int) ≤ l.getD (l.length - 1) 0

theorem DoorI.next {n : Int} {l : List Int} (h : DoorI n l) (hn : 0 < n) {b v : Int} (hb : 1 ≤ b ∧ b ≤ 60) (hv : v = max 0 (l.getD (l.length - 1) 0 - b)) : DoorI (n - 1) (l ++ [v]) := by
  have hl := h.len
  have hnn := h.n
  have hla := h.last
  have hlr := h.rest _ _ (get_D (l := l) (k := l.length - 1) 0 (by omega))
  have e1 : (l ++ [v]).length = l.length + 1 := by simp
  refine ⟨by rw [e1]; omega, by omega, fun i w hw => ?_, ?_, ?_⟩
  · rw [List.getElem?_append] at hw
    split at hw
    · exact h.rest i w hw
    · rw [List.getElem?_singleton] at hw
      split at hw
      · cases hw; omega
      · cases hw
  · rw [e1, fallsB, fallsB_append (Nat.le_refl _), h.falls, getD_append_last rfl, getD_append_left (by omega)]
    simp only [Bool.true_and, Bool.or_eq_true, decide_eq_true_eq]
    omega
  · rw [e1, getD_append_last (by omega)]
    omega

theorem drawDoor_tri (c : Nat) (x : Arr Int) (k : Nat) (road : Int) (R : List Sl) (hx : CodesR x R) (hk : k ≤ x.l.length) :
    Tri Try.prog 121 [.pointer (some ⟨c, 0, none⟩), .int .i64 road].toArray [cblk c x k] R
      (fun v L' R' => ∃ (d : XDoor) (k' : Nat), v = d.val ∧ MadeDoor road d ∧ k' ≤ x.l.length ∧ [cblk c x k'] = L' ∧ d.sl :: R = R') := by
  refine tri_enter 36 Try.call121 Try.func121 rfl rfl rfl ?_
  refine qae ?_
  refine qaq ?_
  intro b4
  refine qam ?_
  refine qaa ?_
  refine qa6 ?_
  refine yaiaa ?_
  rintro v L' R' ⟨r1, k1, rfl, g1, g1', hk1, rfl, rfl⟩
  refine qcx ?_
  rintro v L' R' ⟨b10, rfl, rfl, hR10⟩
  replace hR10 := hR10.symm; subst hR10
  refine LJ_q (yv_build (qs := [(0, (Value.int _ _).cells.toList), (1, (Value.int _ _).cells.toList), (2, (Value.slice _ _ _).cells.toList)]) (out := [_, _, _]) tb rfl rfl rfl rfl) rfl ?_
  refine qaq ?_
  intro b5
  refine qak ?_
  refine qaw ?_
  refine qa6 ?_
  refine yaiab ?_
  rintro v L' R' ⟨r2, k2, rfl, g2, g2', hk2, rfl, rfl⟩
  refine qad ?_
  refine qa2 ?_
  refine CJ_forget [(0, Value.pointer _), (4, Value.pointer _), (5, Value.pointer _), (6, Value.int _ _)] (by repeat' (first | exact trivial | refine And.intro rfl ?_)) fun tq0 => ?_
  refine CJ_L (congrArg (List.cons _) (built_ow (f := icell) (n := 1) [r1] rfl _)) ?_
  refine q_p [6, 14, 15, 16, 17, 18, 19, 20, 21, 22, 23, 24, 25, 26, 27, 28, 29, 30, 31, 32, 33, 34] ((⟨fun g => [(6, .int .i64 g.1.2.1)], fun g => ⟨b5, [.int .i64 road, .int .i64 (-1), g.1.2.2.val], 180⟩ :: (g.1.2.2.L 3 icell ++ (⟨b4, [.int .i64 0, .int .i64 0, .slice none 0 0], 180⟩ :: cblk c x g.1.1 :: [])), fun _ => R, fun g => g.1.2.1.toNat⟩ : Head {g : Nat × Int × OwL Int // g.1 ≤ x.l.length ∧ g.2.2.ok 1 icell ∧ DoorI g.2.1 g.2.2.l})) (⟨(k2, r2, ⟨.own b10 1 [], [r1]⟩), hk2, built_ok (fun _ => rfl) rfl (by decide), ⟨by dsimp only; simp only [List.length_singleton]; omega, by simp, fun i q hq => by (cases i with | zero => cases hq; omega | succ i => cases hq), rfl, by simp; omega⟩⟩) ?_
  rintro ⟨⟨kk, n, y⟩, hkk, hok, hI⟩ junk
  try dsimp only
  dsimp only at hkk hok hI
  refine qbi ?_
  refine qaa ?_
  refine qa5 ?_
  refine qaf ?_
  refine q_c (fun hc0 => ?_) (fun hc0 => ?_)
  ·
   have hl := hI.len
   have hnn := hI.n
   have hgl := get_D (l := y.l) (k := y.l.length - 1) 0 (by omega)
   have hlr := hI.rest _ _ hgl
   refine CJ_skip (seqK_normal (CJ_seq (CJ_block ?_)))
   refine CJ_drawn2 tb [] [0, 1, 2, 3, 4, 5, 6, 7, 8, 9, 10, 11, 12, 13, 14] [15, 16, 17] ([Blk.mk b5 _ _] ++ (y.L 3 icell ++ [])) _ mixed (by kernel_rfl) (by repeat (first | exact zs0 _ | exact zs1 _ | apply zs2 | apply zs3 | apply zs4 | apply zs5)) (List.nil_sublist _) ?_
   refine qan ?_
   refine qau ?_
   refine qan ?_
   refine qau ?_
   refine qan ?_
   refine qau ?_
   refine DJ3_q (yv_len tb rfl rfl rfl) rfl rfl rfl rfl ?_
   refine qcc ?_
   refine DJ3_q (yv_index_ow tb (y) _ rfl rfl rfl rfl (by assumption) (i := y.l.length - 1) (by first | rfl | omega | (simp; omega)) (by first | omega | (dsimp only; omega) | (dsimp only; rw [List.length_set]; omega) | (dsimp only; simp only [List.length_set]; omega))) rfl rfl rfl rfl ?_
   refine DJ3_q (yv_load1_ow tb (y) rfl rfl rfl (by repeat (first | apply OSeg.cons | exact OSeg.here | exact OSeg.last | exact OSeg.at (by assumption) | apply OSeg.app)) (by assumption) (fun _ => rfl) (by assumption) (by rfl)) rfl rfl rfl rfl ?_
   refine qb3 ?_
   refine yaiap ?_
   rintro v L' R' ⟨r4, k4, rfl, g4, g4', hk4, rfl, rfl⟩
   refine qas ?_
   refine qcc ?_
   refine DJ3_q (yv_max2 rfl rfl) rfl rfl rfl rfl ?_
   refine qc9 ?_
   rintro v L' R' ⟨b32, rfl, rfl, hR32⟩
   replace hR32 := hR32.symm; subst hR32
   refine qa1 ?_
   refine qba ?_
   refine DJ_g (gives_append1 (f := icell) (p := y) (a := max 0 (y.l.getD (y.l.length - 1) 0 - r4)) tb rfl rfl rfl rfl (hok) (by repeat (first | apply OSeg.cons | exact OSeg.here | exact OSeg.last | exact OSeg.at (by assumption) | apply OSeg.app)) (shown_own (by repeat (first | exact zi0 | apply zi1 | apply zi2)) rfl rfl) rfl (by first | omega | (simp only [List.length_cons, List.length_nil, List.length_append]; omega))) rfl rfl rfl ?_
   rintro v L' R' ⟨o33, rfl, hok33, rfl, rfl⟩
   refine qa1 ?_
   refine qal ?_
   refine qbw ?_
   refine qby ?_
   refine qaa ?_
   refine qa9 ?_
   refine qad ?_
   refine qav ?_
   exact q_k ⟨(k4, n - 1, _), hk4, hok33, hI.next hc0 ⟨g4, g4'⟩ rfl⟩
  refine qc3 ?_
  refine CJ_frz1 (A := [_]) (wd := 1) [] (fun _ => rfl) (by decide) hok (fun s hs => by cases hs) ?_
  refine qb1 ?_
  refine qay ?_
  refine LJ_q (yv_loadN (row := [_, _, _]) tb rfl rfl rfl (by repeat (first | exact zi0 | apply zi1 | apply zi2)) (by rfl) (by rfl)) rfl ?_
  refine qak ?_
  refine qa0 ?_
  refine q_r (L' := [cblk c x kk]) (R' := (y.arr.sl 1 icell []) :: R) (res1 rfl (rv_cell (row := [_, _, _]) tb rfl rfl rfl (by repeat (first | exact zi0 | apply zi1 | apply zi2)) (by rfl) (by rfl))) ?_
  exact ⟨⟨road, -1, y.arr⟩, kk, rfl, ⟨rfl, rfl, by have := hI.n; dsimp only; omega, hI.rest, hI.falls⟩, hkk, rfl, rfl⟩
end Go.Proofs.Ytkpfjmibipblhaa

end
section
namespace Go.Proofs.Ytkpfjmibipblhaa
open Go.Aw Go
set_option maxRecDepth 20000
attribute [local irreducible] CJ LJ DJ Tri YV Gives seqK blockK loopK retK RV mergeK OwL.L

theorem curve1 {c : Nat} {x : Arr Int} {k : Nat} {L : List Blk} {F : List Value → List Blk} {R : List Sl} (hu : USeg c (ccells x k) 122 L F) (hx : CodesR x R) (hk : k ≤ x.l.length) :
    Tri Try.prog 120 [.pointer (some ⟨c, 0, none⟩)].toArray L R
      (fun v L' R' => ∃ (y : Arr XPoint) (k' : Nat), v = y.val ∧ MadeCurve y.l ∧ k' ≤ x.l.length ∧ F (ccells x k') = L' ∧ ptsl y :: R = R') :=
  (Tri.at1 (Post' := fun v cs' R' => ∃ (y : Arr XPoint) (k' : Nat), v = y.val ∧ MadeCurve y.l ∧ k' ≤ x.l.length ∧ cs' = ccells x k' ∧ ptsl y :: R = R') hu (drawCurve_tri c x k R hx hk)
    (fun v L' R' ⟨y, k', h1, h2, h5, h6, h7⟩ => ⟨_, h6, y, k', h1, h2, h5, rfl, h7⟩)).mono
    (fun v L' R' ⟨cs', h0, y, k', h1, h2, h5, h6, h7⟩ => ⟨y, k', h1, h2, h5, by rw [← h6]; exact h0, h7⟩)
theorem door1 {c : Nat} {x : Arr Int} {k : Nat} {road : Int} {L : List Blk} {F : List Value → List Blk} {R : List Sl} (hu : USeg c (ccells x k) 122 L F) (hx : CodesR x R) (hk : k ≤ x.l.length) :
    Tri Try.prog 121 [.pointer (some ⟨c, 0, none⟩), .int .i64 road].toArray L R
      (fun v L' R' => ∃ (d : XDoor) (k' : Nat), v = d.val ∧ MadeDoor road d ∧ k' ≤ x.l.length ∧ F (ccells x k') = L' ∧ d.sl :: R = R') :=
  (Tri.at1 (Post' := fun v cs' R' => ∃ (d : XDoor) (k' : Nat), v = d.val ∧ MadeDoor road d ∧ k' ≤ x.l.length ∧ cs' = ccells x k' ∧ d.sl :: R = R') hu (drawDoor_tri c x k road R hx hk)
    (fun v L' R' ⟨y, k', h1, h2, h5, h6, h7⟩ => ⟨_, h6, y, k', h1, h2, h5, rfl, h7⟩)).mono
    (fun v L' R' ⟨cs', h0, y, k', h1, h2, h5, h6, h7⟩ => ⟨y, k', h1, h2, h5, by rw [← h6]; exact h0, h7⟩)
theorem road1 {c : Nat} {x : Arr Int} {k : Nat} {fr to : Int} {L : List Blk} {F : List Value → List Blk} {R : List Sl} (hu : USeg c (ccells x k) 122 L F) (hx : CodesR x R) (hk : k ≤ x.l.length) :
    Tri Try.prog 85 [.pointer (some ⟨c, 0, none⟩), .int .i64 fr, .int .i64 to].toArray L R
      (fun v L' R' => ∃ (r : XRoad) (k' : Nat), v = r.val ∧ MadeRoad fr to r ∧ k' ≤ x.l.length ∧ F (ccells x k') = L' ∧ R = R') :=
  (Tri.at1 (Post' := fun v cs' R' => ∃ (r : XRoad) (k' : Nat), v = r.val ∧ MadeRoad fr to r ∧ k' ≤ x.l.length ∧ cs' = ccells x k' ∧ R = R') hu (drawRoad_tri c x k fr to R hx hk)
    (fun v L' R' ⟨y, k', h1, h2, h5, h6, h7⟩ => ⟨_, h6, y, k', h1, h2, h5, rfl, h7⟩)).mono
    (fun v L' R' ⟨cs', h0, y, k', h1, h2, h5, h6, h7⟩ => ⟨y, k', h1, h2, h5, by rw [← h6]; exact h0, h7⟩)

structure FanD (n : Nat) (f : XFan) : Prop where
  road : 0 ≤ f.road ∧ f.road < n
  curve : MadeCurve f.curve.l
structure DoorD (n : Nat) (d : XDoor) : Prop where
  road : 0 ≤ d.road ∧ d.road < n
  made : MadeDoor d.road d
structure FansD (n : Nat) (m : Int) (fans : List XFan) (sf : List Int) : Prop where
  m : 0 ≤ m ∧ (fans.length : Int) + m ≤ 2
  len : sf.length = fans.length
  fan : ∀ f ∈ fans, FanD n f
  st : ∀ s ∈ sf, 0 ≤ s ∧ s ≤ 2
structure DoorsD (n : Nat) (m : Int) (doors : List XDoor) (sd : List Int) : Prop where
  m : 0 ≤ m ∧ (doors.length : Int) + m ≤ 2
  len : sd.length = doors.length
  door : ∀ d ∈ doors, DoorD n d
  st : ∀ (i : Nat) (d : XDoor) (s : Int), doors[i]? = some d → sd[i]? = some s → 0 ≤ s ∧ s < d.rests.l.length

theorem FansD.next {n : Nat} {m : Int} {fans : List XFan} {sf : List Int} (h : FansD n m fans sf) (hm : 0 < m) {f : XFan} (hf : FanD n f) {s : Int} (hs : 0 ≤ s ∧ s ≤ 2) : FansD n (m - 1) (fans ++ [f]) (sf ++ [s]) := by
  have := h.m
  refine ⟨by simp only [List.length_append, List.length_singleton]; omega, by simp [h.len], fun g hg => ?_, fun t ht => ?_⟩
  · rcases List.mem_append.1 hg with hg | hg
    · exact h.fan g hg
    · rw [List.mem_singleton.1 hg]; exact hf
  · rcases List.mem_append.1 ht with ht | ht
    · exact h.st t ht
    · rw [List.mem_singleton.1 ht]; exact hs
theorem FansD.zero {n : Nat} {m : Int} {fans : List XFan} {sf : List Int} (h : FansD n m fans sf) : FansD n 0 fans sf := ⟨by have := h.m; omega, h.len, h.fan, h.st⟩
theorem DoorsD.zero {n : Nat} {m : Int} {doors : List XDoor} {sd : List Int} (h : DoorsD n m doors sd) : DoorsD n 0 doors sd := ⟨by have := h.m; omega, h.len, h.door, h.st⟩
theorem DoorsD.next {n : Nat} {m : Int} {doors : List XDoor} {sd : List Int} (h : DoorsD n m doors sd) (hm : 0 < m) {d : XDoor} (hd : DoorD n d) {s : Int} (hs : 0 ≤ s ∧ s < d.rests.l.length) : DoorsD n (m - 1) (doors ++ [d]) (sd ++ [s]) := by
  have := h.m
  refine ⟨by simp only [List.length_append, List.length_singleton]; omega, by simp [h.len], fun g hg => ?_, fun i d' s' h1 h2 => ?_⟩
  · rcases List.mem_append.1 hg with hg | hg
    · exact h.door g hg
    · rw [List.mem_singleton.1 hg]; exact hd
  · have hl := h.len
    rw [List.getElem?_append] at h1 h2
    split at h1
    · rw [if_pos (by omega)] at h2
      exact h.st i d' s' h1 h2
    · rw [if_neg (by omega)] at h2
      rw [List.getElem?_singleton] at h1 h2
      split at h1
      · rw [if_pos (by omega)] at h2
        cases h1; cases h2; exact hs
      · cases h1

theorem equipped_tri (c ab : Nat) (x : Arr Int) (k n rc : Nat) (pv : Value) (ra : Option Addr) (R : List Sl) (hx : CodesR x R) (hk : k ≤ x.l.length) (hn : n ≤ 100) :
    Tri Try.prog 86 [.pointer (some ⟨c, 0, none⟩), .pointer (some ⟨ab, 0, none⟩)].toArray [cblk c x k, ⟨ab, [pv, .slice ra n rc, .slice none 0 0, .slice none 0 0], 30⟩] R
      (fun v L' R' => ∃ (fans : OwL XFan) (doors : OwL XDoor) (sf sd : OwL Int) (k' : Nat) (S : List Sl), v = .agg #[sf.val, sd.val] ∧ (fans.ok 4 XFan.cells ∧ doors.ok 3 XDoor.cells ∧ sf.ok 1 icell ∧ sd.ok 1 icell) ∧ FansD n 0 fans.l sf.l ∧ DoorsD n 0 doors.l sd.l ∧
        (∀ f ∈ fans.l, InR f.sl S) ∧ (∀ d ∈ doors.l, InR d.sl S) ∧ k' ≤ x.l.length ∧
        cblk c x k' :: ⟨ab, [pv, .slice ra n rc, fans.val, doors.val], 30⟩ :: (fans.L 176 XFan.cells ++ (doors.L 180 XDoor.cells ++ (sf.L 3 icell ++ (sd.L 3 icell ++ [])))) = L' ∧ S ++ R = R') := by
  refine tri_enter 88 Try.call86 Try.func86 rfl rfl rfl ?_
  refine qae ?_
  refine qaq ?_
  intro b4
  refine qam ?_
  refine qaq ?_
  intro b5
  refine qam ?_
  refine qa6 ?_
  refine LJ_q (yv_nilCheck rfl) rfl ?_
  refine qab ?_
  refine qab ?_
  refine qac ?_
  refine qag ?_
  refine qad ?_
  refine qaw ?_
  refine qa6 ?_
  refine LJ_call rfl (next1 (by repeat (first | apply USeg.here | apply USeg.cons | apply USeg.app)) hx hk (by omega)) rfl ?_
  rintro v L' R' ⟨r1, k1, rfl, g1, g1', g1'', hk1, rfl, rfl⟩
  refine qad ?_
  refine qa2 ?_
  refine CJ_forget [(0, Value.pointer _), (1, Value.pointer _), (4, Value.pointer _), (5, Value.pointer _), (6, Value.int _ _), (7, Value.int _ _)] (by repeat' (first | exact trivial | refine And.intro rfl ?_)) fun tq0 => ?_
  refine CJ_loop [7, 18, 19, 20, 21, 22, 23, 24, 25, 26, 27, 28, 29, 30, 31, 32, 33, 34, 35, 36, 37, 38, 39, 40, 41, 42, 43, 44, 45, 46, 47, 48, 49, 50, 51] ((⟨fun g => [(7, .int .i64 g.1.2.1)], fun g => ⟨b5, [g.1.2.2.2.1.val, .slice none 0 0], 40⟩ :: ⟨b4, [.slice none 0 0, .slice none 0 0], 40⟩ :: cblk c x g.1.1 :: ⟨ab, [pv, .slice ra n rc, g.1.2.2.1.val, .slice none 0 0], 30⟩ :: (g.1.2.2.1.L 176 XFan.cells ++ (g.1.2.2.2.1.L 3 icell ++ [])), fun g => g.1.2.2.2.2 ++ R, fun g => g.1.2.1.toNat⟩ : Head {g : Nat × Int × OwL XFan × OwL Int × List Sl // g.1 ≤ x.l.length ∧ (∃ m, g.2.1 ≤ m ∧ FansD n m g.2.2.1.l g.2.2.2.1.l) ∧ (g.2.2.1.ok 4 XFan.cells ∧ g.2.2.2.1.ok 1 icell) ∧ (∀ f ∈ g.2.2.1.l, InR f.sl g.2.2.2.2)})) (⟨(k1, r1, OwL.nil, OwL.nil, []), hk1, ⟨r1, Int.le_refl _, ⟨⟨g1, by have := g1' (by omega); simp only [List.length_nil]; omega⟩, rfl, (fun _ h => by cases h), (fun _ h => by cases h)⟩⟩, ⟨OwL.nil_ok, OwL.nil_ok⟩, (fun _ h => by cases h)⟩) (by repeat' (first | exact trivial | refine And.intro rfl ?_)) (by dsimp only; rw [nil_L, nil_L]; exact List.Sublist.refl _) (allR_self _) ?_
  rintro ⟨⟨kk, m, fans, sf, S⟩, hkk, ⟨m', hm', hD⟩, ⟨hokf, hoks⟩, hin⟩ junk
  try dsimp only
  dsimp only at hkk hm' hD hokf hoks hin
  refine qbi ?_
  refine qaa ?_
  refine qa5 ?_
  refine qah ?_
  apply LJ_and (G := [_, _]) (j := 2) (cj := 20) rfl rfl (by rfl) rfl (show _ = Value.bool _ from rfl) rfl
  ·
   intro hg3
   replace hg3 := qb hg3
   refine qaa ?_
   refine qa5 ?_
   exact qai
  intro junk3
  refine qaf ?_
  refine q_c (fun hc0 => ?_) (fun hc0 => ?_)
  ·
   have hxs : CodesR x (S ++ R) := hx.mono fun r h => inR_self (by simp [h])
   have hml := hD.m
   have hll := hD.len
   refine CJ_skip (seqK_normal (CJ_seq (CJ_block (CJ_seq ?_))))
   refine CJ_drawn2 tb [26] [0, 1, 2, 3, 4, 5, 6, 8, 10, 12, 7, 9, 11, 13, 14, 15] [16, 17, 18, 19] ([Blk.mk ab _ _]) _ mixed (by kernel_rfl) (by repeat (first | exact zs0 _ | exact zs1 _ | apply zs2 | apply zs3 | apply zs4 | apply zs5)) (List.nil_sublist _) ?_
   refine DJ3_ql (yv_move (show _ = Value.pointer _ from rfl)) rfl rfl rfl rfl ?_
   refine qb3 ?_
   refine DJ3_q (yv_nilCheck rfl) rfl rfl rfl rfl ?_
   refine qan ?_
   refine qau ?_
   refine qb3 ?_
   refine qbf ?_
   iterate 3 refine qb3 ?_
   refine DJ3_call rfl (next1 (by repeat (first | apply USeg.here | apply USeg.cons | apply USeg.app)) hxs hkk (by omega)) rfl rfl ?_
   rintro v L' R' ⟨r2, k2, rfl, g2, g2', g2'', hk2, rfl, rfl⟩
   refine qas ?_
   refine DJ3_call rfl (one1 (by repeat (first | apply USeg.here | apply USeg.cons | apply USeg.app)) hxs hk2 (by omega)) rfl rfl ?_
   rintro v L' R' ⟨r3, k3, rfl, hk3, rfl, rfl⟩
   refine qas ?_
   refine DJ3_call rfl (one1 (by repeat (first | apply USeg.here | apply USeg.cons | apply USeg.app)) hxs hk3 (by omega)) rfl rfl ?_
   rintro v L' R' ⟨r4, k4, rfl, hk4, rfl, rfl⟩
   refine qas ?_
   refine DJ3_call rfl (curve1 (by repeat (first | apply USeg.here | apply USeg.cons | apply USeg.app)) hxs hk4) rfl rfl ?_
   rintro v L' R' ⟨y, k5, rfl, hy, hk5, rfl, rfl⟩
   refine qas ?_
   have hxs2 : CodesR x (ptsl y :: (S ++ R)) := hxs.mono fun r h => inR_self (by simp [h])
   refine DJ3_q (yv_build (qs := [(0, (Value.int _ _).cells.toList), (1, (Value.bool _).cells.toList), (2, (Value.bool _).cells.toList), (3, (Value.slice _ _ _).cells.toList)]) (out := [_, _, _, _]) tb rfl rfl rfl rfl) rfl rfl rfl rfl ?_
   refine DJ3_g (gives_buildSlice (qs := [(0, (Value.agg _).cells.toList)]) (out := [_, _, _, _]) tb rfl rfl rfl rfl rfl rfl rfl) rfl rfl rfl ?_
   rintro v L' R' ⟨b41, rfl, rfl, hR41⟩
   replace hR41 := hR41.symm; subst hR41
   refine qa1 ?_
   refine qba ?_
   refine DJ_g (gives_append1 (f := XFan.cells) (p := fans) (a := ⟨r2, r3, r4, y⟩) tb rfl rfl rfl rfl (hokf) (by repeat (first | apply OSeg.cons | exact OSeg.here | exact OSeg.last | exact OSeg.at (by assumption) | apply OSeg.app)) (shown_own (by repeat (first | exact zi0 | apply zi1 | apply zi2)) rfl rfl) rfl (by first | omega | (simp only [List.length_cons, List.length_nil, List.length_append]; omega))) rfl rfl rfl ?_
   rintro v L' R' ⟨o42, rfl, hok42, rfl, rfl⟩
   refine qa1 ?_
   refine qcb ?_
   refine qal ?_
   refine qbw ?_
   refine qbu ?_
   refine CJ_drawn2 tb [] [0, 1, 2, 3, 4] [5, 6, 7] ([Blk.mk b5 _ _]) _ mixed (by kernel_rfl) (by repeat (first | exact zs0 _ | exact zs1 _ | apply zs2 | apply zs3 | apply zs4 | apply zs5)) (List.nil_sublist _) ?_
   refine qan ?_
   refine qau ?_
   refine qb3 ?_
   refine DJ3_call rfl (next1 (by repeat (first | apply USeg.here | apply USeg.cons | apply USeg.app)) hxs2 hk5 (by omega)) rfl rfl ?_
   rintro v L' R' ⟨r6, k6, rfl, g6, g6', g6'', hk6, rfl, rfl⟩
   refine qas ?_
   refine qc9 ?_
   rintro v L' R' ⟨b49, rfl, rfl, hR49⟩
   replace hR49 := hR49.symm; subst hR49
   refine qa1 ?_
   refine qba ?_
   refine DJ_g (gives_append1 (f := icell) (p := sf) (a := r6) tb rfl rfl rfl rfl (hoks) (by repeat (first | apply OSeg.cons | exact OSeg.here | exact OSeg.last | exact OSeg.at (by assumption) | apply OSeg.app)) (shown_own (by repeat (first | exact zi0 | apply zi1 | apply zi2)) rfl rfl) rfl (by first | omega | (simp only [List.length_cons, List.length_nil, List.length_append]; omega))) rfl rfl rfl ?_
   rintro v L' R' ⟨o50, rfl, hok50, rfl, rfl⟩
   refine qa1 ?_
   refine qal ?_
   refine qbw ?_
   refine qby ?_
   refine qaa ?_
   refine qa9 ?_
   refine qad ?_
   refine qav ?_
   have hq2 := g2' (by omega)
   have hq6 := g6' (by omega)
   exact q_k ⟨(k6, m - 1, _, _, ptsl y :: S), hk6, ⟨m' - 1, by dsimp only; omega, hD.next (by omega) ⟨⟨g2, by dsimp only; omega⟩, hy⟩ ⟨g6, by omega⟩⟩, ⟨hok42, hok50⟩, (fun f hf => by rcases List.mem_append.1 hf with h | h; exact (hin f h).mono (fun r hr => inR_self (by simp [hr])); rw [List.mem_singleton.1 h]; exact inR_self (by simp))⟩
  refine CJ_exit (seqK_exit (loopK_exit (blockK_exit (seqK_normal (CJ_seq (CJ_seq ?_))))))
  have hx8 : CodesR x (S ++ R) := hx.mono fun r h => inR_self (by simp [h])
  refine qay ?_
  refine qa6 ?_
  refine LJ_call rfl (next1 (by repeat (first | apply USeg.here | apply USeg.cons | apply USeg.app)) hx8 hkk (by omega)) rfl ?_
  rintro v L' R' ⟨r7, k7, rfl, g7, g7', g7'', hk7, rfl, rfl⟩
  refine qad ?_
  refine qa2 ?_
  refine CJ_forget [(0, Value.pointer _), (1, Value.pointer _), (4, Value.pointer _), (5, Value.pointer _), (6, Value.int _ _), (8, Value.int _ _)] (by repeat' (first | exact trivial | refine And.intro rfl ?_)) fun tq1 => ?_
  refine CJ_loop [8, 9, 54, 55, 56, 57, 58, 59, 60, 61, 62, 63, 64, 65, 66, 67, 68, 69, 70, 71, 72, 73, 74, 75, 76, 77, 78, 79, 80, 81, 82, 83, 84, 85, 86] ((⟨fun g => [(8, .int .i64 g.1.2.1)], fun g => ⟨b5, [sf.val, g.1.2.2.2.1.val], 40⟩ :: ⟨b4, [.slice none 0 0, .slice none 0 0], 40⟩ :: cblk c x g.1.1 :: ⟨ab, [pv, .slice ra n rc, fans.val, g.1.2.2.1.val], 30⟩ :: (fans.L 176 XFan.cells ++ (g.1.2.2.1.L 180 XDoor.cells ++ (sf.L 3 icell ++ (g.1.2.2.2.1.L 3 icell ++ [])))), fun g => g.1.2.2.2.2 ++ (S ++ R), fun g => g.1.2.1.toNat⟩ : Head {g : Nat × Int × OwL XDoor × OwL Int × List Sl // g.1 ≤ x.l.length ∧ (∃ m, g.2.1 ≤ m ∧ DoorsD n m g.2.2.1.l g.2.2.2.1.l) ∧ (g.2.2.1.ok 3 XDoor.cells ∧ g.2.2.2.1.ok 1 icell) ∧ (∀ d ∈ g.2.2.1.l, InR d.sl g.2.2.2.2)})) (⟨(k7, r7, OwL.nil, OwL.nil, []), hk7, ⟨r7, Int.le_refl _, ⟨⟨g7, by have := g7' (by omega); simp only [List.length_nil]; omega⟩, rfl, (fun _ h => by cases h), (fun _ _ _ h => by cases h)⟩⟩, ⟨OwL.nil_ok, OwL.nil_ok⟩, (fun _ h => by cases h)⟩) (by repeat' (first | exact trivial | refine And.intro rfl ?_)) (by dsimp only; rw [nil_L, nil_L]; exact List.Sublist.refl _) (allR_self _) ?_
  rintro ⟨⟨kk2, m2, doors, sd, S2⟩, hkk2, ⟨m2', hm2', hD2⟩, ⟨hokd, hokt⟩, hin2⟩ junk
  try dsimp only
  dsimp only at hkk2 hm2' hD2 hokd hokt hin2
  refine qbi ?_
  refine qaa ?_
  refine qa5 ?_
  refine qah ?_
  apply LJ_and (G := [_, _]) (j := 2) (cj := 56) rfl rfl (by rfl) rfl (show _ = Value.bool _ from rfl) rfl
  ·
   intro hg3
   replace hg3 := qb hg3
   refine qaa ?_
   refine qa5 ?_
   exact qai
  intro junk3
  refine qaf ?_
  refine q_c (fun hc1 => ?_) (fun hc1 => ?_)
  ·
   have hx2 : CodesR x (S2 ++ (S ++ R)) := hx8.mono fun r h => inR_self (by simp only [List.mem_append] at h ⊢; exact .inr h)
   have hml := hD2.m
   have hll := hD2.len
   refine qbb ?_
   refine qa6 ?_
   refine qa6 ?_
   refine qaa ?_
   refine LJ_call rfl (next1 (by repeat (first | apply USeg.here | apply USeg.cons | apply USeg.app)) hx2 hkk2 (by omega)) rfl ?_
   rintro v L' R' ⟨r8, k8, rfl, g8, g8', g8'', hk8, rfl, rfl⟩
   refine LJ_call rfl (door1 (by repeat (first | apply USeg.here | apply USeg.cons | apply USeg.app)) hx2 hk8) rfl ?_
   rintro v L' R' ⟨d, k9, rfl, hd, hk9, rfl, rfl⟩
   have hx3 : CodesR x (d.sl :: (S2 ++ (S ++ R))) := hx2.mono fun r h => inR_self (List.mem_cons_of_mem _ h)
   refine qaq ?_
   intro b9
   refine qak ?_
   refine qa4 ?_
   refine CJ_drawn2 tb [67] [0, 1, 2, 3, 4, 5, 6] [7, 8, 9, 10] (_) _ mixed (by kernel_rfl) (by repeat (first | exact zs0 _ | exact zs1 _ | apply zs2 | apply zs3 | apply zs4 | apply zs5)) (List.nil_sublist _) ?_
   refine DJ3_ql (yv_move (show _ = Value.pointer _ from rfl)) rfl rfl rfl rfl ?_
   refine qb3 ?_
   refine DJ3_q (yv_nilCheck rfl) rfl rfl rfl rfl ?_
   refine qan ?_
   refine qau ?_
   refine DJ3_q (yv_loadN (row := [_, _, _]) tb rfl rfl rfl (by repeat (first | exact zi0 | apply zi1 | apply zi2)) (by rfl) (by rfl)) rfl rfl rfl rfl ?_
   refine DJ3_g (gives_buildSlice (qs := [(0, (Value.agg _).cells.toList)]) (out := [_, _, _]) tb rfl rfl rfl rfl rfl rfl rfl) rfl rfl rfl ?_
   rintro v L' R' ⟨b73, rfl, rfl, hR73⟩
   replace hR73 := hR73.symm; subst hR73
   refine qa1 ?_
   refine qba ?_
   refine DJ_g (gives_append1 (f := XDoor.cells) (p := doors) (a := d) tb rfl rfl rfl rfl (hokd) (by repeat (first | apply OSeg.cons | exact OSeg.here | exact OSeg.last | exact OSeg.at (by assumption) | apply OSeg.app)) (shown_own (by repeat (first | exact zi0 | apply zi1 | apply zi2)) rfl rfl) rfl (by first | omega | (simp only [List.length_cons, List.length_nil, List.length_append]; omega))) rfl rfl rfl ?_
   rintro v L' R' ⟨o74, rfl, hok74, rfl, rfl⟩
   refine qa1 ?_
   refine qcb ?_
   refine qal ?_
   refine qbw ?_
   refine qbu ?_
   refine CJ_drawn2 tb [] [0, 1, 2, 3, 4, 5, 6, 7] [8, 9, 10] ([Blk.mk b9 _ _, Blk.mk b5 _ _]) _ mixed (by kernel_rfl) (by repeat (first | exact zs0 _ | exact zs1 _ | apply zs2 | apply zs3 | apply zs4 | apply zs5)) (List.nil_sublist _) ?_
   refine qan ?_
   refine qau ?_
   refine qb3 ?_
   refine qan ?_
   refine qau ?_
   refine DJ3_q (yv_len tb rfl rfl rfl) rfl rfl rfl rfl ?_
   refine DJ3_call rfl (next1 (by repeat (first | apply USeg.here | apply USeg.cons | apply USeg.app)) hx3 hk9 (by have := hd.len; omega)) rfl rfl ?_
   rintro v L' R' ⟨r10, k10, rfl, g10, g10', g10'', hk10, rfl, rfl⟩
   refine qas ?_
   refine qc9 ?_
   rintro v L' R' ⟨b84, rfl, rfl, hR84⟩
   replace hR84 := hR84.symm; subst hR84
   refine qa1 ?_
   refine qba ?_
   refine DJ_g (gives_append1 (f := icell) (p := sd) (a := r10) tb rfl rfl rfl rfl (hokt) (by repeat (first | apply OSeg.cons | exact OSeg.here | exact OSeg.last | exact OSeg.at (by assumption) | apply OSeg.app)) (shown_own (by repeat (first | exact zi0 | apply zi1 | apply zi2)) rfl rfl) rfl (by first | omega | (simp only [List.length_cons, List.length_nil, List.length_append]; omega))) rfl rfl rfl ?_
   rintro v L' R' ⟨o85, rfl, hok85, rfl, rfl⟩
   refine qa1 ?_
   refine qal ?_
   refine qbw ?_
   refine qby ?_
   refine qaa ?_
   refine qa9 ?_
   refine qad ?_
   refine qav ?_
   have hq8 := g8' (by omega)
   have hq10 := g10' (by have := hd.len; omega)
   have hdr := hd.road
   exact q_k ⟨(k10, m2 - 1, _, _, d.sl :: S2), hk10, ⟨m2' - 1, by dsimp only; omega, hD2.next (by omega) ⟨⟨by omega, by omega⟩, by rw [hdr]; exact hd⟩ ⟨g10, by omega⟩⟩, ⟨hok74, hok85⟩, (fun f hf => by rcases List.mem_append.1 hf with h | h; exact (hin2 f h).mono (fun r hr => inR_self (by simp [hr])); rw [List.mem_singleton.1 h]; exact inR_self (by simp))⟩
  refine qbk ?_
  refine qbe ?_
  refine qak ?_
  refine qa0 ?_
  refine retK_ret (L' := cblk c x kk2 :: ⟨ab, [pv, .slice ra n rc, fans.val, doors.val], 30⟩ :: (fans.L 176 XFan.cells ++ (doors.L 180 XDoor.cells ++ (sf.L 3 icell ++ (sd.L 3 icell ++ []))))) (R' := (S2 ++ S) ++ R) (res1 rfl (rv_cell (row := [_, _]) tb rfl rfl rfl (by repeat (first | exact zi0 | apply zi1 | apply zi2)) (by rfl) (by rfl))) ?hp ?hL ?hR
  case hp => exact ⟨fans, doors, sf, sd, kk2, S2 ++ S, rfl, ⟨hokf, hokd, hoks, hokt⟩, hD.zero, hD2.zero, fun f hf => (hin f hf).mono (fun r hr => inR_self (by simp [hr])), fun d hd => (hin2 d hd).mono (fun r hr => inR_self (by simp [hr])), hkk2, rfl, rfl⟩
  case hL => exact (by repeat (first | exact zs0 _ | exact zs1 _ | apply zs2 | apply zs3 | apply zs4 | apply zs5))
  case hR => exact fun r hr => inR_self (by rw [List.append_assoc] at hr; exact hr)

structure DoubtTo (l : List Int) (n : Nat) (m : List Int) : Prop where
  len : m.length = n
  val : ∀ (i : Nat) (v : Int), m[i]? = some v → v = -1 ∨ l[i]? = some v
abbrev Doubt (l m : List Int) : Prop := DoubtTo l l.length m
theorem DoubtTo.next {l m : List Int} {n : Nat} (h : DoubtTo l n m) {v : Int} (hv : v = -1 ∨ l[n]? = some v) : DoubtTo l (n + 1) (m ++ [v]) := by
  have hl := h.len
  refine ⟨by simp [hl], fun i w hw => ?_⟩
  rw [List.getElem?_append] at hw
  split at hw
  · exact h.val i w hw
  · rw [List.getElem?_singleton] at hw
    split at hw
    · cases hw
      have : i = n := by omega
      rw [this]; exact hv
    · cases hw

theorem doubts_tri (c : Nat) (x : Arr Int) (k : Nat) (a : XAir) (s : XSetting) (R : List Sl) (hx : CodesR x R) (hk : k ≤ x.l.length) (hs : SetR s R) (h1 : s.fans.l.length ≤ 100) (h2 : s.doors.l.length ≤ 100) :
    Tri Try.prog 88 [.pointer (some ⟨c, 0, none⟩), a.val, s.val].toArray [cblk c x k] R
      (fun v L' R' => ∃ (tf td : OwL Int) (k' : Nat), v = .agg #[tf.val, td.val] ∧ (tf.ok 1 icell ∧ td.ok 1 icell) ∧ Doubt s.fans.l tf.l ∧ Doubt s.doors.l td.l ∧ k' ≤ x.l.length ∧ cblk c x k' :: (tf.L 3 icell ++ (td.L 3 icell ++ [])) = L' ∧ R = R') := by
  have hsf := hs.fans
  have hsd := hs.doors
  refine tri_enter 53 Try.call88 Try.func88 rfl rfl rfl ?_
  refine qae ?_
  refine qax ?_
  intro b4
  refine qax ?_
  intro b5
  refine qaq ?_
  intro b6
  refine qam ?_
  refine qaq ?_
  intro b7
  refine qaw ?_
  refine qad ?_
  refine qa2 ?_
  refine CJ_forget [(0, Value.pointer _), (5, Value.pointer _), (6, Value.pointer _), (7, Value.pointer _), (8, Value.int _ _)] (by repeat' (first | exact trivial | refine And.intro rfl ?_)) fun tq0 => ?_
  refine CJ_loop [8, 9, 12, 13, 14, 15, 16, 17, 18, 19, 20, 21, 22, 23, 24, 25, 26, 27, 28, 29, 30, 31] ((⟨fun g => [(8, .int .i64 ((g.1.2.1 : Nat) : Int))], fun g => ⟨b7, [g.1.2.2.val, .slice none 0 0], 40⟩ :: ⟨b6, [.slice none 0 0, .slice none 0 0], 40⟩ :: ⟨b5, s.cells, 40⟩ :: ⟨b4, a.cells, 30⟩ :: cblk c x g.1.1 :: (g.1.2.2.L 3 icell ++ []), fun _ => R, fun g => s.fans.l.length - g.1.2.1⟩ : Head {g : Nat × Nat × OwL Int // g.1 ≤ x.l.length ∧ g.2.1 ≤ s.fans.l.length ∧ g.2.2.ok 1 icell ∧ DoubtTo s.fans.l g.2.1 g.2.2.l})) (⟨(k, 0, OwL.nil), hk, Nat.zero_le _, OwL.nil_ok, ⟨rfl, (fun _ _ h => by cases h)⟩⟩) (by repeat' (first | exact trivial | refine And.intro rfl ?_)) (by dsimp only; rw [nil_L]; exact List.Sublist.refl _) (allR_self _) ?_
  rintro ⟨⟨kk, i, tf⟩, hkk, hi, hok, hD⟩ junk
  try dsimp only
  dsimp only at hkk hi hok hD
  refine qbi ?_
  refine qaa ?_
  refine qab ?_
  refine qac ?_
  refine qag ?_
  refine qaj ?_
  refine qaf ?_
  refine q_c (fun hc0 => ?_) (fun hc0 => ?_)
  ·
   have hsi := get_D (l := s.fans.l) (k := i) 0 (by omega)
   have hll := hD.len
   refine qbb ?_
   refine qab ?_
   refine qac ?_
   refine qaa ?_
   refine qa3 ?_
   refine qa7 ?_
   refine qad ?_
   refine qaw ?_
   refine qa6 ?_
   refine LJ_call rfl (one1 (by repeat (first | apply USeg.here | apply USeg.cons | apply USeg.app)) hx hkk (by omega)) rfl ?_
   rintro v L' R' ⟨r1, k1, rfl, hk1, rfl, rfl⟩
   refine qaf ?_
   refine q_c (fun hc1 => ?_) (fun hc1 => ?_)
   ·
    refine qay ?_
    refine qad ?_
    refine LJ_nil (seqK_normal (CJ_region ?_))
    refine qab ?_
    refine qac ?_
    refine qaa ?_
    refine qcx ?_
    rintro v L' R' ⟨b29, rfl, rfl, hR29⟩
    replace hR29 := hR29.symm; subst hR29
    refine yaiar ?_
    rintro v L' R' ⟨o30, rfl, hok30, rfl, rfl⟩
    refine qab ?_
    refine qcy ?_
    refine qcs ?_
    refine qaa ?_
    refine qar ?_
    refine qad ?_
    refine qav ?_
    first | exact q_k ⟨(k1, i + 1, _), hk1, by dsimp only; omega, hok30, hD.next (.inl rfl)⟩ | exact q_k ⟨(k1, i + 1, _), hk1, by dsimp only; omega, hok30, hD.next (.inr hsi)⟩
   refine CJ_skip (seqK_normal (CJ_region ?_))
   refine qab ?_
   refine qac ?_
   refine qaa ?_
   refine qcx ?_
   rintro v L' R' ⟨b29, rfl, rfl, hR29⟩
   replace hR29 := hR29.symm; subst hR29
   refine yaiar ?_
   rintro v L' R' ⟨o30, rfl, hok30, rfl, rfl⟩
   refine qab ?_
   refine qcy ?_
   refine qcs ?_
   refine qaa ?_
   refine qar ?_
   refine qad ?_
   refine qav ?_
   first | exact q_k ⟨(k1, i + 1, _), hk1, by dsimp only; omega, hok30, hD.next (.inl rfl)⟩ | exact q_k ⟨(k1, i + 1, _), hk1, by dsimp only; omega, hok30, hD.next (.inr hsi)⟩
  obtain rfl : i = s.fans.l.length := by omega
  refine qcf ?_
  refine qad ?_
  refine qa2 ?_
  refine CJ_forget [(0, Value.pointer _), (5, Value.pointer _), (6, Value.pointer _), (7, Value.pointer _), (10, Value.int _ _)] (by repeat' (first | exact trivial | refine And.intro rfl ?_)) fun tq1 => ?_
  refine CJ_loop [10, 11, 32, 33, 34, 35, 36, 37, 38, 39, 40, 41, 42, 43, 44, 45, 46, 47, 48, 49, 50, 51] ((⟨fun g => [(10, .int .i64 ((g.1.2.1 : Nat) : Int))], fun g => ⟨b7, [tf.val, g.1.2.2.val], 40⟩ :: ⟨b6, [.slice none 0 0, .slice none 0 0], 40⟩ :: ⟨b5, s.cells, 40⟩ :: ⟨b4, a.cells, 30⟩ :: cblk c x g.1.1 :: (tf.L 3 icell ++ (g.1.2.2.L 3 icell ++ [])), fun _ => R, fun g => s.doors.l.length - g.1.2.1⟩ : Head {g : Nat × Nat × OwL Int // g.1 ≤ x.l.length ∧ g.2.1 ≤ s.doors.l.length ∧ g.2.2.ok 1 icell ∧ DoubtTo s.doors.l g.2.1 g.2.2.l})) (⟨(kk, 0, OwL.nil), hkk, Nat.zero_le _, OwL.nil_ok, ⟨rfl, (fun _ _ h => by cases h)⟩⟩) (by repeat' (first | exact trivial | refine And.intro rfl ?_)) (by dsimp only; rw [nil_L]; exact List.Sublist.refl _) (allR_self _) ?_
  rintro ⟨⟨kk2, j, td⟩, hkk2, hj, hok2, hD2⟩ junk
  try dsimp only
  dsimp only at hkk2 hj hok2 hD2
  refine qbi ?_
  refine qaa ?_
  refine qab ?_
  refine qac ?_
  refine qag ?_
  refine qaj ?_
  refine qaf ?_
  refine q_c (fun hc2 => ?_) (fun hc2 => ?_)
  ·
   have hsj := get_D (l := s.doors.l) (k := j) 0 (by omega)
   have hll := hD2.len
   refine qbb ?_
   refine qab ?_
   refine qac ?_
   refine qaa ?_
   refine qa3 ?_
   refine qa7 ?_
   refine qad ?_
   refine qaw ?_
   refine qa6 ?_
   refine LJ_call rfl (one1 (by repeat (first | apply USeg.here | apply USeg.cons | apply USeg.app)) hx hkk2 (by omega)) rfl ?_
   rintro v L' R' ⟨r2, k2, rfl, hk2, rfl, rfl⟩
   refine qaf ?_
   refine q_c (fun hc3 => ?_) (fun hc3 => ?_)
   ·
    refine qay ?_
    refine qad ?_
    refine LJ_nil (seqK_normal (CJ_region ?_))
    refine qab ?_
    refine qac ?_
    refine qaa ?_
    refine qcx ?_
    rintro v L' R' ⟨b49, rfl, rfl, hR49⟩
    replace hR49 := hR49.symm; subst hR49
    refine yaias ?_
    rintro v L' R' ⟨o50, rfl, hok50, rfl, rfl⟩
    refine qab ?_
    refine qcy ?_
    refine qcs ?_
    refine qaa ?_
    refine qar ?_
    refine qad ?_
    refine qav ?_
    first | exact q_k ⟨(k2, j + 1, _), hk2, by dsimp only; omega, hok50, hD2.next (.inl rfl)⟩ | exact q_k ⟨(k2, j + 1, _), hk2, by dsimp only; omega, hok50, hD2.next (.inr hsj)⟩
   refine CJ_skip (seqK_normal (CJ_region ?_))
   refine qab ?_
   refine qac ?_
   refine qaa ?_
   refine qcx ?_
   rintro v L' R' ⟨b49, rfl, rfl, hR49⟩
   replace hR49 := hR49.symm; subst hR49
   refine yaias ?_
   rintro v L' R' ⟨o50, rfl, hok50, rfl, rfl⟩
   refine qab ?_
   refine qcy ?_
   refine qcs ?_
   refine qaa ?_
   refine qar ?_
   refine qad ?_
   refine qav ?_
   first | exact q_k ⟨(k2, j + 1, _), hk2, by dsimp only; omega, hok50, hD2.next (.inl rfl)⟩ | exact q_k ⟨(k2, j + 1, _), hk2, by dsimp only; omega, hok50, hD2.next (.inr hsj)⟩
  obtain rfl : j = s.doors.l.length := by omega
  refine qbk ?_
  refine qbe ?_
  refine qak ?_
  refine qa0 ?_
  refine q_r (L' := cblk c x kk2 :: (tf.L 3 icell ++ (td.L 3 icell ++ []))) (R' := R) (res1 rfl (rv_cell (row := [_, _]) tb rfl rfl rfl (by repeat (first | exact zi0 | apply zi1 | apply zi2)) (by rfl) (by rfl))) ?_
  exact ⟨tf, td, kk2, rfl, ⟨hok, hok2⟩, hD, hD2, hkk2, rfl, rfl⟩

end Go.Proofs.Ytkpfjmibipblhaa

end
section
namespace Go.Proofs.Ytkpfjmibipblhaa
open Go.Aw Go

def SubS (x y : XSpan) : Prop := y.low ≤ x.low ∧ x.high ≤ y.high
theorem SubS.refl (x : XSpan) : SubS x x := ⟨Int.le_refl _, Int.le_refl _⟩
theorem sq_nonneg (q : Int) : 0 ≤ q * q := by
  rcases Int.le_total 0 q with h | h
  · exact Int.mul_nonneg h h
  · have := Int.mul_nonneg (show 0 ≤ -q by omega) (show 0 ≤ -q by omega)
    rwa [Int.neg_mul_neg] at this
theorem mul_sq_mono {a b q : Int} (h : a ≤ b) : a * q * q ≤ b * q * q := by
  rw [Int.mul_assoc, Int.mul_assoc]
  exact Int.mul_le_mul_of_nonneg_right h (sq_nonneg q)

theorem baseS_sub {r r' l l' : XSpan} (h : SubS r r') (k : SubS l l') (q : Int) : SubS (baseS r l q) (baseS r' l' q) := by
  have h1 := mul_sq_mono (q := q) h.1
  have h2 := mul_sq_mono (q := q) h.2
  have h3 := k.1
  have h4 := k.2
  unfold baseS SubS
  split <;> dsimp only <;> omega

theorem minTo_le {l : List Int} : ∀ {k i : Nat}, i < k → minTo l k ≤ l.getD i 0 ∧ l.getD i 0 ≤ maxTo l k
  | 0, i, h => absurd h (by omega)
  | k + 1, i, h => by
    simp only [minTo, maxTo]
    rcases Nat.lt_or_eq_of_le (Nat.le_of_lt_succ h) with h' | h'
    · have := minTo_le (l := l) h'; omega
    · subst h'; omega

def DoorLess (d : XDoor) (s t : Int) : Prop := t = s ∨ (t = -1 ∧ -1 ≤ s ∧ s < d.rests.l.length)
def FanLess (s t : Int) : Prop := t = s ∨ (t = -1 ∧ -1 ≤ s ∧ s ≤ 2)

theorem restS_less {d : XDoor} {s t : Int} (h : DoorLess d s t) : SubS (restS d s) (restS d t) := by
  rcases h with h | ⟨h1, h2, h3⟩
  · rw [h]; exact .refl _
  · rw [h1]
    by_cases hs : s = -1
    · rw [hs]; exact .refl _
    · have := minTo_le (l := d.rests.l) (k := d.rests.l.length) (i := s.toNat) (by omega)
      unfold restS
      rw [if_neg (by omega), if_neg hs, if_neg (by omega), if_pos rfl]
      exact this

theorem stateS_less {f : XFan} {s t : Int} (h : FanLess s t) (q : Int) : SubS (stateS f s q) (stateS f t q) := by
  rcases h with h | ⟨h1, h2, h3⟩
  · rw [h]; exact .refl _
  · rw [h1]
    have key : ∀ b : Bool, SubS (alongS f.curve.l b q) (stateS f (-1) q) := fun b => by
      unfold stateS SubS
      rw [if_neg (by decide), if_neg (by decide), if_pos rfl]
      cases b <;> dsimp only <;> omega
    rw [stateS]
    split
    · exact key _
    · split
      · exact key _
      · split
        · rename_i h
          unfold stateS
          rw [if_neg (by decide), if_neg (by decide), if_pos rfl]
          exact .refl _
        · unfold stateS SubS
          rw [if_neg (by decide), if_neg (by decide), if_pos rfl]
          dsimp only; omega

structure SetLess (a : XAir) (s t : XSetting) : Prop where
  fan : ∀ k, k < a.fans.l.length → FanLess (s.fans.l.getD k 0) (t.fans.l.getD k 0)
  door : ∀ k, k < a.doors.l.length → DoorLess (a.doors.l.getD k default) (s.doors.l.getD k 0) (t.doors.l.getD k 0)

theorem restTo_less {a : XAir} {s t : XSetting} (h : SetLess a s t) (r : Int) : ∀ k, k ≤ a.doors.l.length → SubS (restTo a s r k) (restTo a t r k)
  | 0, _ => .refl _
  | k + 1, hk => by
    have ih := restTo_less h r k (by omega)
    have hd := restS_less (h.door k (by omega))
    unfold SubS at *
    simp only [restTo]
    split
    · dsimp only; omega
    · exact ih
theorem innerTo_less {a : XAir} {s t : XSetting} (h : SetLess a s t) (r q : Int) : ∀ k, k ≤ a.fans.l.length → SubS (innerTo a s r q k) (innerTo a t r q k)
  | 0, _ => baseS_sub (restTo_less h r _ (Nat.le_refl _)) (.refl _) q
  | k + 1, hk => by
    have ih := innerTo_less h r q k (by omega)
    have hd := stateS_less (f := a.fans.l.getD k default) (h.fan k (by omega)) q
    unfold SubS at *
    simp only [innerTo]
    split
    · dsimp only; omega
    · exact ih
theorem innerS_less {a : XAir} {s t : XSetting} (h : SetLess a s t) (r q : Int) : SubS (innerS a s r q) (innerS a t r q) := innerTo_less h r q _ (Nat.le_refl _)


def dSum (doors : List XDoor) (sd : List Int) (r : Int) : Nat → Int
  | 0 => 0
  | k + 1 => if (doors.getD k default).road = r then dSum doors sd r k + (restS (doors.getD k default) (sd.getD k 0)).low else dSum doors sd r k
def fSum (fans : List XFan) (sf : List Int) (r q : Int) : Nat → Int
  | 0 => 0
  | k + 1 => if (fans.getD k default).road = r then fSum fans sf r q k + (stateS (fans.getD k default) (sf.getD k 0) q).low else fSum fans sf r q k

theorem restS_made {d : XDoor} {road : Int} (hd : MadeDoor road d) {s : Int} (hs : 0 ≤ s ∧ s < d.rests.l.length) : (restS d s).low = (restS d s).high ∧ 0 ≤ (restS d s).low ∧ (restS d s).low ≤ 900 := by
  have hl := hd.len
  have := hd.rest s.toNat _ (get_D 0 (by omega))
  unfold restS
  rw [if_neg (by omega), if_neg (by omega)]
  dsimp only; omega

theorem curveS_made {l : List XPoint} (h : MadeCurve l) (q : Int) : 0 ≤ (curveS l q).low ∧ (curveS l q).low ≤ (curveS l q).high ∧ (curveS l q).high ≤ 3000 := by
  cases l with
  | nil => simp [curveS]
  | cons p rest =>
    have h0 := h.ok.pt 0 p rfl
    have ht := h.top
    simp only [List.getD_cons_zero] at ht
    unfold curveS
    dsimp only
    split
    · dsimp only; omega
    · have := curveGo_bounds rest p q h.ok (by omega)
      omega
theorem alongS_made {l : List XPoint} (h : MadeCurve l) (back : Bool) (q : Int) : -3000 ≤ (alongS l back q).low ∧ (alongS l back q).low ≤ (alongS l back q).high ∧ (alongS l back q).high ≤ 3000 := by
  have h1 := curveS_made h q
  have h2 := curveS_made h (-q)
  unfold alongS negS
  split <;> first | omega | (dsimp only; omega)
theorem stateS_made {f : XFan} (h : MadeCurve f.curve.l) (s q : Int) : -3000 ≤ (stateS f s q).low ∧ (stateS f s q).low ≤ (stateS f s q).high ∧ (stateS f s q).high ≤ 3000 := by
  have h1 := alongS_made h f.back q
  have h2 := alongS_made h (!f.back) q
  have h3 := alongS_made h false q
  have h4 := alongS_made h true q
  unfold stateS
  split
  · omega
  · split
    · omega
    · split <;> dsimp only <;> omega

theorem dSum_bounds {n : Nat} {m : Int} {doors : List XDoor} {sd : List Int} (h : DoorsD n m doors sd) (r : Int) : ∀ k, k ≤ doors.length → 0 ≤ dSum doors sd r k ∧ dSum doors sd r k ≤ 900 * (k : Int)
  | 0, _ => by simp [dSum]
  | k + 1, hk => by
    have ih := dSum_bounds h r k (by omega)
    have hl := h.len
    have hg := get_D (l := doors) (k := k) default (by omega)
    have hb := restS_made (h.door _ (List.mem_of_getElem? hg)).made (h.st k _ _ hg (get_D 0 (by omega)))
    simp only [dSum]
    split <;> omega
theorem fSum_bounds {n : Nat} {m : Int} {fans : List XFan} {sf : List Int} (h : FansD n m fans sf) (r q : Int) : ∀ k, k ≤ fans.length → -3000 * (k : Int) ≤ fSum fans sf r q k ∧ fSum fans sf r q k ≤ 3000 * (k : Int)
  | 0, _ => by simp [fSum]
  | k + 1, hk => by
    have ih := fSum_bounds h r q k (by omega)
    have hg := get_D (l := fans) (k := k) default (by omega)
    have hb := stateS_made (h.fan _ (List.mem_of_getElem? hg)).curve (sf.getD k 0) q
    simp only [fSum]
    split <;> omega

theorem FanD.ok {n : Nat} {f : XFan} (h : FanD n f) : FanOk f := ⟨h.road.1, h.curve.len.1, by have := h.curve.len; omega, h.curve.ok⟩
theorem DoorD.ok {n : Nat} {d : XDoor} (h : DoorD n d) : DoorOk d := ⟨h.road.1, by have := h.made.len; omega, fun i x hx => by have := h.made.rest i x hx; omega, h.made.falls⟩

def liftOf (r : XRoad) (e dS fS d q : Int) : Int := (r.rest.low + e + dS) * max q (-q) * q - d - fS
def Fitted (dS fS d q : Int) (r r' : XRoad) : Prop :=
  ∃ e u v : Int, (0 ≤ e ∧ e ≤ r.rest.high - r.rest.low) ∧ (0 ≤ u ∧ u ≤ 29) ∧ (0 ≤ v ∧ v ≤ 29) ∧ r' = { r with lift := ⟨liftOf r e dS fS d q - u, liftOf r e dS fS d q + v⟩ }

theorem lift_bounds {R q : Int} (hR : 0 ≤ R ∧ R ≤ 2000) (hq : -360 ≤ q ∧ q ≤ 360) : (0 ≤ R * max q (-q) ∧ R * max q (-q) ≤ 720000) ∧ -259200000 ≤ R * max q (-q) * q ∧ R * max q (-q) * q ≤ 259200000 := by
  have hm : 0 ≤ max q (-q) ∧ max q (-q) ≤ 360 := by omega
  generalize max q (-q) = m at *
  have h1 := Int.mul_nonneg hR.1 hm.1
  have h2 := Int.mul_le_mul hR.2 hm.2 hm.1 (by omega)
  generalize R * m = z at *
  refine ⟨by omega, ?_⟩
  rcases Int.le_total 0 q with h | h
  · have h3 := Int.mul_nonneg h1 h
    have h4 := Int.mul_le_mul (show z ≤ 720000 by omega) hq.2 h (by omega)
    omega
  · have h3 := Int.mul_nonneg h1 (show 0 ≤ -q by omega)
    have h4 := Int.mul_le_mul (show z ≤ 720000 by omega) (show -q ≤ 360 by omega) (by omega) (by omega)
    rw [Int.mul_neg] at h3 h4
    omega

theorem liftOf_base {R q : Int} : R * max q (-q) * q = if q < 0 then -(R * q * q) else R * q * q := by
  split
  · rw [show max q (-q) = -q by omega, Int.mul_neg, Int.neg_mul]
  · rw [show max q (-q) = q by omega]

theorem fitted_inner {a : XAir} {s : XSetting} {n : Nat} {m m' : Int} (hF : FansD n m a.fans.l s.fans.l) (hD : DoorsD n m' a.doors.l s.doors.l) {i : Nat} {r0 : XRoad} {d q : Int} (hr0 : r0.rest.low ≤ r0.rest.high)
    (hfit : Fitted (dSum a.doors.l s.doors.l i a.doors.l.length) (fSum a.fans.l s.fans.l i q a.fans.l.length) d q r0 (a.mine.roads.l.getD i default)) :
    (innerS a s i q).low ≤ d ∧ d ≤ (innerS a s i q).high := by
  obtain ⟨e, u, v, he, hu, hv, hr⟩ := hfit
  have hrest : (a.mine.roads.l.getD i default).rest = r0.rest := by rw [hr]
  have hlift : (a.mine.roads.l.getD i default).lift = ⟨liftOf r0 e (dSum a.doors.l s.doors.l i a.doors.l.length) (fSum a.fans.l s.fans.l i q a.fans.l.length) d q - u, liftOf r0 e (dSum a.doors.l s.doors.l i a.doors.l.length) (fSum a.fans.l s.fans.l i q a.fans.l.length) d q + v⟩ := by rw [hr]
  have hdo : ∀ k, k ≤ a.doors.l.length → restTo a s i k = ⟨r0.rest.low + dSum a.doors.l s.doors.l i k, r0.rest.high + dSum a.doors.l s.doors.l i k⟩ := by
    intro k
    induction k with
    | zero => intro _; simp only [restTo, dSum, Int.toNat_natCast, hrest, Int.add_zero]
    | succ k ih =>
      intro hk
      have hg := get_D (l := a.doors.l) (k := k) default (by omega)
      have hl := hD.len
      have hb := restS_made (hD.door _ (List.mem_of_getElem? hg)).made (hD.st k _ _ hg (get_D 0 (by omega)))
      simp only [restTo, dSum, ih (by omega)]
      split
      · rw [← hb.1]; simp only [Int.add_assoc]
      · rfl
  have hfa : ∀ k, k ≤ a.fans.l.length → (innerTo a s i q k).low + fSum a.fans.l s.fans.l i q k ≤ (innerTo a s i q 0).low ∧ (innerTo a s i q k).high + fSum a.fans.l s.fans.l i q k = (innerTo a s i q 0).high := by
    intro k
    induction k with
    | zero => intro _; simp only [fSum]; omega
    | succ k ih =>
      intro hk
      have ih := ih (by omega)
      have hg := get_D (l := a.fans.l) (k := k) default (by omega)
      have hb := stateS_made (hF.fan _ (List.mem_of_getElem? hg)).curve (s.fans.l.getD k 0) q
      rw [innerTo.eq_2, fSum.eq_2]
      split
      · dsimp only; omega
      · exact ih
  have h1 := hfa _ (Nat.le_refl _)
  have h0 : innerTo a s i q 0 = baseS ⟨r0.rest.low + dSum a.doors.l s.doors.l i a.doors.l.length, r0.rest.high + dSum a.doors.l s.doors.l i a.doors.l.length⟩ (a.mine.roads.l.getD i default).lift q := by
    rw [innerTo, hdo _ (Nat.le_refl _), Int.toNat_natCast]
  rw [h0, hlift] at h1
  unfold innerS
  generalize innerTo a s i q a.fans.l.length = I at *
  generalize fSum a.fans.l s.fans.l i q a.fans.l.length = fS at *
  generalize dSum a.doors.l s.doors.l i a.doors.l.length = dS at *
  unfold liftOf at h1
  rw [liftOf_base] at h1
  have k1 := mul_sq_mono (q := q) (show r0.rest.low + dS ≤ r0.rest.low + e + dS by omega)
  have k2 := mul_sq_mono (q := q) (show r0.rest.low + e + dS ≤ r0.rest.high + dS by omega)
  unfold baseS at h1
  dsimp only at h1
  by_cases hq : q < 0
  · rw [if_pos hq, if_pos hq] at h1
    dsimp only at h1
    omega
  · rw [if_neg hq, if_neg hq] at h1
    dsimp only at h1
    omega
end Go.Proofs.Ytkpfjmibipblhaa

end
section
namespace Go.Proofs.Ytkpfjmibipblhaa
open Go.Aw Go
set_option maxRecDepth 20000
attribute [local irreducible] CJ LJ DJ Tri YV Gives seqK blockK loopK retK RV mergeK OwL.L

structure RoadD (np : Nat) (r : XRoad) : Prop where
  fr : 0 ≤ r.fr ∧ r.fr < np
  to : 0 ≤ r.to ∧ r.to < np
  rest : 1 ≤ r.rest.low ∧ r.rest.low ≤ r.rest.high ∧ r.rest.high ≤ 22

abbrev presAt (st : XState) (r : XRoad) : Int := st.pres.l.getD r.fr.toNat 0 - st.pres.l.getD r.to.toNat 0
def FitAt (a : XAir) (s : XSetting) (st : XState) (i : Nat) (r r' : XRoad) : Prop :=
  Fitted (dSum a.doors.l s.doors.l i a.doors.l.length) (fSum a.fans.l s.fans.l i (st.flows.l.getD i 0) a.fans.l.length) (presAt st r) (st.flows.l.getD i 0) r r'

structure FitI (a : XAir) (s : XSetting) (st : XState) (l0 : List XRoad) (i : Nat) (l : List XRoad) : Prop where
  len : l.length = l0.length
  done : ∀ (j : Nat) (r : XRoad), j < i → l0[j]? = some r → ∃ r', l[j]? = some r' ∧ FitAt a s st j r r'
  todo : ∀ j, i ≤ j → l[j]? = l0[j]?

theorem FitI.next {a : XAir} {s : XSetting} {st : XState} {l0 l : List XRoad} {i : Nat} (h : FitI a s st l0 i l) {r r' : XRoad} (hr : l0[i]? = some r) (hf : FitAt a s st i r r') : FitI a s st l0 (i + 1) (l.set i r') := by
  have hi := (List.getElem?_eq_some_iff.1 hr).1
  refine ⟨by simp [h.len], fun j q hj hq => ?_, fun j hj => ?_⟩
  · rcases Nat.lt_or_eq_of_le (Nat.le_of_lt_succ hj) with h' | h'
    · rw [List.getElem?_set_ne (by omega)]
      exact h.done j q h' hq
    · subst h'
      rw [hr] at hq; cases hq
      exact ⟨r', List.getElem?_set_self (by rw [h.len]; exact hi), hf⟩
  · rw [List.getElem?_set_ne (by omega)]
    exact h.todo j (by omega)

theorem fit_tri (c ab : Nat) (x : Arr Int) (k n : Nat) (pv : Value) (a : XAir) (s : XSetting) (st : XState) (roads : OwL XRoad) (R : List Sl) (hx : CodesR x R) (hk : k ≤ x.l.length) (hok : roads.ok 10 XRoad.cells)
    (hfa : InR (fsl a.fans) R) (hdo : InR (dsl a.doors) R) (hs : SetR s R) (hst : StateR st R) (hF : FansD n 0 a.fans.l s.fans.l) (hD : DoorsD n 0 a.doors.l s.doors.l) (hq : roads.l.length = st.flows.l.length) (hlen : roads.l.length ≤ 100)
    (hqb : ∀ (i : Nat) (q : Int), st.flows.l[i]? = some q → -360 ≤ q ∧ q ≤ 360) (hpb : ∀ (i : Nat) (p : Int), st.pres.l[i]? = some p → -4000 ≤ p ∧ p ≤ 4000) (hr : ∀ (i : Nat) (r : XRoad), roads.l[i]? = some r → RoadD st.pres.l.length r) :
    Tri Try.prog 87 [.pointer (some ⟨c, 0, none⟩), .pointer (some ⟨ab, 0, none⟩), s.val, st.val].toArray (cblk c x k :: ⟨ab, [pv, roads.val, a.fans.val, a.doors.val], 30⟩ :: (roads.L 111 XRoad.cells ++ [])) R
      (fun v L' R' => ∃ (rl : List XRoad) (k' : Nat), v = .tuple #[] ∧ FitI a s st roads.l roads.l.length rl ∧ k' ≤ x.l.length ∧ cblk c x k' :: ⟨ab, [pv, roads.val, a.fans.val, a.doors.val], 30⟩ :: ((⟨roads.o, rl⟩ : OwL XRoad).L 111 XRoad.cells ++ []) = L' ∧ R = R') := by
  have hsf := hs.fans
  have hsd := hs.doors
  have hsp := hst.pres
  have hsq := hst.flows
  have hFm := hF.m
  have hFl := hF.len
  have hDm := hD.m
  have hDl := hD.len
  refine tri_enter 166 Try.call87 Try.func87 rfl rfl rfl ?_
  refine qae ?_
  refine qax ?_
  intro b6
  refine qax ?_
  intro b7
  refine qam ?_
  refine qad ?_
  refine qa2 ?_
  refine CJ_forget [(0, Value.pointer _), (1, Value.pointer _), (6, Value.pointer _), (7, Value.pointer _), (8, Value.int _ _)] (by repeat' (first | exact trivial | refine And.intro rfl ?_)) fun tq0 => ?_
  refine q_p [8, 9, 10, 11, 12, 13, 14, 15, 16, 17, 18, 19, 20, 21, 22, 23, 24, 25, 26, 27, 28, 29, 30, 31, 32, 33, 34, 35, 36, 37, 38, 39, 40, 41, 42, 43, 44, 45, 46, 47, 48, 49, 50, 51, 52, 53, 54, 55, 56, 57, 58, 59, 60, 61, 62, 63, 64, 65, 66, 67, 68, 69, 70, 71, 72, 73, 74, 75, 76, 77, 78, 79, 80, 81, 82, 83, 84, 85, 86, 87, 88, 89, 90, 91, 92, 93, 94, 95, 96, 97, 98, 99, 100, 101, 102, 103, 104, 105, 106, 107, 108, 109, 110, 111, 112, 113, 114, 115, 116, 117, 118, 119, 120, 121, 122, 123, 124, 125, 126, 127, 128, 129, 130, 131, 132, 133, 134, 135, 136, 137, 138, 139, 140, 141, 142, 143, 144, 145, 146, 147, 148, 149, 150, 151, 152, 153, 154, 155, 156, 157, 158, 159, 160, 161, 162, 163, 164, 165] ((⟨fun g => [(8, .int .i64 ((g.1.2.1 : Nat) : Int))], fun g => ⟨b7, st.cells, 42⟩ :: ⟨b6, s.cells, 40⟩ :: cblk c x g.1.1 :: ⟨ab, [pv, (⟨roads.o, g.1.2.2⟩ : OwL XRoad).val, a.fans.val, a.doors.val], 30⟩ :: ((⟨roads.o, g.1.2.2⟩ : OwL XRoad).L 111 XRoad.cells ++ []), fun _ => R, fun g => roads.l.length - g.1.2.1⟩ : Head {g : Nat × Nat × List XRoad // g.1 ≤ x.l.length ∧ g.2.1 ≤ roads.l.length ∧ (⟨roads.o, g.2.2⟩ : OwL XRoad).ok 10 XRoad.cells ∧ FitI a s st roads.l g.2.1 g.2.2})) (⟨(k, 0, roads.l), hk, Nat.zero_le _, hok, ⟨rfl, (fun _ _ h => absurd h (Nat.not_lt_zero _)), (fun _ _ => rfl)⟩⟩) ?_
  rintro ⟨⟨kk, i, rl⟩, hkk, hi, hokr, hI⟩ junk
  try dsimp only
  dsimp only at hkk hi hokr hI
  have hrl := hI.len
  refine qbi ?_
  refine qaa ?_
  refine qa6 ?_
  refine LJ_q (yv_nilCheck rfl) rfl ?_
  refine qab ?_
  refine qab ?_
  refine qac ?_
  refine qag ?_
  refine qaj ?_
  refine qaf ?_
  refine q_c (fun hc0 => ?_) (fun hc0 => ?_)
  ·
   have hr0 := get_D (l := roads.l) (k := i) default (by omega)
   obtain ⟨r, hre⟩ : ∃ r, r = roads.l.getD i default := ⟨_, rfl⟩
   rw [← hre] at hr0
   have hri : rl[i]? = some r := by rw [hI.todo i (Nat.le_refl _)]; exact hr0
   have hrd := hr i r hr0
   have hrr := hrd.rest
   have hrf := hrd.fr
   have hrt := hrd.to
   obtain ⟨q, hqe⟩ : ∃ q, q = st.flows.l.getD i 0 := ⟨_, rfl⟩
   have hqi := get_D (l := st.flows.l) (k := i) 0 (by omega)
   rw [← hqe] at hqi
   have hqq := hqb _ _ hqi
   have hpf := get_D (l := st.pres.l) (k := r.fr.toNat) 0 (by omega)
   have hpt := get_D (l := st.pres.l) (k := r.to.toNat) 0 (by omega)
   have hpfb := hpb _ _ hpf
   have hptb := hpb _ _ hpt
   have hpa : -8000 ≤ presAt st r ∧ presAt st r ≤ 8000 := by dsimp only [presAt]; omega
   refine qbb ?_
   refine qa6 ?_
   refine LJ_q (yv_nilCheck rfl) rfl ?_
   refine qab ?_
   refine qab ?_
   refine qac ?_
   refine qaa ?_
   refine LJ_q (yv_index_ow tb ((⟨roads.o, rl⟩ : OwL XRoad)) _ rfl rfl rfl rfl (by assumption) (i := i) (by first | rfl | omega | (simp; omega)) (by first | omega | (dsimp only; omega) | (dsimp only; rw [List.length_set]; omega) | (dsimp only; simp only [List.length_set]; omega))) rfl ?_
   refine qc1 ?_
   refine qam ?_
   refine qab ?_
   refine qac ?_
   refine qaa ?_
   refine qa3 ?_
   refine qa7 ?_
   refine qad ?_
   refine qa4 ?_
   refine CJ_drawn tb [0, 1, 2, 3, 4, 5, 6, 7, 8, 9, 10, 11, 12, 13, 14, 15, 16, 17, 18, 19, 20] ([Blk.mk ab _ _] ++ ((⟨roads.o, rl⟩ : OwL XRoad).L 111 XRoad.cells ++ [])) mixed (by kernel_rfl) (by repeat (first | exact zs0 _ | exact zs1 _ | apply zs2 | apply zs3 | apply zs4 | apply zs5)) ?_
   refine qb8 ?_
   refine qcb ?_
   refine qce ?_
   refine qce ?_
   refine qdf ?_
   refine qb8 ?_
   refine qb8 ?_
   refine qcb ?_
   refine qce ?_
   refine qce ?_
   refine qdf ?_
   refine qb8 ?_
   refine qcb ?_
   refine qce ?_
   refine qce ?_
   refine qdf ?_
   refine qb7 ?_
   refine qc2 ?_
   refine DJ_call rfl (next1 (by repeat (first | apply USeg.here | apply USeg.cons | apply USeg.app)) hx hkk (by omega)) rfl rfl ?_
   rintro v L' R' ⟨e, k1, rfl, g1, g1', g1'', hk1, rfl, rfl⟩
   refine qas ?_
   refine qc2 ?_
   refine qcg ?_
   refine DJ_nil (seqK_normal (CJ_seq (CJ_seq ?_)))
   have g1q := g1' (by omega)
   refine qay ?_
   refine qad ?_
   refine qa2 ?_
   refine CJ_forgetW [8, 9, 10, 11, 12, 13, 14, 15, 16, 17, 18, 19, 20, 21, 22, 23, 24, 25, 26, 27, 28, 29, 30, 31, 32, 33, 34, 35, 36, 37, 38, 39, 40, 41, 42, 43, 44, 45, 46, 47, 48, 49, 50, 51, 52, 53, 54, 55, 56, 57, 58, 59, 60, 61, 62, 63, 64, 65, 66, 67, 68, 69, 70, 71, 72, 73, 74, 75, 76, 77, 78, 79, 80, 81, 82, 83, 84, 85, 86, 87, 88, 89, 90, 91, 92, 93, 94, 95, 96, 97, 98, 99, 100, 101, 102, 103, 104, 105, 106, 107, 108, 109, 110, 111, 112, 113, 114, 115, 116, 117, 118, 119, 120, 121, 122, 123, 124, 125, 126, 127, 128, 129, 130, 131, 132, 133, 134, 135, 136, 137, 138, 139, 140, 141, 142, 143, 144, 145, 146, 147, 148, 149, 150, 151, 152, 153, 154, 155, 156, 157, 158, 159, 160, 161, 162, 163, 164, 165] (by repeat (first | apply Off.upd rfl | apply Off.havoc rfl | refine Off.updL (t' := havoc _ _ _) rfl ?_ | exact Off.refl)) [(8, Value.int _ _), (9, Value.pointer _), (10, Value.int _ _), (11, Value.int _ _), (12, Value.int _ _)] (by repeat' (first | exact trivial | refine And.intro rfl ?_)) fun tq1 => ?_
   refine q_s [11, 12, 57, 58, 59, 60, 61, 62, 63, 64, 65, 66, 67, 68, 69, 70, 71, 72, 73, 74, 75, 76, 77, 78, 79, 80, 81, 82, 83, 84, 85, 86, 87, 88, 89, 90, 91] (fun g : {g : Nat × Int // g.1 ≤ a.doors.l.length ∧ g.2 = r.rest.low + e + dSum a.doors.l s.doors.l i g.1} => [(12, .int .i64 ((g.1.1 : Nat) : Int)), (11, .int .i64 g.1.2)]) (fun g => a.doors.l.length - g.1.1) (⟨(0, r.rest.low + e), Nat.zero_le _, (Int.add_zero _).symm⟩) ?_
   rintro ⟨⟨kd, rs⟩, hkd, hrs⟩ junk
   try dsimp only
   dsimp only at hkd hrs
   refine qbi ?_
   refine qaa ?_
   refine qa6 ?_
   refine LJ_q (yv_nilCheck rfl) rfl ?_
   refine qab ?_
   refine qac ?_
   refine qag ?_
   refine qaj ?_
   refine qaf ?_
   refine q_c (fun hc1 => ?_) (fun hc1 => ?_)
   ·
    have hdk := get_D (l := a.doors.l) (k := kd) default (by omega)
    have hsk := get_D (l := s.doors.l) (k := kd) 0 (by omega)
    have hdb := dSum_bounds hD i kd (by omega)
    have hrb := restS_made (hD.door _ (List.mem_of_getElem? hdk)).made (hD.st kd _ _ hdk hsk)
    refine qbb ?_
    refine qa6 ?_
    refine LJ_q (yv_nilCheck rfl) rfl ?_
    refine qab ?_
    refine qac ?_
    refine qaa ?_
    refine qa3 ?_
    refine qb0 ?_
    refine qa7 ?_
    refine qaa ?_
    refine qbn ?_
    refine qaf ?_
    refine q_c (fun hc2 => ?_) (fun hc2 => ?_)
    ·
     refine CJ_drawn tb [0, 1, 2, 3, 4, 5, 6, 7, 8, 9, 10, 11, 12, 13, 14, 15, 16] _ mixed (by kernel_rfl) (List.Sublist.refl _) ?_
     refine qao ?_
     refine qb8 ?_
     refine qcb ?_
     refine qal ?_
     refine qat ?_
     refine qao ?_
     refine qb5 ?_
     refine qdv ?_
     refine qal ?_
     refine qat ?_
     refine qao ?_
     refine qb5 ?_
     refine qbl ?_
     refine q_d rfl (ref08Rest_tri (a.doors.l.getD kd default) (s.doors.l.getD kd 0) _ _ (hdo.door hdk)) ?_
     refine DJ_q (yv_fieldv (e := 3) tb rfl (by kernel_rfl) rfl rfl rfl rfl rfl) rfl rfl rfl ?_
     refine qc2 ?_
     refine qcg ?_
     refine qby ?_
     refine qaa ?_
     refine qar ?_
     refine qad ?_
     refine qav ?_
     first | exact q_k ⟨(kd + 1, rs + (restS (a.doors.l.getD kd default) (s.doors.l.getD kd 0)).low), by dsimp only; omega, by dsimp only; rw [dSum, if_pos hc2, hrs, Int.add_assoc]⟩ | exact q_k ⟨(kd + 1, rs), by dsimp only; omega, by dsimp only; rw [dSum, if_neg hc2, hrs]⟩
    refine qbj ?_
    refine qaa ?_
    refine qar ?_
    refine qad ?_
    refine qav ?_
    first | exact q_k ⟨(kd + 1, rs + (restS (a.doors.l.getD kd default) (s.doors.l.getD kd 0)).low), by dsimp only; omega, by dsimp only; rw [dSum, if_pos hc2, hrs, Int.add_assoc]⟩ | exact q_k ⟨(kd + 1, rs), by dsimp only; omega, by dsimp only; rw [dSum, if_neg hc2, hrs]⟩
   obtain rfl : kd = a.doors.l.length := by omega
   have hdb := dSum_bounds hD i a.doors.l.length (Nat.le_refl _)
   have hlb := lift_bounds (R := rs) (q := q) (by omega) hqq
   refine qc3 ?_
   refine CJ_drawn tb [0, 1, 2, 3, 4, 5, 6, 7, 8, 9, 10, 11, 12, 13, 14, 15, 16, 17, 18, 19, 20, 21, 22, 23, 24, 25, 26] _ mixed (by kernel_rfl) (List.Sublist.refl _) ?_
   iterate 3 refine qao ?_
   refine DJ_q (yv_neg64 rfl (by omega) (by omega)) rfl rfl rfl ?_
   refine DJ_q (yv_max2 rfl rfl) rfl rfl rfl ?_
   refine qdh ?_
   refine qao ?_
   refine qdh ?_
   refine qal ?_
   refine qat ?_
   refine qb8 ?_
   refine qcb ?_
   refine qce ?_
   refine qdf ?_
   refine DJ_q (by first | exact yv_index_ro tb rfl rfl rfl rfl (by first | assumption | exact zr (by simp)) (i := r.fr.toNat) (by first | rfl | omega | (simp; omega)) (by omega) | exact yv_index tb rfl rfl rfl rfl (i := r.fr.toNat) (by first | rfl | omega | (simp; omega)) (by omega)) rfl rfl rfl ?_
   refine qbl ?_
   refine qal ?_
   refine qat ?_
   refine qb8 ?_
   refine qcb ?_
   refine qce ?_
   refine qdf ?_
   refine DJ_q (by first | exact yv_index_ro tb rfl rfl rfl rfl (by first | assumption | exact zr (by simp)) (i := r.to.toNat) (by first | rfl | omega | (simp; omega)) (by omega) | exact yv_index tb rfl rfl rfl rfl (i := r.to.toNat) (by first | rfl | omega | (simp; omega)) (by omega)) rfl rfl rfl ?_
   refine qbl ?_
   refine qb7 ?_
   refine qb7 ?_
   refine qcg ?_
   refine qc6 ?_
   refine qad ?_
   refine qa2 ?_
   refine CJ_forgetW [8, 9, 10, 11, 12, 13, 14, 15, 16, 17, 18, 19, 20, 21, 22, 23, 24, 25, 26, 27, 28, 29, 30, 31, 32, 33, 34, 35, 36, 37, 38, 39, 40, 41, 42, 43, 44, 45, 46, 47, 48, 49, 50, 51, 52, 53, 54, 55, 56, 57, 58, 59, 60, 61, 62, 63, 64, 65, 66, 67, 68, 69, 70, 71, 72, 73, 74, 75, 76, 77, 78, 79, 80, 81, 82, 83, 84, 85, 86, 87, 88, 89, 90, 91, 92, 93, 94, 95, 96, 97, 98, 99, 100, 101, 102, 103, 104, 105, 106, 107, 108, 109, 110, 111, 112, 113, 114, 115, 116, 117, 118, 119, 120, 121, 122, 123, 124, 125, 126, 127, 128, 129, 130, 131, 132, 133, 134, 135, 136, 137, 138, 139, 140, 141, 142, 143, 144, 145, 146, 147, 148, 149, 150, 151, 152, 153, 154, 155, 156, 157, 158, 159, 160, 161, 162, 163, 164, 165] (by repeat (first | apply Off.upd rfl | apply Off.havoc rfl | refine Off.updL (t' := havoc _ _ _) rfl ?_ | exact Off.refl)) [(8, Value.int _ _), (9, Value.pointer _), (10, Value.int _ _), (13, Value.int _ _), (14, Value.int _ _)] (by repeat' (first | exact trivial | refine And.intro rfl ?_)) fun tq2 => ?_
   refine q_s [13, 14, 118, 119, 120, 121, 122, 123, 124, 125, 126, 127, 128, 129, 130, 131, 132, 133, 134, 135, 136, 137, 138, 139, 140, 141, 142, 143, 144, 145, 146, 147, 148, 149, 150, 151, 152, 153] (fun g : {g : Nat × Int // g.1 ≤ a.fans.l.length ∧ g.2 = rs * max q (-q) * q - presAt st r - fSum a.fans.l s.fans.l i q g.1} => [(14, .int .i64 ((g.1.1 : Nat) : Int)), (13, .int .i64 g.1.2)]) (fun g => a.fans.l.length - g.1.1) (⟨(0, rs * max q (-q) * q - presAt st r), Nat.zero_le _, (Int.sub_zero _).symm⟩) ?_
   rintro ⟨⟨kf, lf⟩, hkf, hlf⟩ junk
   try dsimp only
   dsimp only at hkf hlf
   refine qbi ?_
   refine qaa ?_
   refine qa6 ?_
   refine LJ_q (yv_nilCheck rfl) rfl ?_
   refine qab ?_
   refine qac ?_
   refine qag ?_
   refine qaj ?_
   refine qaf ?_
   refine q_c (fun hc3 => ?_) (fun hc3 => ?_)
   ·
    have hfk := get_D (l := a.fans.l) (k := kf) default (by omega)
    have hsk := get_D (l := s.fans.l) (k := kf) 0 (by omega)
    have hfb := fSum_bounds hF i q kf (by omega)
    have hfd := hF.fan _ (List.mem_of_getElem? hfk)
    have hsb := stateS_made hfd.curve (s.fans.l.getD kf 0) q
    have hst2 := hF.st _ (List.mem_of_getElem? hsk)
    refine qbb ?_
    refine qa6 ?_
    refine LJ_q (yv_nilCheck rfl) rfl ?_
    refine qab ?_
    refine qac ?_
    refine qaa ?_
    refine qa3 ?_
    refine qb0 ?_
    refine qa7 ?_
    refine qaa ?_
    refine qbn ?_
    refine qaf ?_
    refine q_c (fun hc4 => ?_) (fun hc4 => ?_)
    ·
     refine CJ_drawn tb [0, 1, 2, 3, 4, 5, 6, 7, 8, 9, 10, 11, 12, 13, 14, 15, 16, 17] _ mixed (by kernel_rfl) (List.Sublist.refl _) ?_
     refine qao ?_
     refine qb8 ?_
     refine qcb ?_
     refine qal ?_
     refine qat ?_
     refine qao ?_
     refine qb5 ?_
     refine qdp ?_
     refine qal ?_
     refine qat ?_
     refine qao ?_
     refine qb5 ?_
     refine qbl ?_
     refine qao ?_
     refine q_d rfl (state07_tri (a.fans.l.getD kf default) (s.fans.l.getD kf 0) q _ _ (hfa.fan hfk) hfd.ok (by omega) (by omega)) ?_
     refine DJ_q (yv_fieldv (e := 3) tb rfl (by kernel_rfl) rfl rfl rfl rfl rfl) rfl rfl rfl ?_
     refine qb7 ?_
     refine qcg ?_
     refine qby ?_
     refine qaa ?_
     refine qar ?_
     refine qad ?_
     refine qav ?_
     first | exact q_k ⟨(kf + 1, lf - (stateS (a.fans.l.getD kf default) (s.fans.l.getD kf 0) q).low), by dsimp only; omega, by dsimp only; rw [fSum, if_pos hc4, hlf, Int.sub_sub]⟩ | exact q_k ⟨(kf + 1, lf), by dsimp only; omega, by dsimp only; rw [fSum, if_neg hc4, hlf]⟩
    refine qbj ?_
    refine qaa ?_
    refine qar ?_
    refine qad ?_
    refine qav ?_
    first | exact q_k ⟨(kf + 1, lf - (stateS (a.fans.l.getD kf default) (s.fans.l.getD kf 0) q).low), by dsimp only; omega, by dsimp only; rw [fSum, if_pos hc4, hlf, Int.sub_sub]⟩ | exact q_k ⟨(kf + 1, lf), by dsimp only; omega, by dsimp only; rw [fSum, if_neg hc4, hlf]⟩
   obtain rfl : kf = a.fans.l.length := by omega
   have hfb := fSum_bounds hF i q a.fans.l.length (Nat.le_refl _)
   refine CJ_exit (seqK_exit (loopK_exit (blockK_exit (seqK_normal (CJ_region ?_)))))
   refine qa6 ?_
   refine qaa ?_
   refine qa6 ?_
   refine yaiat ?_
   rintro v L' R' ⟨u, k2, rfl, g2, g2', g2'', hk2, rfl, rfl⟩
   refine qa9 ?_
   refine qaa ?_
   refine qa6 ?_
   refine yaiac ?_
   rintro v L' R' ⟨w, k3, rfl, g3, g3', g3'', hk3, rfl, rfl⟩
   have g2q := g2' (by omega)
   refine qar ?_
   refine qcd ?_
   refine LJ_q (yv_nilCheck rfl) rfl ?_
   refine qb0 ?_
   refine LJ_g0 (gives_storeN_ow tb ((⟨roads.o, rl⟩ : OwL XRoad)) ({ r with lift := ⟨lf - u, lf + w⟩ }) rfl rfl rfl rfl (by repeat (first | apply OSeg.cons | exact OSeg.here | exact OSeg.last | exact OSeg.at (by assumption) | apply OSeg.app)) (by assumption) (fun _ => rfl) (by assumption) (Nat.le_of_ble_eq_true rfl) (by rfl) (by rfl)) ?_
   rintro v L' R' ⟨rfl, rfl⟩
   refine qcs ?_
   refine qaa ?_
   refine qar ?_
   refine qad ?_
   refine qav ?_
   have g3q := g3' (by omega)
   exact loopK_mk ⟨(k3, i + 1, rl.set i { r with lift := ⟨lf - u, lf + w⟩ }), hk3, by dsimp only; omega, OwL.set_ok (p := ⟨roads.o, rl⟩) (fun _ => rfl) hokr, hI.next hr0 ⟨e, u, w, by omega, by omega, by omega, by rw [liftOf, ← hrs, ← hqe, ← hlf]⟩⟩ (by repeat (first | exact Off.refl | apply Off.upd rfl | apply Off.havoc rfl | apply Off.updL rfl | apply Off.left rfl)) (by repeat' (first | exact trivial | refine And.intro rfl ?_)) (by dsimp only; rw [OwL.set_val]; exact (by repeat (first | exact zs0 _ | exact zs1 _ | apply zs2 | apply zs3 | apply zs4 | apply zs5))) (allR_self _) (by dsimp only; omega)
  obtain rfl : i = roads.l.length := by omega
  refine CJ_exit (seqK_exit (loopK_exit (blockK_exit ?_)))
  refine retK_normal (L' := cblk c x kk :: ⟨ab, [pv, roads.val, a.fans.val, a.doors.val], 30⟩ :: ((⟨roads.o, rl⟩ : OwL XRoad).L 111 XRoad.cells ++ [])) (R' := R) (res0 rfl ) ?hp ?hL ?hR
  case hp => exact ⟨rl, kk, rfl, hI, hkk, rfl, rfl⟩
  case hL =>
   have e : roads.val = (⟨roads.o, rl⟩ : OwL XRoad).val := by simp only [OwL.val, hrl]
   rw [e]; exact (by repeat (first | exact zs0 _ | exact zs1 _ | apply zs2 | apply zs3 | apply zs4 | apply zs5))
  case hR => exact allR_self _

theorem fit_lent {A B : List Blk} {c ab : Nat} {x : Arr Int} {k n : Nat} {pv : Value} {roads : OwL XRoad} {fans : OwL XFan} {doors : OwL XDoor} {sf sd pres flows : OwL Int} {R : List Sl} (mine : XMine)
    (hsp : Spl A B (roads.L 111 XRoad.cells ++ (cblk c x k :: ⟨ab, [pv, roads.val, fans.val, doors.val], 30⟩ :: [])))
    (b1 : InB (fans.L 176 XFan.cells) B) (b2 : InB (doors.L 180 XDoor.cells) B) (b3 : InB (sf.L 3 icell) B) (b4 : InB (sd.L 3 icell) B) (b5 : InB (pres.L 3 icell) B) (b6 : InB (flows.L 3 icell) B)
    (o1 : fans.ok 4 XFan.cells) (o2 : doors.ok 3 XDoor.cells) (o3 : sf.ok 1 icell) (o4 : sd.ok 1 icell) (o5 : pres.ok 1 icell) (o6 : flows.ok 1 icell) (r1 : ∀ f ∈ fans.l, InR f.sl R) (r2 : ∀ d ∈ doors.l, InR d.sl R)
    (hx : CodesR x R) (hk : k ≤ x.l.length) (hok : roads.ok 10 XRoad.cells) (hF : FansD n 0 fans.l sf.l) (hD : DoorsD n 0 doors.l sd.l) (hq : roads.l.length = flows.l.length) (hlen : roads.l.length ≤ 100)
    (hqb : ∀ (i : Nat) (q : Int), flows.l[i]? = some q → -360 ≤ q ∧ q ≤ 360) (hpb : ∀ (i : Nat) (p : Int), pres.l[i]? = some p → -4000 ≤ p ∧ p ≤ 4000) (hr : ∀ (i : Nat) (r : XRoad), roads.l[i]? = some r → RoadD pres.l.length r) :
    Tri Try.prog 87 [.pointer (some ⟨c, 0, none⟩), .pointer (some ⟨ab, 0, none⟩), .agg #[sf.val, sd.val], .agg #[pres.val, flows.val]].toArray A R
      (fun v L'' R' => ∃ (rl : List XRoad) (k' : Nat), v = .tuple #[] ∧ FitI ⟨mine, fans.arr, doors.arr⟩ ⟨sf.arr, sd.arr⟩ ⟨pres.arr, flows.arr⟩ roads.l roads.l.length rl ∧ k' ≤ x.l.length ∧
        B ++ (cblk c x k' :: ⟨ab, [pv, roads.val, fans.val, doors.val], 30⟩ :: ((⟨roads.o, rl⟩ : OwL XRoad).L 111 XRoad.cells ++ [])) = L'' ∧ R = R') := by
  have h := fit_tri c ab x k n pv ⟨mine, fans.arr, doors.arr⟩ ⟨sf.arr, sd.arr⟩ ⟨pres.arr, flows.arr⟩ roads ([fsl fans.arr, dsl doors.arr, isl sf.arr, isl sd.arr, isl pres.arr, isl flows.arr] ++ R) (hx.mono fun r h => inR_self (by simp [h])) hk hok
    (inR_self (by simp)) (inR_self (by simp)) ⟨inR_self (by simp), inR_self (by simp)⟩ ⟨inR_self (by simp), inR_self (by simp)⟩ hF hD hq hlen hqb hpb hr
  have h2 := Tri.lend (S := [fsl fans.arr, dsl doors.arr, isl sf.arr, isl sd.arr, isl pres.arr, isl flows.arr]) (Post := fun v L' => ∃ (rl : List XRoad) (k' : Nat), v = .tuple #[] ∧ FitI ⟨mine, fans.arr, doors.arr⟩ ⟨sf.arr, sd.arr⟩ ⟨pres.arr, flows.arr⟩ roads.l roads.l.length rl ∧ k' ≤ x.l.length ∧
        (cblk c x k' :: ⟨ab, [pv, roads.val, fans.val, doors.val], 30⟩ :: ((⟨roads.o, rl⟩ : OwL XRoad).L 111 XRoad.cells ++ [])) = L') hsp (fun w G hh s hs => ?_)
    ((Tri.permL perm2 h).mono fun v L' R' ⟨rl, k', a1, a2, a3, a4, a5⟩ => ⟨⟨rl, k', a1, a2, a3, a4⟩, a5⟩)
  · exact h2.mono fun v L'' R' ⟨L', e, ⟨rl, k', a1, a2, a3, a4⟩, a5⟩ => ⟨rl, k', a1, a2, a3, by rw [← a4] at e; exact e, a5⟩
  · simp only [List.mem_cons, List.not_mem_nil, or_false] at hs
    rcases hs with rfl | rfl | rfl | rfl | rfl | rfl
    · exact lend_rep hh b1 o1 (fun _ => rfl) (by decide) (fun s hs => by obtain ⟨y, hy, rfl⟩ := List.mem_map.1 hs; exact r1 y hy)
    · exact lend_rep hh b2 o2 (fun _ => rfl) (by decide) (fun s hs => by obtain ⟨y, hy, rfl⟩ := List.mem_map.1 hs; exact r2 y hy)
    · exact lend_rep hh b3 o3 (fun _ => rfl) (by decide) (fun s hs => by cases hs)
    · exact lend_rep hh b4 o4 (fun _ => rfl) (by decide) (fun s hs => by cases hs)
    · exact lend_rep hh b5 o5 (fun _ => rfl) (by decide) (fun s hs => by cases hs)
    · exact lend_rep hh b6 o6 (fun _ => rfl) (by decide) (fun s hs => by cases hs)

theorem doubts_lent {A B : List Blk} {c : Nat} {x : Arr Int} {k : Nat} {a : XAir} {sf sd : OwL Int} {R : List Sl} (hsp : Spl A B [cblk c x k]) (b3 : InB (sf.L 3 icell) B) (b4 : InB (sd.L 3 icell) B) (o3 : sf.ok 1 icell) (o4 : sd.ok 1 icell)
    (hx : CodesR x R) (hk : k ≤ x.l.length) (h1 : sf.l.length ≤ 100) (h2 : sd.l.length ≤ 100) :
    Tri Try.prog 88 [.pointer (some ⟨c, 0, none⟩), a.val, .agg #[sf.val, sd.val]].toArray A R
      (fun v L'' R' => ∃ (tf td : OwL Int) (k' : Nat), v = .agg #[tf.val, td.val] ∧ (tf.ok 1 icell ∧ td.ok 1 icell) ∧ Doubt sf.l tf.l ∧ Doubt sd.l td.l ∧ k' ≤ x.l.length ∧ B ++ (cblk c x k' :: (tf.L 3 icell ++ (td.L 3 icell ++ []))) = L'' ∧ R = R') := by
  have h := doubts_tri c x k a ⟨sf.arr, sd.arr⟩ ([isl sf.arr, isl sd.arr] ++ R) (hx.mono fun r h => inR_self (by simp [h])) hk ⟨inR_self (by simp), inR_self (by simp)⟩ h1 h2
  have h2 := Tri.lend (S := [isl sf.arr, isl sd.arr]) (Post := fun v L' => ∃ (tf td : OwL Int) (k' : Nat), v = .agg #[tf.val, td.val] ∧ (tf.ok 1 icell ∧ td.ok 1 icell) ∧ Doubt sf.l tf.l ∧ Doubt sd.l td.l ∧ k' ≤ x.l.length ∧ cblk c x k' :: (tf.L 3 icell ++ (td.L 3 icell ++ [])) = L') hsp (fun w G hh s hs => ?_)
    (h.mono fun v L' R' ⟨tf, td, k', a1, a2, a3, a4, a5, a6, a7⟩ => ⟨⟨tf, td, k', a1, a2, a3, a4, a5, a6⟩, a7⟩)
  · exact h2.mono fun v L'' R' ⟨L', e, ⟨tf, td, k', a1, a2, a3, a4, a5, a6⟩, a7⟩ => ⟨tf, td, k', a1, a2, a3, a4, a5, by rw [← a6] at e; exact e, a7⟩
  · simp only [List.mem_cons, List.not_mem_nil, or_false] at hs
    rcases hs with rfl | rfl
    · exact lend_rep hh b3 o3 (fun _ => rfl) (by decide) (fun s hs => by cases hs)
    · exact lend_rep hh b4 o4 (fun _ => rfl) (by decide) (fun s hs => by cases hs)
end Go.Proofs.Ytkpfjmibipblhaa

end
section
namespace Go.Proofs.Ytkpfjmibipblhaa
open Go.Aw Go


theorem findSome_none {α β : Type} {f : α → Option β} {l : List α} (h : ∀ x ∈ l, f x = none) : l.findSome? f = none := List.findSome?_eq_none_iff.2 h

theorem roadErr_none {n : Nat} {r : XRoad} (h : RoadOk n r) (h1 : 1 ≤ r.len ∧ r.len ≤ 100000) (h2 : 1 ≤ r.area ∧ r.area ≤ 1000) : roadErr n r = none := by
  have a := h.fr
  have b := h.to
  have c := h.ne
  have d := spanB_iff.2 h.rest
  have e := spanB_iff.2 h.lift
  unfold roadErr
  rw [if_neg (by omega), if_neg (by rw [d, e]; simp only [Bool.true_eq_false, or_false]; omega)]
theorem mineErr_zero {m : XMine} (h1 : m.places.l.length ≤ 64) (h2 : m.roads.l.length ≤ 128) (h3 : ∀ p ∈ m.places.l, -10000 ≤ p.height ∧ p.height ≤ 10000) (h4 : ∀ r ∈ m.roads.l, roadErr m.places.l.length r = none) : mineErr m = 0 := by
  rw [mineErr, if_neg (by omega), findSome_none (fun p hp => by have := h3 p hp; unfold placeErr; exact if_neg (by omega)), findSome_none h4]
  rfl
theorem fanErr_zero {f : XFan} (h : FanOk f) : fanErr f = 0 := by
  have a := h.road
  have b := h.len1
  have c := h.len8
  rw [fanErr, if_neg (by omega), if_neg (by omega), findSome_none]
  · rfl
  · intro i hi
    have hi := List.mem_range.1 hi
    obtain ⟨p, hp⟩ := get_some hi
    have hpt := h.ok.pt i p hp
    unfold pointErr
    rw [hp]
    dsimp only
    rw [if_neg (by omega)]
    by_cases h0 : i = 0
    · rw [if_pos h0]
    · rw [if_neg h0]
      obtain ⟨q, hq⟩ := get_some (l := f.curve.l) (k := i - 1) (by omega)
      have hst := h.ok.st (i - 1) q p hq (by rw [show i - 1 + 1 = i by omega]; exact hp)
      rw [hq]
      dsimp only
      rw [if_neg (by omega)]
theorem doorsErr_zero {l : List XDoor} (h1 : l.length ≤ 16) (h2 : ∀ d ∈ l, DoorOk d ∧ d.other = -1) : doorsErr l = 0 := by
  rw [doorsErr, if_neg (by omega), findSome_none]
  · rfl
  · intro i hi
    obtain ⟨d, hd⟩ := get_some (List.mem_range.1 hi)
    obtain ⟨a, b⟩ := h2 d (List.mem_of_getElem? hd)
    have c := a.road
    have e := a.len
    rw [doorErr_at hd, if_neg (by omega), if_neg (by omega), findSome_none (fun x hx => ?_)]
    · dsimp only
      rw [if_neg (by rw [a.falls]; decide), if_neg (fun h => h.1 b)]
    · obtain ⟨j, hj⟩ := List.mem_iff_getElem?.1 hx
      have := a.rest j x hj
      unfold restErr
      exact if_neg (by omega)
theorem airErr_zero {a : XAir} (h1 : mineErr a.mine = 0) (h2 : a.fans.l.length ≤ 8) (h3 : ∀ f ∈ a.fans.l, FanOk f ∧ f.road < a.mine.roads.l.length) (h4 : a.doors.l.length ≤ 16) (h5 : ∀ d ∈ a.doors.l, (DoorOk d ∧ d.other = -1) ∧ d.road < a.mine.roads.l.length) : airErr a = 0 := by
  rw [airErr_rest h1 (by omega) (findSome_none (fun f hf => by
    have := h3 f hf
    unfold fanIn
    rw [if_neg (by rw [fanErr_zero this.1]; decide), if_neg (by omega)])), doorsErr_zero h4 (fun d hd => (h5 d hd).1), if_neg (by decide), findSome_none (fun d hd => by
    have := h5 d hd
    unfold doorIn
    exact if_neg (by omega))]
  rfl
theorem fitB_true {a : XAir} {s : XSetting} (h : FitOk a s) : fitB a s = true := by
  have h1 := h.lf
  have h2 := h.ld
  rw [fitB_len h1 h2, findSome_none (fun x hx => ?_), findSome_none (fun i hi => ?_)]
  · rfl
  · have hi := List.mem_range.1 hi
    obtain ⟨y, hy⟩ := get_some hi
    obtain ⟨d, hd⟩ := get_some (l := a.doors.l) (k := i) (by omega)
    have := h.door i y d hy hd
    rw [doorStBad_at hy hd]
    exact if_neg (by omega)
  · obtain ⟨j, hj⟩ := List.mem_iff_getElem?.1 hx
    have := h.fan j x hj
    unfold fanStBad
    exact if_neg (by omega)

structure PlacesD (sh : Nat) (pl : List XPlace) : Prop where
  shb : 1 ≤ sh ∧ sh ≤ 2
  len : sh ≤ pl.length ∧ pl.length ≤ sh + 4
  val : ∀ (i : Nat) (p : XPlace), pl[i]? = some p → (-10000 ≤ p.height ∧ p.height ≤ 10000) ∧ p.surface = decide (i < sh)
structure PresD (sh np : Nat) (i : Nat) (pr : List Int) : Prop where
  len : pr.length = np
  val : ∀ (j : Nat) (p : Int), pr[j]? = some p → (-4000 ≤ p ∧ p ≤ 4000) ∧ (j < sh ∨ i ≤ j → p = 0)
theorem PresD.next {sh np i : Nat} {pr : List Int} (h : PresD sh np i pr) (hi : sh ≤ i) {p : Int} (hp : -4000 ≤ p ∧ p ≤ 4000) : PresD sh np (i + 1) (pr.set i p) := by
  refine ⟨by simp [h.len], fun j q hq => ?_⟩
  rw [List.getElem?_set] at hq
  split at hq
  · rename_i hij
    split at hq
    · cases hq; exact ⟨hp, fun hj => by omega⟩
    · cases hq
  · have := h.val j q hq
    exact ⟨this.1, fun hj => this.2 (by omega)⟩
structure RoadG (np : Nat) (r : XRoad) : Prop where
  d : RoadD np r
  ne : r.fr ≠ r.to
  len : 1 ≤ r.len ∧ r.len ≤ 400
  area : 4 ≤ r.area ∧ r.area ≤ 30
structure RoadsD (np : Nat) (rl : List XRoad) (fl : List Int) : Prop where
  len : fl.length = rl.length
  road : ∀ (i : Nat) (r : XRoad), rl[i]? = some r → RoadG np r
  flow : ∀ (i : Nat) (q : Int), fl[i]? = some q → -360 ≤ q ∧ q ≤ 360
  closed : ∀ (i : Nat) (r : XRoad) (q : Int), rl[i]? = some r → fl[i]? = some q → r.closed = true → q = 0
theorem RoadsD.nil (np : Nat) : RoadsD np [] [] := ⟨rfl, (fun _ _ h => by cases h), (fun _ _ h => by cases h), (fun _ _ _ h => by cases h)⟩
theorem RoadsD.next {np : Nat} {rl : List XRoad} {fl : List Int} (h : RoadsD np rl fl) {r : XRoad} {q : Int} (hr : RoadG np r) (hq : -360 ≤ q ∧ q ≤ 360) (hc : r.closed = true → q = 0) : RoadsD np (rl ++ [r]) (fl ++ [q]) := by
  have hl := h.len
  have sn : ∀ {α : Type} {l : List α} {x y : α} {i : Nat}, (l ++ [x])[i]? = some y → l[i]? = some y ∨ (i = l.length ∧ y = x) := by
    intro α l x y i hi
    rw [List.getElem?_append] at hi
    split at hi
    · exact .inl hi
    · rw [List.getElem?_singleton] at hi
      split at hi
      · cases hi; exact .inr ⟨by omega, rfl⟩
      · cases hi
  refine ⟨by simp [hl], fun i s hs => ?_, fun i p hp => ?_, fun i s p hs hp hcl => ?_⟩
  · rcases sn hs with hs | ⟨_, rfl⟩
    · exact h.road i s hs
    · exact hr
  · rcases sn hp with hp | ⟨_, rfl⟩
    · exact h.flow i p hp
    · exact hq
  · rcases sn hs with hs | ⟨e, rfl⟩
    · rcases sn hp with hp | ⟨e', _⟩
      · exact h.closed i s p hs hp hcl
      · have := (List.getElem?_eq_some_iff.1 hs).1
        omega
    · rcases sn hp with hp | ⟨_, rfl⟩
      · have := (List.getElem?_eq_some_iff.1 hp).1
        omega
      · exact hc hcl


def netStep (N : List Int) (r : XRoad) (q : Int) : List Int :=
  let l1 := N.set r.fr.toNat (N.getD r.fr.toNat 0 + q)
  l1.set r.to.toNat (l1.getD r.to.toNat 0 - q)
def netL (rl : List XRoad) (fl : List Int) (np : Nat) : Nat → List Int
  | 0 => List.replicate np 0
  | k + 1 => netStep (netL rl fl np k) (rl.getD k default) (fl.getD k 0)
theorem netTo_eq (a : XAir) (x : XState) : ∀ k, netTo a x k = netL a.mine.roads.l x.flows.l x.pres.l.length k
  | 0 => rfl
  | k + 1 => by rw [netTo, netTo_eq a x k]; rfl
theorem netStep_length (N : List Int) (r : XRoad) (q : Int) : (netStep N r q).length = N.length := by simp [netStep]
theorem netL_length (rl : List XRoad) (fl : List Int) (np : Nat) : ∀ k, (netL rl fl np k).length = np
  | 0 => by simp [netL]
  | k + 1 => by rw [netL, netStep_length, netL_length rl fl np k]
theorem netL_append {rl m : List XRoad} {fl m' : List Int} {np : Nat} (hl : fl.length = rl.length) : ∀ k, k ≤ rl.length → netL (rl ++ m) (fl ++ m') np k = netL rl fl np k
  | 0, _ => rfl
  | k + 1, hk => by rw [netL, netL, netL_append hl k (by omega), getD_append_left (by omega), getD_append_left (by omega)]
theorem netL_snoc {rl : List XRoad} {fl : List Int} {np : Nat} (hl : fl.length = rl.length) (r : XRoad) (q : Int) : netL (rl ++ [r]) (fl ++ [q]) np (rl ++ [r]).length = netStep (netL rl fl np rl.length) r q := by
  rw [List.length_append, List.length_singleton, netL, netL_append hl _ (Nat.le_refl _), getD_append_last rfl, getD_append_last hl.symm]
theorem netL_congr {rl rl' : List XRoad} {fl : List Int} {np : Nat} : ∀ k, (∀ i, i < k → (rl'.getD i default).fr = (rl.getD i default).fr ∧ (rl'.getD i default).to = (rl.getD i default).to) → netL rl' fl np k = netL rl fl np k
  | 0, _ => rfl
  | k + 1, h => by
    rw [netL, netL, netL_congr k (fun i hi => h i (by omega))]
    have := h k (by omega)
    unfold netStep
    rw [this.1, this.2]
theorem getD_set {l : List Int} {i j : Nat} {v : Int} (hi : i < l.length) : (l.set i v).getD j 0 = if i = j then v else l.getD j 0 := by
  rw [List.getD_eq_getElem?_getD, List.getD_eq_getElem?_getD, List.getElem?_set]
  by_cases h : i = j
  · subst h; simp [hi]
  · simp [h]
theorem netStep_get {N : List Int} {r : XRoad} {q : Int} {np : Nat} (hN : N.length = np) (hr : RoadG np r) (v : Nat) : (netStep N r q).getD v 0 = N.getD v 0 + (if r.fr = (v : Int) then q else 0) - (if r.to = (v : Int) then q else 0) := by
  have h1 := hr.d.fr
  have h2 := hr.d.to
  have h3 := hr.ne
  have hne : ¬ r.fr.toNat = r.to.toNat := by omega
  unfold netStep
  dsimp only
  rw [getD_set (by rw [List.length_set]; omega), getD_set (by omega), if_neg hne, getD_set (by omega)]
  by_cases c1 : r.to.toNat = v
  · have e : r.to = (v : Int) := by omega
    rw [if_pos c1, if_pos e, if_neg (by omega), c1]; omega
  · rw [if_neg c1, if_neg (show ¬ r.to = (v : Int) by omega)]
    by_cases c2 : r.fr.toNat = v
    · rw [if_pos c2, if_pos (show r.fr = (v : Int) by omega), c2]; omega
    · rw [if_neg c2, if_neg (show ¬ r.fr = (v : Int) by omega)]; omega

structure Drawn (np : Nat) (m : Int) (rl : List XRoad) (fl : List Int) (nl : List Int) : Prop where
  m : 0 ≤ m ∧ (rl.length : Int) + m ≤ 5
  roads : RoadsD np rl fl
  net : nl = netL rl fl np rl.length
  small : ∀ v, -60 * (rl.length : Int) ≤ nl.getD v 0 ∧ nl.getD v 0 ≤ 60 * (rl.length : Int)
theorem Drawn.len {np : Nat} {m : Int} {rl : List XRoad} {fl nl : List Int} (h : Drawn np m rl fl nl) : nl.length = np := by rw [h.net]; exact netL_length _ _ _ _
theorem Drawn.zero {np : Nat} {m : Int} (hm : 0 ≤ m ∧ m ≤ 5) : Drawn np m [] [] (List.replicate np 0) := by
  refine ⟨by simpa using hm, RoadsD.nil np, rfl, fun v => ?_⟩
  have : (List.replicate np (0 : Int)).getD v 0 = 0 := by
    rw [List.getD_eq_getElem?_getD, List.getElem?_replicate]
    split <;> rfl
  rw [this]; simp
theorem Drawn.next {np : Nat} {m : Int} {rl : List XRoad} {fl nl : List Int} (h : Drawn np m rl fl nl) (hm : 0 < m) {r : XRoad} {q : Int} (hr : RoadG np r) (hq : -60 ≤ q ∧ q ≤ 60) (hc : r.closed = true → q = 0) : Drawn np (m - 1) (rl ++ [r]) (fl ++ [q]) (netStep nl r q) := by
  have hmm := h.m
  refine ⟨by simp only [List.length_append, List.length_singleton]; omega, h.roads.next hr (by omega) hc, by rw [netL_snoc h.roads.len, h.net], fun v => ?_⟩
  have hv := h.small v
  rw [netStep_get h.len hr v]
  have := hr.ne
  simp only [List.length_append, List.length_singleton]
  split <;> split <;> omega

structure Shafted (sh np i : Nat) (net0 : List Int) (rl : List XRoad) (fl : List Int) : Prop where
  roads : RoadsD np rl fl
  len : rl.length + sh ≤ 5 + i
  done : ∀ v, sh ≤ v → v < i → (netL rl fl np rl.length).getD v 0 = 0
  shaft : ∀ v : Nat, sh ≤ v → v < i → ∃ (k : Nat) (r : XRoad), rl[k]? = some r ∧ r.closed = false ∧ ((r.fr = (v : Int) ∧ r.to < (sh : Int)) ∨ (r.to = (v : Int) ∧ r.fr < (sh : Int)))
  todo : ∀ v, i ≤ v → (netL rl fl np rl.length).getD v 0 = net0.getD v 0
theorem Drawn.shafted {np : Nat} {m : Int} {rl : List XRoad} {fl nl : List Int} (h : Drawn np m rl fl nl) (sh : Nat) : Shafted sh np sh nl rl fl :=
  ⟨h.roads, by have := h.m; omega, fun v h1 h2 => absurd h2 (by omega), fun v h1 h2 => absurd h2 (by omega), fun v _ => by rw [← h.net]⟩
theorem Shafted.next {sh np i : Nat} {net0 : List Int} {rl : List XRoad} {fl : List Int} (h : Shafted sh np i net0 rl fl) (hi : sh ≤ i) {r : XRoad} {q : Int} (hr : RoadG np r) (hq : -360 ≤ q ∧ q ≤ 360) (hc : r.closed = false)
    (hend : (r.fr = (i : Int) ∧ r.to < (sh : Int) ∧ q = -(net0.getD i 0)) ∨ (r.to = (i : Int) ∧ r.fr < (sh : Int) ∧ q = net0.getD i 0)) : Shafted sh np (i + 1) net0 (rl ++ [r]) (fl ++ [q]) := by
  have hlen := h.len
  refine ⟨h.roads.next hr hq (fun hcl => by rw [hc] at hcl; cases hcl), by simp only [List.length_append, List.length_singleton]; omega, fun v h1 h2 => ?_, fun v h1 h2 => ?_, fun v h1 => ?_⟩
  rotate_left
  · rcases Nat.lt_or_eq_of_le (Nat.le_of_lt_succ h2) with h' | h'
    · obtain ⟨k, r', k1, k2⟩ := h.shaft v h1 h'
      exact ⟨k, r', by rw [List.getElem?_append_left (List.getElem?_eq_some_iff.1 k1).1]; exact k1, k2⟩
    · subst h'
      exact ⟨rl.length, r, by rw [List.getElem?_append_right (Nat.le_refl _)]; simp, hc, by rcases hend with h | h; exact .inl ⟨h.1, h.2.1⟩; exact .inr ⟨h.1, h.2.1⟩⟩
  rotate_left
  · rw [netL_snoc h.roads.len, netStep_get (netL_length _ _ _ _) hr v]
    rcases Nat.lt_or_eq_of_le (Nat.le_of_lt_succ h2) with h' | h'
    · rw [h.done v h1 h', if_neg (by omega), if_neg (by omega)]; rfl
    · subst h'
      rw [h.todo v (Nat.le_refl _)]
      have := hr.ne
      split <;> split <;> omega
  · rw [netL_snoc h.roads.len, netStep_get (netL_length _ _ _ _) hr v, h.todo v (by omega), if_neg (by omega), if_neg (by omega)]; omega


theorem getD_mem_doubt {l m : List Int} (h : Doubt l m) {k : Nat} (hk : k < l.length) : m.getD k 0 = -1 ∨ m.getD k 0 = l.getD k 0 := by
  have := h.len
  have hg := get_D (l := m) (k := k) 0 (by omega)
  rcases h.val k _ hg with h1 | h1
  · exact .inl h1
  · rw [get_D (l := l) 0 hk] at h1
    exact .inr (Option.some.inj h1).symm

structure MadeA (a : XAir) (t : XSetting) (x : XState) : Prop where
  err : airErr a = 0
  fit : fitB a t = true
  fits : fitsS a t x = 0
  nplaces : 1 ≤ a.mine.places.l.length ∧ a.mine.places.l.length ≤ 6
  nroads : a.mine.roads.l.length ≤ 9
  nfans : a.fans.l.length ≤ 2
  ndoors : a.doors.l.length ≤ 2
  small : ∀ (i : Nat) (r : XRoad), a.mine.roads.l[i]? = some r → (-260000000 ≤ r.lift.low ∧ r.lift.high ≤ 260000000) ∧ r.rest.high ≤ 22
  curve : ∀ f ∈ a.fans.l, MadeCurve f.curve.l
  rests : ∀ d ∈ a.doors.l, MadeDoor d.road d
  press : ∀ p ∈ x.pres.l, -4000 ≤ p ∧ p ≤ 4000
  surf0 : (a.mine.places.l.getD 0 default).surface = true
  shaft : ∀ v : Nat, v < a.mine.places.l.length → (a.mine.places.l.getD v default).surface = false → ∃ k u : Nat, k < a.mine.roads.l.length ∧ (a.mine.places.l.getD u default).surface = true ∧ (a.mine.roads.l.getD k default).closed = false ∧ (((a.mine.roads.l.getD k default).fr = (v : Int) ∧ (a.mine.roads.l.getD k default).to = (u : Int)) ∨ ((a.mine.roads.l.getD k default).fr = (u : Int) ∧ (a.mine.roads.l.getD k default).to = (v : Int)))

theorem madeA_of {sh : Nat} {a : XAir} {s t : XSetting} {x : XState} {rl0 : List XRoad} {net0 : List Int} (hpl : PlacesD sh a.mine.places.l) (hpr : PresD sh a.mine.places.l.length a.mine.places.l.length x.pres.l) (hro : Shafted sh a.mine.places.l.length a.mine.places.l.length net0 rl0 x.flows.l)
    (hF : FansD rl0.length 0 a.fans.l s.fans.l) (hD : DoorsD rl0.length 0 a.doors.l s.doors.l) (hfit : FitI a s x rl0 rl0.length a.mine.roads.l) (htf : Doubt s.fans.l t.fans.l) (htd : Doubt s.doors.l t.doors.l) : MadeA a t x := by
  have hsh := hpl.shb
  have hpn := hpl.len
  have hln := hfit.len
  have hrl := hro.len
  have hqn := hro.roads.len
  have hFm := hF.m
  have hDm := hD.m
  have hxp := hpr.len
  -- a road of the air
  have road : ∀ (i : Nat) (r' : XRoad), a.mine.roads.l[i]? = some r' → ∃ r, rl0[i]? = some r ∧ RoadG a.mine.places.l.length r ∧ FitAt a s x i r r' := by
    intro i r' hr'
    obtain ⟨hi, _⟩ := List.getElem?_eq_some_iff.1 hr'
    obtain ⟨r, hr⟩ := get_some (l := rl0) (k := i) (by omega)
    obtain ⟨r2, h2, h3⟩ := hfit.done i r (by omega) hr
    rw [hr'] at h2; cases h2
    exact ⟨r, hr, hro.roads.road i r hr, h3⟩
  have presb : ∀ i : Nat, -4000 ≤ x.pres.l.getD i 0 ∧ x.pres.l.getD i 0 ≤ 4000 := fun i => by
    rcases Nat.lt_or_ge i x.pres.l.length with h | h
    · exact (hpr.val i _ (get_D 0 h)).1
    · rw [List.getD_eq_getElem?_getD, List.getElem?_eq_none h]; simp
  have flowb : ∀ i : Nat, -360 ≤ x.flows.l.getD i 0 ∧ x.flows.l.getD i 0 ≤ 360 := fun i => by
    rcases Nat.lt_or_ge i x.flows.l.length with h | h
    · exact hro.roads.flow i _ (get_D 0 h)
    · rw [List.getD_eq_getElem?_getD, List.getElem?_eq_none h]; simp
  have ok : ∀ (i : Nat) (r' : XRoad), a.mine.roads.l[i]? = some r' → RoadOk a.mine.places.l.length r' ∧ (1 ≤ r'.len ∧ r'.len ≤ 100000) ∧ (1 ≤ r'.area ∧ r'.area ≤ 1000) ∧ (-260000000 ≤ r'.lift.low ∧ r'.lift.high ≤ 260000000) ∧ r'.rest.high ≤ 22 := by
    intro i r' hr'
    obtain ⟨r, hr, hg, e, u, v, he, hu, hv, heq⟩ := road i r' hr'
    have h1 := hg.d.rest
    have h2 := hg.len
    have h3 := hg.area
    have b1 := dSum_bounds hD i a.doors.l.length (Nat.le_refl _)
    have b2 := fSum_bounds hF i (x.flows.l.getD i 0) a.fans.l.length (Nat.le_refl _)
    have b3 := lift_bounds (R := r.rest.low + e + dSum a.doors.l s.doors.l i a.doors.l.length) (q := x.flows.l.getD i 0) (by omega) (flowb i)
    have b4 := presb r.fr.toNat
    have b5 := presb r.to.toNat
    rw [heq]
    refine ⟨⟨hg.d.fr, hg.d.to, hg.ne, ⟨h1.1, h1.2.1, by dsimp only; omega⟩, ?_⟩, ⟨h2.1, by dsimp only; omega⟩, ⟨by dsimp only; omega, by dsimp only; omega⟩, ?_, h1.2.2⟩
    · unfold liftOf presAt
      dsimp only
      omega
    · unfold liftOf presAt
      dsimp only
      omega
  have hme : mineErr a.mine = 0 := mineErr_zero (by omega) (by omega) (fun p hp => by
    obtain ⟨i, hi⟩ := List.mem_iff_getElem?.1 hp
    exact (hpl.val i p hi).1) (fun r hr => by
    obtain ⟨i, hi⟩ := List.mem_iff_getElem?.1 hr
    obtain ⟨h1, h2, h3, _, _⟩ := ok i r hi
    exact roadErr_none h1 h2 h3)
  have hae : airErr a = 0 := airErr_zero hme (by omega) (fun f hf => ⟨(hF.fan f hf).ok, by have := (hF.fan f hf).road; omega⟩) (by omega) (fun d hd => ⟨⟨(hD.door d hd).ok, (hD.door d hd).made.other⟩, by have := (hD.door d hd).road; omega⟩)
  have hFl := hF.len
  have hDl := hD.len
  have ht1 := htf.len
  have ht2 := htd.len
  have less : SetLess a s t := by
    refine ⟨fun k hk => ?_, fun k hk => ?_⟩
    · have h1 := hF.st _ (List.mem_of_getElem? (get_D (l := s.fans.l) (k := k) 0 (by omega)))
      rcases getD_mem_doubt htf (k := k) (by omega) with h | h
      · exact .inr ⟨h, by omega, by omega⟩
      · exact .inl h
    · have h1 := hD.st k _ _ (get_D (l := a.doors.l) (k := k) default hk) (get_D (l := s.doors.l) (k := k) 0 (by omega))
      rcases getD_mem_doubt htd (k := k) (by omega) with h | h
      · exact .inr ⟨h, by omega, by omega⟩
      · exact .inl h
  have hfb : fitB a t = true := fitB_true ⟨by omega, by omega, fun i y hy => by
    obtain ⟨hi, _⟩ := List.getElem?_eq_some_iff.1 hy
    have h1 := hF.st _ (List.mem_of_getElem? (get_D (l := s.fans.l) (k := i) 0 (by omega)))
    rcases htf.val i y hy with h | h
    · omega
    · rw [get_D (l := s.fans.l) 0 (show i < s.fans.l.length by omega)] at h
      rw [← Option.some.inj h]; omega, fun i y d hy hd => by
    obtain ⟨hi, _⟩ := List.getElem?_eq_some_iff.1 hy
    have h1 := hD.st i d _ hd (get_D (l := s.doors.l) (k := i) 0 (by omega))
    have h2 := (hD.door d (List.mem_of_getElem? hd)).made.len
    rcases htd.val i y hy with h | h
    · omega
    · rw [get_D (l := s.doors.l) 0 (show i < s.doors.l.length by omega)] at h
      rw [← Option.some.inj h]; omega⟩
  have hnet : netTo a x x.flows.l.length = netL rl0 x.flows.l a.mine.places.l.length rl0.length := by
    rw [netTo_eq, hxp, hqn]
    refine netL_congr _ (fun i hi => ?_)
    obtain ⟨r, hr, _, e, u, v, _, _, _, heq⟩ := road i _ (get_D (l := a.mine.roads.l) (k := i) default (by omega))
    rw [getD_some hr, heq]
    exact ⟨rfl, rfl⟩
  refine ⟨hae, hfb, ?_, by omega, by omega, by omega, by omega, fun i r hr => (ok i r hr).2.2.2, fun f hf => (hF.fan f hf).curve, fun d hd => (hD.door d hd).made, fun p hp => by obtain ⟨i, hi⟩ := List.mem_iff_getElem?.1 hp; exact (hpr.val i p hi).1, ?_, fun v hv hs => ?_⟩
  rotate_left
  · have hg := get_D (l := a.mine.places.l) (k := 0) default (by omega)
    rw [(hpl.val 0 _ hg).2]
    exact decide_eq_true (by omega)
  · have hg := get_D (l := a.mine.places.l) (k := v) default hv
    have hsv := (hpl.val v _ hg).2
    rw [hs] at hsv
    obtain ⟨k, r, k1, k2, k3⟩ := hro.shaft v (by have := of_decide_eq_false hsv.symm; omega) hv
    have hkl := (List.getElem?_eq_some_iff.1 k1).1
    obtain ⟨r2, h2, _, e, u, w, _, _, _, heq⟩ := road k _ (get_D (l := a.mine.roads.l) (k := k) default (by omega))
    rw [k1] at h2
    cases h2
    have hrg := (hro.roads.road k r k1).d
    have hrf := hrg.fr
    have hrt := hrg.to
    have surf : ∀ u : Nat, u < sh → (a.mine.places.l.getD u default).surface = true := fun u hu => by
      rw [(hpl.val u _ (get_D default (by omega))).2]; exact decide_eq_true hu
    rcases k3 with ⟨e1, e2⟩ | ⟨e1, e2⟩
    · exact ⟨k, r.to.toNat, by omega, surf _ (by omega), by rw [heq]; exact k2, .inl ⟨by rw [heq]; exact e1, by rw [heq]; show r.to = _; omega⟩⟩
    · exact ⟨k, r.fr.toNat, by omega, surf _ (by omega), by rw [heq]; exact k2, .inr ⟨by rw [heq]; show r.fr = _; omega, by rw [heq]; exact e1⟩⟩
  refine fitsS_zero hae hfb (by omega) (findSome_none (fun p hp => ?_)) (findSome_none (fun q hq => ?_)) (fun i hi => ?_) (fun v hv => ?_)
  · obtain ⟨j, hj⟩ := List.mem_iff_getElem?.1 hp
    have := (hpr.val j p hj).1
    exact if_neg (by omega)
  · obtain ⟨j, hj⟩ := List.mem_iff_getElem?.1 hq
    have := hro.roads.flow j q hj
    exact if_neg (by omega)
  · have hg := get_D (l := a.mine.roads.l) (k := i) default (by omega)
    obtain ⟨r, hr, hgr, hft⟩ := road i _ hg
    have hin := fitted_inner hF hD (hgr.d.rest.2.1) hft
    have hls := innerS_less less (i : Int) (x.flows.l.getD i 0)
    have hcl := hro.roads.closed i r _ hr (get_D (l := x.flows.l) (k := i) 0 (by omega))
    have e1 : (a.mine.roads.l.getD i default).fr = r.fr ∧ (a.mine.roads.l.getD i default).to = r.to ∧ (a.mine.roads.l.getD i default).closed = r.closed := by
      obtain ⟨e, u, v, _, _, _, heq⟩ := hft
      rw [heq]; exact ⟨rfl, rfl, rfl⟩
    unfold roadUnfit
    dsimp only
    rw [e1.1, e1.2.1, e1.2.2]
    refine if_neg ?_
    have h1 := hls.1
    have h2 := hls.2
    dsimp only [presAt] at hin
    rintro (⟨h3, h4⟩ | ⟨_, h4⟩)
    · exact h4 (hcl h3)
    · omega
  · rw [hxp] at hv
    obtain ⟨p, hp⟩ := get_some (l := a.mine.places.l) (k := v) hv
    have h1 := (hpl.val v p hp).2
    have h2 := hpr.val v _ (get_D (l := x.pres.l) (k := v) 0 (by omega))
    unfold placeUnfit
    rw [hnet, getD_some hp, h1]
    refine if_neg ?_
    rintro (⟨h3, h4⟩ | ⟨h3, h4⟩)
    · exact h4 (h2.2 (.inl (by simpa using h3)))
    · exact h4 (hro.done v (by simpa using h3) (by omega))
end Go.Proofs.Ytkpfjmibipblhaa

end
section
namespace Go.Proofs.Ytkpfjmibipblhaa
open Go.Aw Go
set_option maxRecDepth 20000
attribute [local irreducible] CJ LJ DJ Tri YV Gives seqK blockK loopK retK RV mergeK OwL.L

structure MadeO where
  places : OwL XPlace
  roads : OwL XRoad
  fans : OwL XFan
  doors : OwL XDoor
  tf : OwL Int
  td : OwL Int
  pres : OwL Int
  flows : OwL Int
abbrev MadeO.a (m : MadeO) : XAir := ⟨⟨m.places.arr, m.roads.arr⟩, m.fans.arr, m.doors.arr⟩
abbrev MadeO.t (m : MadeO) : XSetting := ⟨m.tf.arr, m.td.arr⟩
abbrev MadeO.x (m : MadeO) : XState := ⟨m.pres.arr, m.flows.arr⟩
abbrev MadeO.L (m : MadeO) (cb : Blk) : List Blk :=
  m.pres.L 3 icell ++ (m.places.L 126 XPlace.cells ++ (m.flows.L 3 icell ++ (m.fans.L 176 XFan.cells ++ (m.doors.L 180 XDoor.cells ++ (m.roads.L 111 XRoad.cells ++ (cb :: (m.tf.L 3 icell ++ (m.td.L 3 icell ++ []))))))))
structure MadeO.Ok (m : MadeO) : Prop where
  places : m.places.ok 2 XPlace.cells
  roads : m.roads.ok 10 XRoad.cells
  fans : m.fans.ok 4 XFan.cells
  doors : m.doors.ok 3 XDoor.cells
  tf : m.tf.ok 1 icell
  td : m.td.ok 1 icell
  pres : m.pres.ok 1 icell
  flows : m.flows.ok 1 icell

theorem PlacesD.snoc {sh : Nat} {pl : List XPlace} (h : PlacesD sh pl) (hl : pl.length < sh + 4) {z : Int} (hz : 0 ≤ z ∧ z ≤ 99) : PlacesD sh (pl ++ [⟨-z, false⟩]) := by
  have := h.len
  refine ⟨h.shb, by simp only [List.length_append, List.length_singleton]; omega, fun i p hp => ?_⟩
  rw [List.getElem?_append] at hp
  split at hp
  · exact h.val i p hp
  · rw [List.getElem?_singleton] at hp
    split at hp
    · cases hp
      refine ⟨by dsimp only; omega, ?_⟩
      dsimp only
      symm
      rw [decide_eq_false_iff_not]
      omega
    · cases hp

theorem rem_other {n f j : Int} (hf : 0 ≤ f ∧ f < n) (hj : 0 ≤ j ∧ j < n - 1) : 0 ≤ (f + 1 + j).tmod n ∧ (f + 1 + j).tmod n < n ∧ f ≠ (f + 1 + j).tmod n := by
  rw [Int.tmod_eq_emod_of_nonneg (by omega)]
  have h1 := Int.emod_nonneg (f + 1 + j) (show n ≠ 0 by omega)
  have h2 := Int.emod_lt_of_pos (f + 1 + j) (show 0 < n by omega)
  refine ⟨h1, h2, ?_⟩
  rcases Int.lt_or_le (f + 1 + j) n with h | h
  · rw [Int.emod_eq_of_lt (by omega) h]; omega
  · have : (f + 1 + j) % n = f + 1 + j - n := by
      have e : f + 1 + j = (f + 1 + j - n) + n := by omega
      rw [e, Int.add_emod_right, Int.emod_eq_of_lt (by omega) (by omega)]
      omega
    omega

theorem made_tri (c : Nat) (x : Arr Int) (k : Nat) (R : List Sl) (hx : CodesR x R) (hk : k ≤ x.l.length) :
    Tri Try.prog 47 [.pointer (some ⟨c, 0, none⟩)].toArray [cblk c x k] R
      (fun v L' R' => ∃ (m : MadeO) (k' : Nat) (S : List Sl), v = .tuple #[m.a.val, m.t.val, m.x.val] ∧ m.Ok ∧ MadeA m.a m.t m.x ∧ (∀ f ∈ m.fans.l, InR f.sl S) ∧ (∀ d ∈ m.doors.l, InR d.sl S) ∧ k' ≤ x.l.length ∧ m.L (cblk c x k') = L' ∧ S ++ R = R') := by
  refine tri_enter 189 Try.call47 Try.func47 rfl rfl rfl ?_
  refine qae ?_
  refine qaq ?_
  intro b2
  refine qaq ?_
  intro b3
  refine qaq ?_
  intro b4
  refine qam ?_
  refine LJ_q (yv_build (qs := [(1, (Value.bool _).cells.toList)]) (out := [_, _]) tb rfl rfl rfl rfl) rfl ?_
  refine yaiad ?_
  rintro v L' R' ⟨b21, rfl, rfl, hR21⟩
  replace hR21 := hR21.symm; subst hR21
  refine yaiae ?_
  refine LJ_q (yv_build (qs := [(0, (Value.agg _).cells.toList)]) (out := [_, _, _, _]) tb rfl rfl rfl rfl) rfl ?_
  refine qaq ?_
  intro b5
  refine qak ?_
  refine qco ?_
  refine CJ_perm (List.perm_append_comm (l₁ := [_, _, _, _, _]) (l₂ := [_])) ?_
  refine CJ_L (congrArg (List.cons _) (congrArg (List.cons _) (built_ow (f := XPlace.cells) (n := 1) [⟨0, true⟩] rfl _))) ?_
  refine qay ?_
  refine qa6 ?_
  refine LJ_call rfl (one1 (by repeat (first | apply USeg.here | apply USeg.cons | apply USeg.app)) hx hk (by omega)) rfl ?_
  rintro v L' R' ⟨r1, k1, rfl, hk1, rfl, rfl⟩
  refine qaf ?_
  refine CJ_joinS [26, 27, 28, 29, 30, 31, 32, 33] ((⟨fun g => [], fun g => cblk c x k1 :: ⟨b5, [g.1.1.val, .slice none 0 0, .slice none 0 0, .slice none 0 0], 30⟩ :: (g.1.1.L 126 XPlace.cells ++ (⟨b4, [.slice none 0 0, .slice none 0 0], 42⟩ :: ⟨b3, [.slice none 0 0, .slice none 0 0], 40⟩ :: ⟨b2, [.slice none 0 0, .slice none 0 0, .slice none 0 0, .slice none 0 0], 30⟩ :: [])), fun _ => R, fun _ => 0⟩ : Head {g : OwL XPlace × Unit // g.1.ok 2 XPlace.cells ∧ g.1.l.length ≤ 2 ∧ PlacesD g.1.l.length g.1.l})) ?_ ?_
  ·
   skip
   refine q_c (fun hc0 => ?_) (fun hc0 => ?_)
   ·
    refine qay ?_
    refine qab ?_
    refine qab ?_
    refine qac ?_
    refine LJ_q (yv_build (qs := [(1, (Value.bool _).cells.toList), (0, (Value.int _ _).cells.toList)]) (out := [_, _]) tb rfl rfl rfl rfl) rfl ?_
    refine yaiad ?_
    rintro v L' R' ⟨b30, rfl, rfl, hR30⟩
    replace hR30 := hR30.symm; subst hR30
    refine LJ_g (gives_append1 (f := XPlace.cells) (p := ⟨.own b21 1 [], [⟨0, true⟩]⟩) (a := ⟨10, true⟩) tb rfl rfl rfl rfl (built_ok (fun _ => rfl) rfl (by decide)) (by repeat (first | apply OSeg.cons | exact OSeg.here | exact OSeg.last | exact OSeg.at (by assumption) | apply OSeg.app)) (shown_own (by repeat (first | exact zi0 | apply zi1 | apply zi2)) rfl rfl) rfl (by first | omega | (simp only [List.length_cons, List.length_nil, List.length_append]; omega))) rfl ?_
    rintro v L' R' ⟨o31, rfl, hok31, rfl, rfl⟩
    refine qab ?_
    refine qab ?_
    refine qcy ?_
    refine qav ?_
    exact q_j ⟨(⟨o31, _⟩, ()), hok31, by simp, ⟨by simp, by simp, fun i p hp => by (cases i with | zero => cases hp; exact ⟨by decide, rfl⟩ | succ i => (cases i with | zero => cases hp; exact ⟨by decide, rfl⟩ | succ i => cases hp))⟩⟩
   refine CJ_skip ?_
   exact q_j ⟨(⟨.own b21 1 [], [⟨0, true⟩]⟩, ()), built_ok (fun _ => rfl) rfl (by decide), by simp, ⟨by simp, by simp, fun i p hp => by (cases i with | zero => cases hp; exact ⟨by decide, rfl⟩ | succ i => cases hp)⟩⟩
  rintro ⟨⟨pl0, _⟩, hok0, hl0, hP0⟩ junk
  try dsimp only
  dsimp only at hok0 hl0 hP0
  refine qae ?_
  refine qab ?_
  refine qab ?_
  refine qac ?_
  refine qag ?_
  refine qad ?_
  refine qaw ?_
  refine qa6 ?_
  refine yaiat ?_
  rintro v L' R' ⟨r2, k2, rfl, g2, g2', g2'', hk2, rfl, rfl⟩
  refine qad ?_
  refine qa2 ?_
  refine CJ_forget [(0, Value.pointer _), (2, Value.pointer _), (3, Value.pointer _), (4, Value.pointer _), (5, Value.pointer _), (6, Value.int _ _), (7, Value.int _ _)] (by repeat' (first | exact trivial | refine And.intro rfl ?_)) fun tq0 => ?_
  have g2q := g2' (by omega)
  refine q_p [7, 40, 41, 42, 43, 44, 45, 46, 47, 48, 49, 50, 51, 52, 53, 54] ((⟨fun g => [(7, .int .i64 g.1.2.1)], fun g => cblk c x g.1.1 :: ⟨b5, [g.1.2.2.val, .slice none 0 0, .slice none 0 0, .slice none 0 0], 30⟩ :: (g.1.2.2.L 126 XPlace.cells ++ (⟨b4, [.slice none 0 0, .slice none 0 0], 42⟩ :: ⟨b3, [.slice none 0 0, .slice none 0 0], 40⟩ :: ⟨b2, [.slice none 0 0, .slice none 0 0, .slice none 0 0, .slice none 0 0], 30⟩ ::  [])), fun _ => R, fun g => g.1.2.1.toNat⟩ : Head {g : Nat × Int × OwL XPlace // g.1 ≤ x.l.length ∧ g.2.2.ok 2 XPlace.cells ∧ PlacesD pl0.l.length g.2.2.l ∧ 0 ≤ g.2.1 ∧ (g.2.2.l.length : Int) + g.2.1 ≤ (pl0.l.length : Int) + 4})) (⟨(k2, r2, pl0), hk2, hok0, hP0, g2, by dsimp only; omega⟩) ?_
  rintro ⟨⟨kk, m, pl⟩, hkk, hok, hP, hm0, hm1⟩ junk
  try dsimp only
  dsimp only at hkk hok hP hm0 hm1
  refine CJ_seq (CJ_seq ?_)
  have g2q := g2' (by omega)
  refine qay ?_
  refine qaa ?_
  refine qa5 ?_
  refine qaf ?_
  refine q_c (fun hc1 => ?_) (fun hc1 => ?_)
  ·
   refine CJ_skip (seqK_normal (CJ_seq (CJ_block ?_)))
   refine CJ_drawn2 tb [] [0, 1, 2, 3, 4, 5, 6, 7] [8, 9, 10, 11] ([Blk.mk b5 _ _]) _ mixed (by kernel_rfl) (by repeat (first | exact zs0 _ | exact zs1 _ | apply zs2 | apply zs3 | apply zs4 | apply zs5)) (List.nil_sublist _) ?_
   refine qan ?_
   refine qan ?_
   refine qau ?_
   refine qb3 ?_
   refine DJ3_call rfl (next1 (by repeat (first | apply USeg.here | apply USeg.cons | apply USeg.app)) hx hkk (by omega)) rfl rfl ?_
   rintro v L' R' ⟨r3, k3, rfl, g3, g3', g3'', hk3, rfl, rfl⟩
   refine qas ?_
   have g3q := g3' (by omega)
   refine DJ3_q (yv_neg64 rfl (by omega) (by omega)) rfl rfl rfl rfl ?_
   refine DJ3_q (yv_build (qs := [(0, (Value.int _ _).cells.toList)]) (out := [_, _]) tb rfl rfl rfl rfl) rfl rfl rfl rfl ?_
   refine yaiaq ?_
   rintro v L' R' ⟨b51, rfl, rfl, hR51⟩
   replace hR51 := hR51.symm; subst hR51
   refine qa1 ?_
   refine qba ?_
   refine DJ_g (gives_append1 (f := XPlace.cells) (p := pl) (a := ⟨-r3, false⟩) tb rfl rfl rfl rfl (hok) (by repeat (first | apply OSeg.cons | exact OSeg.here | exact OSeg.last | exact OSeg.at (by assumption) | apply OSeg.app)) (shown_own (by repeat (first | exact zi0 | apply zi1 | apply zi2)) rfl rfl) rfl (by first | omega | (simp only [List.length_cons, List.length_nil, List.length_append]; omega))) rfl rfl rfl ?_
   rintro v L' R' ⟨o52, rfl, hok52, rfl, rfl⟩
   refine qa1 ?_
   refine qal ?_
   refine qal ?_
   refine qbw ?_
   refine qby ?_
   refine qaa ?_
   refine qa9 ?_
   refine qad ?_
   refine qav ?_
   exact q_k ⟨(k3, m - 1, ⟨o52, _⟩), hk3, hok52, hP.snoc (by omega) (by omega), by dsimp only; omega, by dsimp only; simp only [List.length_append, List.length_singleton]; omega⟩
  refine qc3 ?_
  have hsb := hP.shb
  have hnp := hP.len
  refine qay ?_
  refine qab ?_
  refine qab ?_
  refine qac ?_
  refine qag ?_
  refine qad ?_
  refine qam ?_
  refine qaa ?_
  refine qc7 ?_
  rintro v L' R' ⟨b60, rfl, rfl, hR60⟩
  replace hR60 := hR60.symm; subst hR60
  refine yaiae ?_
  refine qaq ?_
  intro b9
  refine qak ?_
  refine qaw ?_
  refine qaa ?_
  refine qad ?_
  refine qa2 ?_
  refine CJ_forget [(0, Value.pointer _), (2, Value.pointer _), (3, Value.pointer _), (4, Value.pointer _), (5, Value.pointer _), (6, Value.int _ _), (8, Value.int _ _), (9, Value.pointer _), (10, Value.int _ _)] (by repeat' (first | exact trivial | refine And.intro rfl ?_)) fun tq1 => ?_
  refine CJ_L (congrArg (List.cons _) (made_ow (f := icell) (x := (0 : Int)) rfl _)) ?_
  refine CJ_loop [10, 63, 64, 65, 66, 67, 68, 69, 70, 71, 72, 73] ((⟨fun g => [(10, .int .i64 ((g.1.2.1 : Nat) : Int))], fun g => ⟨b9, [(⟨.own b60 pl.l.length [], g.1.2.2⟩ : OwL Int).val, .slice none 0 0], 42⟩ :: ((⟨.own b60 pl.l.length [], g.1.2.2⟩ : OwL Int).L 3 icell ++ (cblk c x g.1.1 :: ⟨b5, [pl.val, .slice none 0 0, .slice none 0 0, .slice none 0 0], 30⟩ :: (pl.L 126 XPlace.cells ++ (⟨b4, [.slice none 0 0, .slice none 0 0], 42⟩ :: ⟨b3, [.slice none 0 0, .slice none 0 0], 40⟩ :: ⟨b2, [.slice none 0 0, .slice none 0 0, .slice none 0 0, .slice none 0 0], 30⟩ ::  [])))), fun _ => R, fun g => pl.l.length - g.1.2.1⟩ : Head {g : Nat × Nat × List Int // g.1 ≤ x.l.length ∧ (pl0.l.length ≤ g.2.1 ∧ g.2.1 ≤ pl.l.length) ∧ (⟨.own b60 pl.l.length [], g.2.2⟩ : OwL Int).ok 1 icell ∧ PresD pl0.l.length pl.l.length g.2.1 g.2.2})) (⟨(kk, pl0.l.length, List.replicate pl.l.length 0), hkk, ⟨Nat.le_refl _, by dsimp only; omega⟩, made_ok (fun _ => rfl) (by simp only [maxLen]; omega), ⟨by simp, fun j p hp => by rw [List.getElem?_replicate] at hp; split at hp; cases hp; exact ⟨by omega, fun _ => rfl⟩; cases hp⟩⟩) (by repeat' (first | exact trivial | refine And.intro rfl ?_)) (by dsimp only; rw [rep_val]; exact List.Sublist.refl _) (allR_self _) ?_
  rintro ⟨⟨kk2, i, pr⟩, hkk2, ⟨hi1, hi2⟩, hokp, hPr⟩ junk
  try dsimp only
  dsimp only at hkk2 hi1 hi2 hokp hPr
  refine qbi ?_
  refine qaa ?_
  refine qaa ?_
  refine qaj ?_
  refine qaf ?_
  refine q_c (fun hc2 => ?_) (fun hc2 => ?_)
  ·
   have hprl := hPr.len
   have hpri := get_D (l := pr) (k := i) 0 (by omega)
   refine CJ_skip (seqK_normal (CJ_seq (CJ_block ?_)))
   refine CJ_drawn2 tb [] [0, 1, 2, 3, 4, 5] [6] ([Blk.mk b9 _ _]) _ mixed (by kernel_rfl) (by repeat (first | exact zs0 _ | exact zs1 _ | apply zs2 | apply zs3 | apply zs4 | apply zs5)) (by (repeat (first | apply List.Sublist.cons (a := Blk.mk b69 _ _) | apply List.Sublist.cons_cons)); exact List.Sublist.refl _) ?_
   refine qan ?_
   refine qau ?_
   refine qbf ?_
   refine qb3 ?_
   refine DJ3_call rfl (range1 (by repeat (first | apply USeg.here | apply USeg.cons | apply USeg.app)) hx hkk2 (by omega)) rfl rfl ?_
   rintro v L' R' ⟨r4, k4, rfl, g4, g4', hk4, rfl, rfl⟩
   refine qas ?_
   refine DJ3_q (yv_index_ow tb ((⟨.own b60 pl.l.length [], pr⟩ : OwL Int)) _ rfl rfl rfl rfl (by assumption) (i := i) (by first | rfl | omega | (simp; omega)) (by first | omega | (dsimp only; omega) | (dsimp only; rw [List.length_set]; omega) | (dsimp only; simp only [List.length_set]; omega))) rfl rfl rfl rfl ?_
   refine qba ?_
   refine DJ_g0 (gives_store1_ow tb ((⟨.own b60 pl.l.length [], pr⟩ : OwL Int)) (r4) rfl rfl rfl rfl (by repeat (first | apply OSeg.cons | exact OSeg.here | exact OSeg.last | exact OSeg.at (by assumption) | apply OSeg.app)) (by assumption) (fun _ => rfl) (by assumption) (by decide) (by rfl) (by rfl)) rfl rfl ?_
   rintro v L' R' ⟨rfl, rfl⟩
   refine qa1 ?_
   refine qby ?_
   refine qaa ?_
   refine qar ?_
   refine qad ?_
   refine qav ?_
   exact loopK_mk ⟨(k4, i + 1, pr.set i r4), hk4, ⟨by dsimp only; omega, by dsimp only; omega⟩, OwL.set_ok (p := (⟨.own b60 pl.l.length [], pr⟩ : OwL Int)) (fun _ => rfl) hokp, hPr.next hi1 ⟨g4, g4'⟩⟩ (by repeat (first | exact Off.refl | apply Off.upd rfl | apply Off.havoc rfl | apply Off.updL rfl | apply Off.left rfl)) (by repeat' (first | exact trivial | refine And.intro rfl ?_)) (by dsimp only; rw [OwL.set_val]; exact (by repeat (first | exact zs0 _ | exact zs1 _ | apply zs2 | apply zs3 | apply zs4 | apply zs5))) (allR_self _) (by dsimp only; omega)
  obtain rfl : i = pl.l.length := by omega
  refine qbk ?_
  refine qaa ?_
  refine qc7 ?_
  rintro v L' R' ⟨b75, rfl, rfl, hR75⟩
  replace hR75 := hR75.symm; subst hR75
  refine qc4 ?_
  refine qco ?_
  refine CJ_L (made_ow (f := icell) (x := (0 : Int)) rfl _) ?_
  have hprl := hPr.len
  refine qay ?_
  refine qaa ?_
  refine qa5 ?_
  refine qaf ?_
  refine CJ_joinS [12, 13, 14, 15, 78, 79, 80, 81, 82, 83, 84, 85, 86, 87, 88, 89, 90, 91, 92, 93, 94, 95, 96, 97, 98, 99, 100, 101, 102, 103, 104, 105, 106, 107, 108, 109, 110, 111, 112, 113, 114, 115, 116, 117, 118, 119, 120, 121, 122, 123, 124, 125, 126, 127, 128, 129, 130, 131, 132, 133, 134, 135] ((⟨fun g => [], fun g => (⟨.own b75 pl.l.length [], g.1.2.2.2⟩ : OwL Int).L 3 icell ++ (⟨b9, [(⟨.own b60 pl.l.length [], pr⟩ : OwL Int).val, g.1.2.2.1.val], 42⟩ :: ((⟨.own b60 pl.l.length [], pr⟩ : OwL Int).L 3 icell ++ (cblk c x g.1.1 :: ⟨b5, [pl.val, g.1.2.1.val, .slice none 0 0, .slice none 0 0], 30⟩ :: (pl.L 126 XPlace.cells ++ (⟨b4, [.slice none 0 0, .slice none 0 0], 42⟩ :: ⟨b3, [.slice none 0 0, .slice none 0 0], 40⟩ :: ⟨b2, [.slice none 0 0, .slice none 0 0, .slice none 0 0, .slice none 0 0], 30⟩ ::  (g.1.2.1.L 111 XRoad.cells ++ (g.1.2.2.1.L 3 icell ++ []))))))), fun _ => R, fun _ => 0⟩ : Head {g : Nat × OwL XRoad × OwL Int × List Int // g.1 ≤ x.l.length ∧ (g.2.1.ok 10 XRoad.cells ∧ g.2.2.1.ok 1 icell ∧ (⟨.own b75 pl.l.length [], g.2.2.2⟩ : OwL Int).ok 1 icell) ∧ ∃ m, Drawn pl.l.length m g.2.1.l g.2.2.1.l g.2.2.2})) ?_ ?_
  ·
   skip
   refine q_c (fun hc3 => ?_) (fun hc3 => ?_)
   ·
    refine qae ?_
    refine qa6 ?_
    refine LJ_call rfl (next1 (by repeat (first | apply USeg.here | apply USeg.cons | apply USeg.app)) hx hkk2 (by omega)) rfl ?_
    rintro v L' R' ⟨r5, k5, rfl, g5, g5', g5'', hk5, rfl, rfl⟩
    refine qad ?_
    refine qa2 ?_
    refine CJ_forgetW [12, 13, 14, 15, 78, 79, 80, 81, 82, 83, 84, 85, 86, 87, 88, 89, 90, 91, 92, 93, 94, 95, 96, 97, 98, 99, 100, 101, 102, 103, 104, 105, 106, 107, 108, 109, 110, 111, 112, 113, 114, 115, 116, 117, 118, 119, 120, 121, 122, 123, 124, 125, 126, 127, 128, 129, 130, 131, 132, 133, 134, 135] (by repeat (first | apply Off.upd rfl | apply Off.havoc rfl | refine Off.updL (t' := havoc _ _ _) rfl ?_ | exact Off.refl)) [(12, Value.int _ _)] (by repeat' (first | exact trivial | refine And.intro rfl ?_)) fun tq2 => ?_
    have g5q := g5' (by omega)
    refine CJ_loop [12, 13, 14, 15, 80, 81, 82, 83, 84, 85, 86, 87, 88, 89, 90, 91, 92, 93, 94, 95, 96, 97, 98, 99, 100, 101, 102, 103, 104, 105, 106, 107, 108, 109, 110, 111, 112, 113, 114, 115, 116, 117, 118, 119, 120, 121, 122, 123, 124, 125, 126, 127, 128, 129, 130, 131, 132, 133, 134, 135] ((⟨fun g => [(12, .int .i64 g.1.2.1)], fun g => (⟨.own b75 pl.l.length [], g.1.2.2.2.2⟩ : OwL Int).L 3 icell ++ (⟨b9, [(⟨.own b60 pl.l.length [], pr⟩ : OwL Int).val, g.1.2.2.2.1.val], 42⟩ :: ((⟨.own b60 pl.l.length [], pr⟩ : OwL Int).L 3 icell ++ (cblk c x g.1.1 :: ⟨b5, [pl.val, g.1.2.2.1.val, .slice none 0 0, .slice none 0 0], 30⟩ :: (pl.L 126 XPlace.cells ++ (⟨b4, [.slice none 0 0, .slice none 0 0], 42⟩ :: ⟨b3, [.slice none 0 0, .slice none 0 0], 40⟩ :: ⟨b2, [.slice none 0 0, .slice none 0 0, .slice none 0 0, .slice none 0 0], 30⟩ ::  (g.1.2.2.1.L 111 XRoad.cells ++ (g.1.2.2.2.1.L 3 icell ++ []))))))), fun _ => R, fun g => g.1.2.1.toNat⟩ : Head {g : Nat × Int × OwL XRoad × OwL Int × List Int // g.1 ≤ x.l.length ∧ (g.2.2.1.ok 10 XRoad.cells ∧ g.2.2.2.1.ok 1 icell ∧ (⟨.own b75 pl.l.length [], g.2.2.2.2⟩ : OwL Int).ok 1 icell) ∧ Drawn pl.l.length g.2.1 g.2.2.1.l g.2.2.2.1.l g.2.2.2.2})) (⟨(k5, r5, OwL.nil, OwL.nil, List.replicate pl.l.length 0), hk5, ⟨OwL.nil_ok, OwL.nil_ok, made_ok (fun _ => rfl) (by simp only [maxLen]; omega)⟩, Drawn.zero (by dsimp only; omega)⟩) (by repeat' (first | exact trivial | refine And.intro rfl ?_)) (by dsimp only; rw [nil_L, nil_L]; exact List.Sublist.refl _) (allR_self _) ?_
    rintro ⟨⟨kk3, mm, rl, fl, nl⟩, hkk3, ⟨hokr, hokf, hokn⟩, hD⟩ junk
    try dsimp only
    dsimp only at hkk3 hokr hokf hokn hD
    refine qbi ?_
    refine qaa ?_
    refine qa5 ?_
    refine qaf ?_
    refine q_c (fun hc4 => ?_) (fun hc4 => ?_)
    ·
     have hDm := hD.m
     have hDl := hD.len
     have hDr := hD.roads.len
     refine qbb ?_
     refine qa6 ?_
     refine qaa ?_
     refine LJ_call rfl (next1 (by repeat (first | apply USeg.here | apply USeg.cons | apply USeg.app)) hx hkk3 (by omega)) rfl ?_
     rintro v L' R' ⟨r6, k6, rfl, g6, g6', g6'', hk6, rfl, rfl⟩
     refine qad ?_
     refine qa4 ?_
     have g6q := g6' (by omega)
     refine qay ?_
     refine qa6 ?_
     refine qaa ?_
     refine qaa ?_
     refine qar ?_
     refine qa6 ?_
     refine qaa ?_
     refine qa9 ?_
     refine LJ_call rfl (next1 (by repeat (first | apply USeg.here | apply USeg.cons | apply USeg.app)) hx hk6 (by omega)) rfl ?_
     rintro v L' R' ⟨r7, k7, rfl, g7, g7', g7'', hk7, rfl, rfl⟩
     have g7q := g7' (by omega)
     refine qar ?_
     refine qaa ?_
     refine qda ?_
     refine LJ_call rfl (road1 (by repeat (first | apply USeg.here | apply USeg.cons | apply USeg.app)) hx hk7) rfl ?_
     rintro v L' R' ⟨rd, k8, rfl, hrd, hk8, rfl, rfl⟩
     refine qaq ?_
     intro b14
     refine qak ?_
     refine qam ?_
     refine qa6 ?_
     refine LJ_call rfl (one1 (by repeat (first | apply USeg.here | apply USeg.cons | apply USeg.app)) hx hk8 (by omega)) rfl ?_
     rintro v L' R' ⟨cl, k9, rfl, hk9, rfl, rfl⟩
     refine qab ?_
     refine LJ_store1 (v := Value.bool _) tb rfl rfl rfl rfl (by repeat (first | apply zu0 | apply zu1 | apply zu2)) (by first | exact icell_fit (by omega) | rfl) (by first | exact icell_set | rfl) (by rfl) ?_
     refine qam ?_
     refine qa6 ?_
     refine LJ_call rfl (range1 (by repeat (first | apply USeg.here | apply USeg.cons | apply USeg.app)) hx hk9 (by omega)) rfl ?_
     rintro v L' R' ⟨r8, k10, rfl, g8, g8', hk10, rfl, rfl⟩
     refine qad ?_
     refine qaw ?_
     refine qab ?_
     refine qac ?_
     refine qaf ?_
     refine CJ_joinS [15] ((⟨fun g => [(15, .int .i64 g.1)], fun g => ⟨b14, XRoad.cells { rd with closed := cl }, 111⟩ :: ((⟨.own b75 pl.l.length [], nl⟩ : OwL Int).L 3 icell ++ (⟨b9, [(⟨.own b60 pl.l.length [], pr⟩ : OwL Int).val, fl.val], 42⟩ :: ((⟨.own b60 pl.l.length [], pr⟩ : OwL Int).L 3 icell ++ (cblk c x k10 :: ⟨b5, [pl.val, rl.val, .slice none 0 0, .slice none 0 0], 30⟩ :: (pl.L 126 XPlace.cells ++ (⟨b4, [.slice none 0 0, .slice none 0 0], 42⟩ :: ⟨b3, [.slice none 0 0, .slice none 0 0], 40⟩ :: ⟨b2, [.slice none 0 0, .slice none 0 0, .slice none 0 0, .slice none 0 0], 30⟩ ::  (rl.L 111 XRoad.cells ++ (fl.L 3 icell ++ [])))))))), fun _ => R, fun _ => 0⟩ : Head {q : Int // (-60 ≤ q ∧ q ≤ 60) ∧ (cl = true → q = 0)})) ?_ ?_
     ·
      skip
      refine q_c (fun hc5 => ?_) (fun hc5 => ?_)
      ·
       refine qay ?_
       refine qad ?_
       refine qav ?_
       exact q_j ⟨0, by omega, fun _ => rfl⟩
      refine CJ_skip ?_
      exact q_j ⟨r8, ⟨g8, g8'⟩, fun h => absurd h (by first | exact hc5 | (rw [hc5]; decide))⟩
     rintro ⟨q, hq, hqc⟩ junk
     try dsimp only
     obtain ⟨rr, hrr⟩ : ∃ rr : XRoad, rr = { rd with closed := cl } := ⟨_, rfl⟩
     rw [← hrr]
     have hto := rem_other (n := (pl.l.length : Int)) ⟨g6, g6q⟩ ⟨g7, g7q⟩
     have hf1 : rr.fr = r6 := by rw [hrr]; exact hrd.fr
     have hf2 : rr.to = (r6 + 1 + r7).tmod pl.l.length := by rw [hrr]; exact hrd.to
     have hG : RoadG pl.l.length rr := ⟨⟨by omega, by omega, by rw [hrr]; exact hrd.rest⟩, by omega, by rw [hrr]; exact hrd.len, by rw [hrr]; exact hrd.area⟩
     have hcl : rr.closed = true → q = 0 := by rw [hrr]; exact hqc
     have hv1 := hD.small rr.fr.toNat
     have hg1 := get_D (l := nl) (k := rr.fr.toNat) 0 (by omega)
     have hg2 := get_D (l := nl.set rr.fr.toNat (nl.getD rr.fr.toNat 0 + q)) (k := rr.to.toNat) 0 (by rw [List.length_set]; omega)
     have hv2 : -360 ≤ (nl.set rr.fr.toNat (nl.getD rr.fr.toNat 0 + q)).getD rr.to.toNat 0 ∧ (nl.set rr.fr.toNat (nl.getD rr.fr.toNat 0 + q)).getD rr.to.toNat 0 ≤ 360 := by
       rw [getD_set (by omega)]
       have := hD.small rr.to.toNat
       split <;> omega
     refine CJ_seq ?_
     refine CJ_joinS [106, 107, 108, 109, 110, 111, 112, 113, 114, 115, 116, 117, 118, 119] ((⟨fun _ => [], fun g => ⟨b14, rr.cells, 111⟩ :: ((⟨.own b75 pl.l.length [], nl⟩ : OwL Int).L 3 icell ++ (⟨b9, [(⟨.own b60 pl.l.length [], pr⟩ : OwL Int).val, (⟨g.1.2, fl.l ++ [q]⟩ : OwL Int).val], 42⟩ :: ((⟨.own b60 pl.l.length [], pr⟩ : OwL Int).L 3 icell ++ (cblk c x k10 :: ⟨b5, [pl.val, (⟨g.1.1, rl.l ++ [rr]⟩ : OwL XRoad).val, .slice none 0 0, .slice none 0 0], 30⟩ :: (pl.L 126 XPlace.cells ++ (⟨b4, [.slice none 0 0, .slice none 0 0], 42⟩ :: ⟨b3, [.slice none 0 0, .slice none 0 0], 40⟩ :: ⟨b2, [.slice none 0 0, .slice none 0 0, .slice none 0 0, .slice none 0 0], 30⟩ ::  ((⟨g.1.1, rl.l ++ [rr]⟩ : OwL XRoad).L 111 XRoad.cells ++ ((⟨g.1.2, fl.l ++ [q]⟩ : OwL Int).L 3 icell ++ [])))))))), fun _ => R, fun _ => 0⟩ : Head {g : Ow × Ow // (⟨g.1, rl.l ++ [rr]⟩ : OwL XRoad).ok 10 XRoad.cells ∧ (⟨g.2, fl.l ++ [q]⟩ : OwL Int).ok 1 icell})) ?_ ?_
     ·
      skip
      refine CJ_tree tb [] [0, 1, 2, 3, 6, 7, 8, 4, 5, 9, 10, 11, 12] [13, 14, 15] ([Blk.mk b14 _ _, Blk.mk b9 _ _, Blk.mk b5 _ _]) [] 13 mixed (by kernel_rfl) rfl rfl (by repeat (first | exact zs0 _ | exact zs1 _ | apply zs2 | apply zs3 | apply zs4 | apply zs5)) fun hT26 => ?_
      refine WZ_q 0 hT26 (List.nil_sublist _) (by kernel_rfl) rfl rfl rfl rfl rfl (yv_field tb rfl rfl rfl) ?_
      refine WZ_q 1 hT26 (List.nil_sublist _) (by kernel_rfl) rfl rfl rfl rfl rfl (yv_field tb rfl rfl rfl) ?_
      refine WZ_q 2 hT26 (List.nil_sublist _) (by kernel_rfl) rfl rfl rfl rfl rfl (yv_load1 tb rfl rfl rfl (by repeat (first | exact zi0 | apply zi1 | apply zi2)) (by rfl)) ?_
      refine WZ_q 3 hT26 (List.nil_sublist _) (by kernel_rfl) rfl rfl rfl rfl rfl (yv_loadN (row := [_, _, _, _, _, _, _, _, _, _]) tb rfl rfl rfl (by repeat (first | exact zi0 | apply zi1 | apply zi2)) (by rfl) (by rfl)) ?_
      refine WZ_q 6 hT26 (List.nil_sublist _) (by kernel_rfl) rfl rfl rfl rfl rfl (yv_field tb rfl rfl rfl) ?_
      refine WZ_q 7 hT26 (List.nil_sublist _) (by kernel_rfl) rfl rfl rfl rfl rfl (yv_load1 tb rfl rfl rfl (by repeat (first | exact zi0 | apply zi1 | apply zi2)) (by rfl)) ?_
      refine WZ_q 8 hT26 (List.nil_sublist _) (by kernel_rfl) rfl rfl rfl rfl rfl (yv_move (show _ = Value.int _ _ from rfl)) ?_
      refine WZ_branch [4, 9] hT26 (List.nil_sublist _) (by kernel_rfl) ?_
      refine WSteps_cons ?_ ?_
      ·
       skip
       refine qdn ?_
       rintro v L' R' ⟨b110, rfl, rfl, hR110⟩
       replace hR110 := hR110.symm; subst hR110
       refine qa1 ?_
       refine WZ_branch [5, 9] hT26 (List.nil_sublist _) (by kernel_rfl) ?_
       refine WSteps_cons ?_ ?_
       ·
        skip
        refine yaiaf ?_
        rintro v L' R' ⟨o111, rfl, hok111, rfl, rfl⟩
        refine qa1 ?_
        refine WZ_branch [9] hT26 (List.nil_sublist _) (by kernel_rfl) ?_
        refine qca ?_
        refine qdc ?_
        rintro v L' R' ⟨b115, rfl, rfl, hR115⟩
        replace hR115 := hR115.symm; subst hR115
        refine qa1 ?_
        refine WZ_branch [10] hT26 (List.nil_sublist _) (by kernel_rfl) ?_
        refine qca ?_
        refine yaiag ?_
        rintro v L' R' ⟨o116, rfl, hok116, rfl, rfl⟩
        refine qa1 ?_
        refine yaiah ?_
        refine yaiai ?_
        refine WZ_endL hT26 (List.nil_sublist _) (by kernel_rfl) rfl ?_
        refine qbw ?_
        refine qal ?_
        refine qbw ?_
        refine DJ_nil ?_
        exact q_j ⟨(o111, o116), hok111, hok116⟩
       refine qca ?_
       refine qdc ?_
       rintro v L' R' ⟨b115, rfl, rfl, hR115⟩
       replace hR115 := hR115.symm; subst hR115
       refine qa1 ?_
       refine WZ_branch [5] hT26 (List.nil_sublist _) (by kernel_rfl) ?_
       refine qca ?_
       refine yaiaf ?_
       rintro v L' R' ⟨o111, rfl, hok111, rfl, rfl⟩
       refine qa1 ?_
       refine WZ_branch [10] hT26 (List.nil_sublist _) (by kernel_rfl) ?_
       refine qca ?_
       refine yaiag ?_
       rintro v L' R' ⟨o116, rfl, hok116, rfl, rfl⟩
       refine qa1 ?_
       refine yaiah ?_
       refine yaiai ?_
       refine WZ_endL hT26 (List.nil_sublist _) (by kernel_rfl) rfl ?_
       refine qbw ?_
       refine qal ?_
       refine qbw ?_
       refine DJ_nil ?_
       exact q_j ⟨(o111, o116), hok111, hok116⟩
      refine qca ?_
      refine qdc ?_
      rintro v L' R' ⟨b115, rfl, rfl, hR115⟩
      replace hR115 := hR115.symm; subst hR115
      refine qa1 ?_
      refine WZ_branch [4] hT26 (List.nil_sublist _) (by kernel_rfl) ?_
      refine qca ?_
      refine qdn ?_
      rintro v L' R' ⟨b110, rfl, rfl, hR110⟩
      replace hR110 := hR110.symm; subst hR110
      refine qa1 ?_
      refine WZ_branch [5] hT26 (List.nil_sublist _) (by kernel_rfl) ?_
      refine qca ?_
      refine yaiaf ?_
      rintro v L' R' ⟨o111, rfl, hok111, rfl, rfl⟩
      refine qa1 ?_
      refine WZ_branch [10] hT26 (List.nil_sublist _) (by kernel_rfl) ?_
      refine qca ?_
      refine yaiag ?_
      rintro v L' R' ⟨o116, rfl, hok116, rfl, rfl⟩
      refine qa1 ?_
      refine yaiah ?_
      refine yaiai ?_
      refine WZ_endL hT26 (List.nil_sublist _) (by kernel_rfl) rfl ?_
      refine qbw ?_
      refine qal ?_
      refine qbw ?_
      refine DJ_nil ?_
      exact q_j ⟨(o111, o116), hok111, hok116⟩
     rintro ⟨⟨o111, o116⟩, hok111, hok116⟩ junk
     try dsimp only
     dsimp only at hok111 hok116
     refine qae ?_
     refine qbm ?_
     refine qab ?_
     refine qac ?_
     refine yaiau ?_
     refine LJ_q (yv_load1_ow tb ((⟨.own b75 pl.l.length [], nl⟩ : OwL Int)) rfl rfl rfl (by repeat (first | apply OSeg.cons | exact OSeg.here | exact OSeg.last | exact OSeg.at (by assumption) | apply OSeg.app)) (by assumption) (fun _ => rfl) (by assumption) (by rfl)) rfl ?_
     refine qaa ?_
     refine qar ?_
     refine yaiau ?_
     refine LJ_g0 (gives_store1_ow tb ((⟨.own b75 pl.l.length [], nl⟩ : OwL Int)) (nl.getD rr.fr.toNat 0 + q) rfl rfl rfl rfl (by repeat (first | apply OSeg.cons | exact OSeg.here | exact OSeg.last | exact OSeg.at (by assumption) | apply OSeg.app)) (by assumption) (fun _ => rfl) (by assumption) (by decide) (by rfl) (by rfl)) ?_
     rintro v L' R' ⟨rfl, rfl⟩
     refine qaf ?_
     have hokn2 := OwL.set_ok (f := icell) (wd := 1) (p := (⟨.own b75 pl.l.length [], nl⟩ : OwL Int)) (i := rr.fr.toNat) (x := nl.getD rr.fr.toNat 0 + q) (fun _ => rfl) hokn
     refine qay ?_
     refine qbm ?_
     refine qab ?_
     refine qac ?_
     refine yaiav ?_
     refine LJ_q (yv_load1_ow tb ((⟨.own b75 pl.l.length [], nl.set rr.fr.toNat (nl.getD rr.fr.toNat 0 + q)⟩ : OwL Int)) rfl rfl rfl (by repeat (first | apply OSeg.cons | exact OSeg.here | exact OSeg.last | exact OSeg.at (by assumption) | apply OSeg.app)) (by assumption) (fun _ => rfl) (by assumption) (by rfl)) rfl ?_
     refine qaa ?_
     refine qa9 ?_
     refine yaiav ?_
     refine LJ_g0 (gives_store1_ow tb ((⟨.own b75 pl.l.length [], nl.set rr.fr.toNat (nl.getD rr.fr.toNat 0 + q)⟩ : OwL Int)) ((nl.set rr.fr.toNat (nl.getD rr.fr.toNat 0 + q)).getD rr.to.toNat 0 - q) rfl rfl rfl rfl (by repeat (first | apply OSeg.cons | exact OSeg.here | exact OSeg.last | exact OSeg.at (by assumption) | apply OSeg.app)) (by assumption) (fun _ => rfl) (by assumption) (by decide) (by rfl) (by rfl)) ?_
     rintro v L' R' ⟨rfl, rfl⟩
     refine qcs ?_
     refine qaa ?_
     refine qa9 ?_
     refine qad ?_
     refine qav ?_
     exact q_k ⟨(k10, mm - 1, ⟨o111, _⟩, ⟨o116, _⟩, netStep nl rr q), hk10, ⟨hok111, hok116, OwL.set_ok (p := (⟨.own b75 pl.l.length [], nl.set rr.fr.toNat (nl.getD rr.fr.toNat 0 + q)⟩ : OwL Int)) (fun _ => rfl) hokn2⟩, hD.next (by omega) hG hq hcl⟩
    refine CJ_exit (seqK_exit (loopK_exit (blockK_exit ?_)))
    exact q_j ⟨(kk3, rl, fl, nl), hkk3, ⟨hokr, hokf, hokn⟩, mm, hD⟩
   refine CJ_skip ?_
   exact joinK_mk ⟨(kk2, OwL.nil, OwL.nil, List.replicate pl.l.length 0), hkk2, ⟨OwL.nil_ok, OwL.nil_ok, made_ok (fun _ => rfl) (by simp only [maxLen]; omega)⟩, 0, Drawn.zero (by omega)⟩ (by repeat (first | exact Off.refl | apply Off.upd rfl | apply Off.havoc rfl | apply Off.updL rfl | apply Off.left rfl)) (by repeat' (first | exact trivial | refine And.intro rfl ?_)) (by dsimp only; rw [nil_L, nil_L]; exact (by repeat (first | exact zs0 _ | exact zs1 _ | apply zs2 | apply zs3 | apply zs4 | apply zs5))) (allR_self _)
  rintro ⟨⟨kk4, rl, fl, nl⟩, hkk4, ⟨hokr, hokf, hokn⟩, mm, hD⟩ junk
  try dsimp only
  dsimp only at hkk4 hokr hokf hokn hD
  refine qbi ?_
  refine qaa ?_
  refine qad ?_
  refine qa2 ?_
  refine CJ_forget [(0, Value.pointer _), (2, Value.pointer _), (3, Value.pointer _), (4, Value.pointer _), (5, Value.pointer _), (6, Value.int _ _), (8, Value.int _ _), (9, Value.pointer _), (11, Value.slice _ _ _), (16, Value.int _ _)] (by repeat' (first | exact trivial | refine And.intro rfl ?_)) fun tq3 => ?_
  have hDl := hD.len
  have hDm := hD.m
  refine q_p [16, 17, 18, 137, 138, 139, 140, 141, 142, 143, 144, 145, 146, 147, 148, 149, 150, 151, 152, 153, 154, 155, 156, 157, 158, 159, 160, 161, 162, 163, 164, 165, 166, 167, 168, 169, 170, 171, 172, 173, 174, 175, 176] ((⟨fun g => [(16, .int .i64 ((g.1.2.1 : Nat) : Int))], fun g => (⟨.own b75 pl.l.length [], nl⟩ : OwL Int).L 3 icell ++ (⟨b9, [(⟨.own b60 pl.l.length [], pr⟩ : OwL Int).val, g.1.2.2.2.val], 42⟩ :: ((⟨.own b60 pl.l.length [], pr⟩ : OwL Int).L 3 icell ++ (cblk c x g.1.1 :: ⟨b5, [pl.val, g.1.2.2.1.val, .slice none 0 0, .slice none 0 0], 30⟩ :: (pl.L 126 XPlace.cells ++ (⟨b4, [.slice none 0 0, .slice none 0 0], 42⟩ :: ⟨b3, [.slice none 0 0, .slice none 0 0], 40⟩ :: ⟨b2, [.slice none 0 0, .slice none 0 0, .slice none 0 0, .slice none 0 0], 30⟩ ::  (g.1.2.2.1.L 111 XRoad.cells ++ (g.1.2.2.2.L 3 icell ++ []))))))), fun _ => R, fun g => pl.l.length - g.1.2.1⟩ : Head {g : Nat × Nat × OwL XRoad × OwL Int // g.1 ≤ x.l.length ∧ (pl0.l.length ≤ g.2.1 ∧ g.2.1 ≤ pl.l.length) ∧ (g.2.2.1.ok 10 XRoad.cells ∧ g.2.2.2.ok 1 icell) ∧ Shafted pl0.l.length pl.l.length g.2.1 nl g.2.2.1.l g.2.2.2.l})) (⟨(kk4, pl0.l.length, rl, fl), hkk4, ⟨Nat.le_refl _, by dsimp only; omega⟩, ⟨hokr, hokf⟩, hD.shafted _⟩) ?_
  rintro ⟨⟨kk5, j, rl, fl⟩, hkk5, ⟨hj1, hj2⟩, ⟨hokr2, hokf2⟩, hS⟩ junk
  try dsimp only
  dsimp only at hkk5 hj1 hj2 hokr2 hokf2 hS
  refine qbi ?_
  refine qaa ?_
  refine qaa ?_
  refine qaj ?_
  refine qaf ?_
  refine q_c (fun hc6 => ?_) (fun hc6 => ?_)
  ·
   have hSl := hS.len
   have hSr := hS.roads.len
   have hnj := get_D (l := nl) (k := j) 0 (by omega)
   have hnb := hD.small j
   refine CJ_skip (seqK_normal (CJ_seq (CJ_block (CJ_seq ?_))))
   refine CJ_drawn tb [0, 1, 2, 3, 6, 7, 8, 9, 10, 4, 5, 11, 12, 13] (((⟨.own b75 pl.l.length [], nl⟩ : OwL Int).L 3 icell ++ [])) mixed (by kernel_rfl) (by repeat (first | exact zs0 _ | exact zs1 _ | apply zs2 | apply zs3 | apply zs4 | apply zs5)) ?_
   refine qb8 ?_
   refine qao ?_
   refine qb8 ?_
   refine qao ?_
   refine DJ_q (yv_move (show _ = Value.slice _ _ _ from rfl)) rfl rfl rfl ?_
   refine qao ?_
   refine DJ_q (yv_index_ow tb ((⟨.own b75 pl.l.length [], nl⟩ : OwL Int)) _ rfl rfl ((show _ = Value.slice _ _ _ from rfl).trans (own_val hDl)) rfl (by assumption) (i := j) (by first | rfl | omega | (simp; omega)) (by first | omega | (dsimp only; omega) | (dsimp only; rw [List.length_set]; omega) | (dsimp only; simp only [List.length_set]; omega))) rfl rfl rfl ?_
   refine DJ_q (yv_load1_ow tb ((⟨.own b75 pl.l.length [], nl⟩ : OwL Int)) rfl rfl rfl (by repeat (first | apply OSeg.cons | exact OSeg.here | exact OSeg.last | exact OSeg.at (by assumption) | apply OSeg.app)) (by assumption) (fun _ => rfl) (by assumption) (by rfl)) rfl rfl rfl ?_
   refine DJ_q (yv_neg64 rfl (by omega) (by omega)) rfl rfl rfl ?_
   refine DJ_call rfl (next1 (by repeat (first | apply USeg.here | apply USeg.cons | apply USeg.app)) hx hkk5 (by omega)) rfl rfl ?_
   rintro v L' R' ⟨r9, k11, rfl, g9, g9', g9'', hk11, rfl, rfl⟩
   refine qas ?_
   have g9q := g9' (by omega)
   refine DJ_call rfl (road1 (by repeat (first | apply USeg.here | apply USeg.cons | apply USeg.app)) hx hk11) rfl rfl ?_
   rintro v L' R' ⟨rd, k12, rfl, hrd, hk12, rfl, rfl⟩
   refine qas ?_
   refine qbr ?_
   intro b17
   refine qbg ?_
   refine qcg ?_
   refine qc6 ?_
   refine qa6 ?_
   refine LJ_call rfl (one1 (by repeat (first | apply USeg.here | apply USeg.cons | apply USeg.app)) hx hk12 (by omega)) rfl ?_
   rintro v L' R' ⟨b, k13, rfl, hk13, rfl, rfl⟩
   have hf1 := hrd.fr
   have hf2 := hrd.to
   have hG1 : RoadG pl.l.length rd := ⟨⟨by omega, by omega, hrd.rest⟩, by omega, hrd.len, hrd.area⟩
   refine qaf ?_
   refine CJ_joinS [18, 155, 156, 157, 158, 159, 160, 161, 162] ((⟨fun g => [(18, .int .i64 g.1.2)], fun g => ⟨b17, g.1.1.cells, 111⟩ :: ((⟨.own b75 pl.l.length [], nl⟩ : OwL Int).L 3 icell ++ (⟨b9, [(⟨.own b60 pl.l.length [], pr⟩ : OwL Int).val, fl.val], 42⟩ :: ((⟨.own b60 pl.l.length [], pr⟩ : OwL Int).L 3 icell ++ (cblk c x k13 :: ⟨b5, [pl.val, rl.val, .slice none 0 0, .slice none 0 0], 30⟩ :: (pl.L 126 XPlace.cells ++ (⟨b4, [.slice none 0 0, .slice none 0 0], 42⟩ :: ⟨b3, [.slice none 0 0, .slice none 0 0], 40⟩ :: ⟨b2, [.slice none 0 0, .slice none 0 0, .slice none 0 0, .slice none 0 0], 30⟩ ::  (rl.L 111 XRoad.cells ++ (fl.L 3 icell ++ [])))))))), fun _ => R, fun _ => 0⟩ : Head {g : XRoad × Int // RoadG pl.l.length g.1 ∧ (-360 ≤ g.2 ∧ g.2 ≤ 360) ∧ g.1.closed = false ∧ ((g.1.fr = (j : Int) ∧ g.1.to < (pl0.l.length : Int) ∧ g.2 = -(nl.getD j 0)) ∨ (g.1.to = (j : Int) ∧ g.1.fr < (pl0.l.length : Int) ∧ g.2 = nl.getD j 0))})) ?_ ?_
   ·
    skip
    refine q_c (fun hc7 => ?_) (fun hc7 => ?_)
    ·
     refine qay ?_
     refine qab ?_
     refine qac ?_
     refine qab ?_
     refine qac ?_
     refine qaa ?_
     refine qcq ?_
     refine qab ?_
     refine qcn ?_
     refine qab ?_
     refine qcn ?_
     refine qad ?_
     refine qav ?_
     exact q_j ⟨({ rd with fr := rd.to, to := rd.fr }, - -(nl.getD j 0)), ⟨⟨hG1.d.to, hG1.d.fr, hrd.rest⟩, (fun h => hG1.ne h.symm), hrd.len, hrd.area⟩, by dsimp only; omega, hrd.closed, .inr ⟨hf1, by dsimp only; omega, by dsimp only; omega⟩⟩
    refine CJ_skip ?_
    exact q_j ⟨(rd, -(nl.getD j 0)), hG1, by dsimp only; omega, hrd.closed, .inl ⟨hf1, by dsimp only; omega, rfl⟩⟩
   rintro ⟨⟨rr, q⟩, hG, hq, hcl, hend⟩ junk
   try dsimp only
   dsimp only at hG hq hcl hend
   refine CJ_tree tb [] [0, 1, 2, 3, 6, 7, 8, 4, 5, 9, 10, 11, 12] [13, 14, 15] ([Blk.mk b17 _ _, Blk.mk b9 _ _, Blk.mk b5 _ _]) [] 13 mixed (by kernel_rfl) rfl rfl (by repeat (first | exact zs0 _ | exact zs1 _ | apply zs2 | apply zs3 | apply zs4 | apply zs5)) fun hT35 => ?_
   refine WZ_q 0 hT35 (List.nil_sublist _) (by kernel_rfl) rfl rfl rfl rfl rfl (yv_field tb rfl rfl rfl) ?_
   refine WZ_q 1 hT35 (List.nil_sublist _) (by kernel_rfl) rfl rfl rfl rfl rfl (yv_field tb rfl rfl rfl) ?_
   refine WZ_q 2 hT35 (List.nil_sublist _) (by kernel_rfl) rfl rfl rfl rfl rfl (yv_load1 tb rfl rfl rfl (by repeat (first | exact zi0 | apply zi1 | apply zi2)) (by rfl)) ?_
   refine WZ_q 3 hT35 (List.nil_sublist _) (by kernel_rfl) rfl rfl rfl rfl rfl (yv_loadN (row := [_, _, _, _, _, _, _, _, _, _]) tb rfl rfl rfl (by repeat (first | exact zi0 | apply zi1 | apply zi2)) (by rfl) (by rfl)) ?_
   refine WZ_q 6 hT35 (List.nil_sublist _) (by kernel_rfl) rfl rfl rfl rfl rfl (yv_field tb rfl rfl rfl) ?_
   refine WZ_q 7 hT35 (List.nil_sublist _) (by kernel_rfl) rfl rfl rfl rfl rfl (yv_load1 tb rfl rfl rfl (by repeat (first | exact zi0 | apply zi1 | apply zi2)) (by rfl)) ?_
   refine WZ_q 8 hT35 (List.nil_sublist _) (by kernel_rfl) rfl rfl rfl rfl rfl (yv_move (show _ = Value.int _ _ from rfl)) ?_
   refine WZ_branch [4, 9] hT35 (List.nil_sublist _) (by kernel_rfl) ?_
   refine WSteps_cons ?_ ?_
   ·
    skip
    refine qdn ?_
    rintro v L' R' ⟨b167, rfl, rfl, hR167⟩
    replace hR167 := hR167.symm; subst hR167
    refine qa1 ?_
    refine WZ_branch [5, 9] hT35 (List.nil_sublist _) (by kernel_rfl) ?_
    refine WSteps_cons ?_ ?_
    ·
     skip
     refine yaiaj ?_
     rintro v L' R' ⟨o168, rfl, hok168, rfl, rfl⟩
     refine qa1 ?_
     refine WZ_branch [9] hT35 (List.nil_sublist _) (by kernel_rfl) ?_
     refine qca ?_
     refine qdc ?_
     rintro v L' R' ⟨b172, rfl, rfl, hR172⟩
     replace hR172 := hR172.symm; subst hR172
     refine qa1 ?_
     refine WZ_branch [10] hT35 (List.nil_sublist _) (by kernel_rfl) ?_
     refine qca ?_
     refine yaiak ?_
     rintro v L' R' ⟨o173, rfl, hok173, rfl, rfl⟩
     refine qa1 ?_
     refine yaial ?_
     refine yaiam ?_
     refine WZ_endL hT35 (List.nil_sublist _) (by kernel_rfl) rfl ?_
     refine qbw ?_
     refine qal ?_
     refine qbw ?_
     refine qby ?_
     refine qaa ?_
     refine qar ?_
     refine qad ?_
     refine qav ?_
     exact q_k ⟨(k13, j + 1, ⟨o168, _⟩, ⟨o173, _⟩), hk13, ⟨by dsimp only; omega, by dsimp only; omega⟩, ⟨hok168, hok173⟩, hS.next hj1 hG hq hcl hend⟩
    refine qca ?_
    refine qdc ?_
    rintro v L' R' ⟨b172, rfl, rfl, hR172⟩
    replace hR172 := hR172.symm; subst hR172
    refine qa1 ?_
    refine WZ_branch [5] hT35 (List.nil_sublist _) (by kernel_rfl) ?_
    refine qca ?_
    refine yaiaj ?_
    rintro v L' R' ⟨o168, rfl, hok168, rfl, rfl⟩
    refine qa1 ?_
    refine WZ_branch [10] hT35 (List.nil_sublist _) (by kernel_rfl) ?_
    refine qca ?_
    refine yaiak ?_
    rintro v L' R' ⟨o173, rfl, hok173, rfl, rfl⟩
    refine qa1 ?_
    refine yaial ?_
    refine yaiam ?_
    refine WZ_endL hT35 (List.nil_sublist _) (by kernel_rfl) rfl ?_
    refine qbw ?_
    refine qal ?_
    refine qbw ?_
    refine qby ?_
    refine qaa ?_
    refine qar ?_
    refine qad ?_
    refine qav ?_
    exact q_k ⟨(k13, j + 1, ⟨o168, _⟩, ⟨o173, _⟩), hk13, ⟨by dsimp only; omega, by dsimp only; omega⟩, ⟨hok168, hok173⟩, hS.next hj1 hG hq hcl hend⟩
   refine qca ?_
   refine qdc ?_
   rintro v L' R' ⟨b172, rfl, rfl, hR172⟩
   replace hR172 := hR172.symm; subst hR172
   refine qa1 ?_
   refine WZ_branch [4] hT35 (List.nil_sublist _) (by kernel_rfl) ?_
   refine qca ?_
   refine qdn ?_
   rintro v L' R' ⟨b167, rfl, rfl, hR167⟩
   replace hR167 := hR167.symm; subst hR167
   refine qa1 ?_
   refine WZ_branch [5] hT35 (List.nil_sublist _) (by kernel_rfl) ?_
   refine qca ?_
   refine yaiaj ?_
   rintro v L' R' ⟨o168, rfl, hok168, rfl, rfl⟩
   refine qa1 ?_
   refine WZ_branch [10] hT35 (List.nil_sublist _) (by kernel_rfl) ?_
   refine qca ?_
   refine yaiak ?_
   rintro v L' R' ⟨o173, rfl, hok173, rfl, rfl⟩
   refine qa1 ?_
   refine yaial ?_
   refine yaiam ?_
   refine WZ_endL hT35 (List.nil_sublist _) (by kernel_rfl) rfl ?_
   refine qbw ?_
   refine qal ?_
   refine qbw ?_
   refine qby ?_
   refine qaa ?_
   refine qar ?_
   refine qad ?_
   refine qav ?_
   exact q_k ⟨(k13, j + 1, ⟨o168, _⟩, ⟨o173, _⟩), hk13, ⟨by dsimp only; omega, by dsimp only; omega⟩, ⟨hok168, hok173⟩, hS.next hj1 hG hq hcl hend⟩
  obtain rfl : j = pl.l.length := by omega
  have hSl := hS.len
  have hSr := hS.roads.len
  have hprl := hPr.len
  refine qbk ?_
  refine qa6 ?_
  refine LJ_call rfl (Tri.spl (.appB (.consB (.appB (.consL (.consL (.appB (.consB (.consB (.consB (.appB (.appB .nil))))))))))) (equipped_tri c b5 x kk5 rl.l.length rl.o.cap pl.val rl.o.addr R hx hkk5 (by omega))) rfl ?_
  rintro v L' R' ⟨L1, rfl, fans, doors, sf, sd, k14, S, rfl, ⟨ho1, ho2, ho3, ho4⟩, hFD, hDD, hif, hid, hk14, rfl, rfl⟩
  simp only [List.append_assoc, List.cons_append, List.nil_append]
  have hxs : CodesR x (S ++ R) := hx.mono fun r h => inR_self (by simp [h])
  have hFm := hFD.m
  have hDm2 := hDD.m
  have hFl := hFD.len
  have hDl2 := hDD.len
  refine qaq ?_
  intro b19
  refine qak ?_
  refine qam ?_
  refine qa6 ?_
  refine qbe ?_
  refine qbe ?_
  refine LJ_call rfl (fit_lent (n := rl.l.length) (pres := (⟨.own b60 pl.l.length [], pr⟩ : OwL Int)) ⟨pl.arr, rl.arr⟩ (.consB (.appB (.consB (.appB (.appB (.consB (.consB (.consB (.appL (.appB (.consL (.consL (.appB (.appB (.appB (.appB .nil)))))))))))))))) (by repeat (first | exact inB_here | apply inB_cons | apply inB_app)) (by repeat (first | exact inB_here | apply inB_cons | apply inB_app)) (by repeat (first | exact inB_here | apply inB_cons | apply inB_app)) (by repeat (first | exact inB_here | apply inB_cons | apply inB_app)) (by repeat (first | exact inB_here | apply inB_cons | apply inB_app)) (by repeat (first | exact inB_here | apply inB_cons | apply inB_app)) ho1 ho2 ho3 ho4 hokp hokf2 (fun f hf => (hif f hf).mono fun r hr => inR_self (by simp [hr])) (fun d hd => (hid d hd).mono fun r hr => inR_self (by simp [hr])) hxs hk14 hokr2 hFD hDD hSr.symm (by omega) hS.roads.flow (fun i p hp => (hPr.val i p hp).1) (fun i r hr => by dsimp only; rw [hprl]; exact (hS.roads.road i r hr).d)) rfl ?_
  rintro v L' R' ⟨rl', k15, rfl, hFI, hk15, rfl, rfl⟩
  simp only [List.append_assoc, List.cons_append, List.nil_append]
  have hrv : rl.val = (⟨rl.o, rl'⟩ : OwL XRoad).val := by simp only [OwL.val, hFI.len]
  refine qa4 ?_
  rw [hrv]
  refine CJ_drawn2 tb [188] [0, 1, 2, 3, 5, 4] [6, 7, 8] ([Blk.mk b19 _ _, Blk.mk b9 _ _, Blk.mk b5 _ _]) _ mixed (by kernel_rfl) (by repeat (first | exact zs0 _ | exact zs1 _ | apply zs2 | apply zs3 | apply zs4 | apply zs5)) (by (repeat (first | apply List.Sublist.cons (a := Blk.mk b2 _ _) | apply List.Sublist.cons (a := Blk.mk b3 _ _) | apply List.Sublist.cons (a := Blk.mk b4 _ _) | apply List.Sublist.cons_cons)); exact List.Sublist.refl _) ?_
  refine qde ?_
  refine qb3 ?_
  refine qde ?_
  refine DJ3_q (yv_loadN (row := [_, _]) tb rfl rfl rfl (by repeat (first | exact zi0 | apply zi1 | apply zi2)) (by rfl) (by rfl)) rfl rfl rfl rfl ?_
  refine DJ3_ql (yv_loadN (row := [_, _]) tb rfl rfl rfl (by repeat (first | exact zi0 | apply zi1 | apply zi2)) (by rfl) (by rfl)) rfl rfl rfl rfl ?_
  refine DJ3_call rfl (doubts_lent (a := ⟨⟨pl.arr, (⟨rl.o, rl'⟩ : OwL XRoad).arr⟩, fans.arr, doors.arr⟩) (.consB (.appB (.consB (.appB (.appB (.consB (.consB (.consB (.appB (.appB (.appB (.appB (.appB (.consL (.consB (.appB .nil)))))))))))))))) (by repeat (first | exact inB_here | apply inB_cons | apply inB_app)) (by repeat (first | exact inB_here | apply inB_cons | apply inB_app)) ho3 ho4 hxs hk15 (by omega) (by omega)) rfl rfl ?_
  rintro v L' R' ⟨tf, td, k16, rfl, ⟨ht1, ht2⟩, hdf, hdd, hk16, rfl, rfl⟩
  simp only [List.append_assoc, List.cons_append, List.nil_append]
  refine qas ?_
  refine qba ?_
  iterate 3 refine qbg ?_
  refine DJ_nil (seqK_normal (CJ_ret ?_))
  refine q_r (L' := MadeO.L ⟨pl, ⟨rl.o, rl'⟩, fans, doors, tf, td, (⟨.own b60 pl.l.length [], pr⟩ : OwL Int), fl⟩ (cblk c x k16)) (R' := S ++ R) (res3 rfl (rv_cell (row := [_, _, _, _]) tb rfl rfl rfl (by repeat (first | exact zi0 | apply zi1 | apply zi2)) (by rfl) (by rfl)) (rv_cell (row := [_, _]) tb rfl rfl rfl (by repeat (first | exact zi0 | apply zi1 | apply zi2)) (by rfl) (by rfl)) (rv_cell (row := [_, _]) tb rfl rfl rfl (by repeat (first | exact zi0 | apply zi1 | apply zi2)) (by rfl) (by rfl))) ?_
  have hMA := madeA_of (a := MadeO.a ⟨pl, ⟨rl.o, rl'⟩, fans, doors, tf, td, (⟨.own b60 pl.l.length [], pr⟩ : OwL Int), fl⟩) (s := ⟨sf.arr, sd.arr⟩) (t := MadeO.t ⟨pl, ⟨rl.o, rl'⟩, fans, doors, tf, td, (⟨.own b60 pl.l.length [], pr⟩ : OwL Int), fl⟩) (x := MadeO.x ⟨pl, ⟨rl.o, rl'⟩, fans, doors, tf, td, (⟨.own b60 pl.l.length [], pr⟩ : OwL Int), fl⟩) hP hPr hS hFD hDD ⟨hFI.len, hFI.done, hFI.todo⟩ hdf hdd
  exact ⟨⟨pl, ⟨rl.o, rl'⟩, fans, doors, tf, td, (⟨.own b60 pl.l.length [], pr⟩ : OwL Int), fl⟩, k16, S, rfl, ⟨hok, OwL.len_ok (fun _ => rfl) hokr2 hFI.len, ho1, ho2, ht1, ht2, hokp, hokf2⟩, hMA, hif, hid, hk16, rfl, rfl⟩
end Go.Proofs.Ytkpfjmibipblhaa

end
section
namespace Go.Proofs.Ytkpfjmibipblhaa
open Go.Aw Go
set_option maxRecDepth 20000
attribute [local irreducible] CJ LJ DJ Tri YV Gives seqK blockK loopK retK RV mergeK OwL.L

abbrev codes300 (y : Arr Int) : Arr Int := ⟨y.a, y.cap, y.l.take 300⟩

theorem new_tri (y : Arr Int) (L : List Blk) (R : List Sl) (hy : CodesR y R) :
    Tri Try.prog 12 [y.val].toArray L R (fun v L' R' => ∃ c, v = .pointer (some ⟨c, 0, none⟩) ∧ CodesR (codes300 y) R' ∧ cblk c (codes300 y) 0 :: L = L' ∧ bsl (codes300 y) :: R = R') := by
  have hsl := hy.sl
  refine Tri_cap Try.call12 hsl fun hyn => ?_
  refine tri_enter 10 Try.call12 Try.func12 rfl rfl rfl ?_
  refine qae ?_
  refine qc1 ?_
  refine qa4 ?_
  refine CJ_takeA 300 hsl ?_
  refine qay ?_
  refine qbm ?_
  refine qbm ?_
  refine qag ?_
  refine LJ_q (yv_min2 rfl rfl) rfl ?_
  refine LJ_q (yv_slice_h tb rfl rfl rfl rfl (n := (y.l.take 300).length) (by rw [List.length_take]; omega) (by rw [List.length_take]; omega)) rfl ?_
  refine yaiae ?_
  refine qax ?_
  intro b9
  refine qc1 ?_
  refine qa0 ?_
  refine q_r (L' := cblk b9 (codes300 y) 0 :: L) (R' := bsl (codes300 y) :: R) (res1 rfl (rv_tmp (show _ = Value.pointer _ from rfl))) ?_
  exact ⟨b9, rfl, ⟨inR_self (by simp), fun i b hb => by rw [List.getElem?_take] at hb; split at hb; exact hy.byte i b hb; cases hb⟩, rfl, rfl⟩

theorem made1 {c : Nat} {x : Arr Int} {k : Nat} {L B : List Blk} {R : List Sl} (hu : Spl L B [cblk c x k]) (hx : CodesR x R) (hk : k ≤ x.l.length) :
    Tri Try.prog 47 [.pointer (some ⟨c, 0, none⟩)].toArray L R
      (fun v L' R' => ∃ (m : MadeO) (k' : Nat) (S : List Sl), v = .tuple #[m.a.val, m.t.val, m.x.val] ∧ m.Ok ∧ MadeA m.a m.t m.x ∧ (∀ f ∈ m.fans.l, InR f.sl S) ∧ (∀ d ∈ m.doors.l, InR d.sl S) ∧ k' ≤ x.l.length ∧ B ++ m.L (cblk c x k') = L' ∧ S ++ R = R') :=
  (Tri.spl hu (made_tri c x k R hx hk)).mono fun v L'' R' ⟨L', e, m, k', S, h1, h2, h3, h4, h5, h6, h7, h8⟩ => ⟨m, k', S, h1, h2, h3, h4, h5, h6, by rw [h7]; exact e, h8⟩
end Go.Proofs.Ytkpfjmibipblhaa

end
section
namespace Go.Proofs.Ytkpfjmibipblhaa
open Go.Aw Go
set_option maxRecDepth 20000
attribute [local irreducible] CJ LJ DJ Tri YV Gives seqK blockK loopK retK RV mergeK OwL.L

end Go.Proofs.Ytkpfjmibipblhaa

end
