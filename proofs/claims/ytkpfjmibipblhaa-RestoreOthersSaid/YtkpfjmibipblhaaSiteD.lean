import Derived.Test.YtkpfjmibipblhaaRestR
import Derived.Test.YtkpfjmibipblhaaRule
import Derived.Test.YtkpfjmibipblhaaData
import Derived.Test.YtkpfjmibipblhaaOwn
import Derived.Test.YtkpfjmibipblhaaWinR
import Derived.Test.YtkpfjmibipblhaaNarrow
section
/-
  Restoring power: Ready, Ask and Confirm. By an AI agent; no person has read it.
-/
set_option linter.unusedSimpArgs false
set_option linter.unusedVariables false
namespace Go.Proofs.Ytkpfjmibipblhaa
open Go.Aw Go
set_option maxRecDepth 20000
attribute [local irreducible] CJ LJ DJ Tri YV Gives seqK blockK loopK retK RV mergeK OwL.L
section
variable {A9 B9 : Prop}
theorem ybraa (a : A9) (h : A9 → B9 := by exact LJ_q (yv_loadN (row := [_, _, _, _, _]) tb rfl rfl rfl (by repeat (first | exact zi0 | apply zi1 | apply zi2)) (by rfl) (by rfl)) rfl) : B9 := h a
theorem ybrab (a : A9) (h : A9 → B9 := by exact LJ_q (yv_loadN (row := [_, _, _, _, _, _, _, _]) tb rfl rfl rfl (by repeat (first | exact zi0 | apply zi1 | apply zi2)) (by rfl) (by rfl)) rfl) : B9 := h a
end
structure XRest where
  zone : Int
  first : Int
  second : Int
  step : Int
  time : Int
  deriving DecidableEq
def XRest.cells (x : XRest) : List Value := [.int .i64 x.zone, .int .i64 x.first, .int .i64 x.second, .int .i64 x.step, .int .i64 x.time]
abbrev XRest.val (x : XRest) : Value := .agg #[.int .i64 x.zone, .int .i64 x.first, .int .i64 x.second, .int .i64 x.step, .int .i64 x.time]
def noRest : XRest := ⟨-1, -1, -1, 0, 0⟩
def sharedE (s : XSite) (nc nf : Nat) (t : Int) : Int := if siteErr s ≠ 0 then siteErr s else if ¬ (nc = s.zones.l.length ∧ nf = s.air.mine.roads.l.length) then 11 else if t < 0 ∨ 2147483648 < t then 8 else 0
theorem restCheck_tri (s : XSite) (c : Arr XCut) (fl : Arr XSpan) (t : Int) (L : List Blk) (R : List Sl) (h : RestA s c fl R) :
    Tri Try.prog 75 [s.val, c.val, fl.val, .int .i64 t].toArray L R (fun v L' R' => v = .int .i64 (sharedE s c.l.length fl.l.length t) ∧ L = L' ∧ R = R') := by
  refine tri_enter 37 Try.call75 Try.func75 rfl rfl rfl ?_
  refine qae ?_
  refine qax ?_
  intro b4
  refine qad ?_
  refine qaw ?_
  refine ybrab ?_
  refine q_l rfl (siteCheck_tri s _ _ h.site) ?_
  refine qad ?_
  refine qam ?_
  refine qaa ?_
  refine qbq ?_
  refine qaf ?_
  refine q_c (fun hc0 => ?_) (fun hc0 => ?_)
  ·
   refine qae ?_
   refine qaa ?_
   refine qad ?_
   refine qbh ?_
   refine q_i (L' := L) (R' := R) ?_
   exact ⟨by rw [sharedE, if_pos hc0], rfl, rfl⟩
  refine qbo ?_
  refine qbm ?_
  refine qag ?_
  refine qab ?_
  refine qac ?_
  refine qag ?_
  refine qbq ?_
  refine qah ?_
  apply LJ_or (G := [_, _, _, _, _, _, _, _]) (j := 6) (cj := 21) rfl rfl (by rfl) rfl (show _ = Value.bool _ from rfl) rfl
  ·
   intro hg7
   replace hg7 := qb hg7
   refine qbm ?_
   refine qag ?_
   iterate 3 refine qab ?_
   refine qac ?_
   refine qag ?_
   refine qbq ?_
   exact qai
  intro junk7
  refine qaf ?_
  refine q_c (fun hc1 => ?_) (fun hc1 => ?_)
  ·
   refine qae ?_
   refine qad ?_
   refine qbh ?_
   refine q_i (L' := L) (R' := R) ?_
   exact ⟨by rw [sharedE, if_neg (by omega), if_pos (by omega)], rfl, rfl⟩
  refine qbo ?_
  refine qaa ?_
  refine qaj ?_
  refine qah ?_
  apply LJ_or (G := [_, _]) (j := 2) (cj := 33) rfl rfl (by rfl) rfl (show _ = Value.bool _ from rfl) rfl
  ·
   intro hg3
   replace hg3 := qb hg3
   refine qaa ?_
   refine qa5 ?_
   exact qai
  intro junk3
  refine qaf ?_
  refine q_c (fun hc2 => ?_) (fun hc2 => ?_)
  ·
   refine qae ?_
   refine qad ?_
   refine qbh ?_
   refine q_i (L' := L) (R' := R) ?_
   exact ⟨by rw [sharedE, if_neg (by omega), if_neg (by omega), if_pos (by omega)], rfl, rfl⟩
  refine qbv ?_
  refine qad ?_
  refine qa0 ?_
  refine q_i (L' := L) (R' := R) ?_
  exact ⟨by rw [sharedE, if_neg (by omega), if_neg (by omega), if_neg (by omega)], rfl, rfl⟩

theorem shared_ok {s : XSite} {nc nf : Nat} {t : Int} (h : sharedE s nc nf t = 0) : SiteOk s ∧ (nc = s.zones.l.length ∧ nf = s.air.mine.roads.l.length) ∧ 0 ≤ t ∧ t ≤ 2147483648 := by
  rw [sharedE] at h
  split at h
  · omega
  rename_i h1
  split at h
  · omega
  split at h
  · omega
  exact ⟨siteOk_of (Decidable.not_not.1 h1), by omega, by omega⟩
def readyF (s : XSite) (c : List XCut) (fl : List XSpan) (k t : Int) : Int := if sharedE s c.length fl.length t ≠ 0 then sharedE s c.length fl.length t else readyE s c fl k t
theorem Ready_tri (s : XSite) (c : Arr XCut) (fl : Arr XSpan) (k t : Int) (L : List Blk) (R : List Sl) (h : RestA s c fl R) :
    Tri Try.prog 29 [s.val, c.val, fl.val, .int .i64 k, .int .i64 t].toArray L R (fun v L' R' => v = .int .i64 (readyF s c.l fl.l k t) ∧ L = L' ∧ R = R') := by
  refine tri_enter 26 Try.call29 Try.func29 rfl rfl rfl ?_
  refine qae ?_
  refine qax ?_
  intro b5
  refine qad ?_
  refine qaw ?_
  refine ybrab ?_
  refine qbm ?_
  refine qbm ?_
  refine qaa ?_
  refine q_l rfl (restCheck_tri s c fl t _ _ h) ?_
  refine qad ?_
  refine qam ?_
  refine qaa ?_
  refine qbq ?_
  refine qaf ?_
  refine q_c (fun hc0 => ?_) (fun hc0 => ?_)
  ·
   refine qae ?_
   refine qaa ?_
   refine qad ?_
   refine qbh ?_
   refine q_i (L' := L) (R' := R) ?_
   exact ⟨by rw [readyF, if_pos hc0], rfl, rfl⟩
  obtain ⟨hok, hln, ht⟩ := shared_ok (s := s) (nc := c.l.length) (nf := fl.l.length) (t := t) (by omega)
  refine qbv ?_
  refine ybrab ?_
  refine qbm ?_
  refine qbm ?_
  refine qaa ?_
  refine qaa ?_
  refine q_l rfl (ready_tri s c fl k t _ _ h hok hln ht) ?_
  refine qad ?_
  refine qa0 ?_
  refine q_i (L' := L) (R' := R) ?_
  exact ⟨by rw [readyF, if_neg hc0], rfl, rfl⟩
theorem None_tri (L : List Blk) (R : List Sl) : Tri Try.prog 31 ([] : List Value).toArray L R (fun v L' R' => v = noRest.val ∧ L = L' ∧ R = R') := by
  refine tri_enter 2 Try.call31 Try.func31 rfl rfl rfl ?_
  refine qae ?_
  refine qaq ?_
  intro b0
  refine qam ?_
  refine LJ_q (yv_build (qs := [(0, (Value.int _ _).cells.toList), (1, (Value.int _ _).cells.toList), (2, (Value.int _ _).cells.toList)]) (out := [_, _, _, _, _]) tb rfl rfl rfl rfl) rfl ?_
  refine qak ?_
  refine qa0 ?_
  refine q_r (L' := L) (R' := R) (res1 rfl (rv_cell (row := [_, _, _, _, _]) tb rfl rfl rfl (by repeat (first | exact zi0 | apply zi1 | apply zi2)) (by rfl) (by rfl))) ?_
  exact ⟨rfl, rfl, rfl⟩
def askE (s : XSite) (c : List XCut) (fl : List XSpan) (r : XRest) (p k t : Int) : Int :=
  if sharedE s c.length fl.length t ≠ 0 then sharedE s c.length fl.length t
  else if r.zone ≠ -1 then 10
  else if p < 0 ∨ (s.persons.l.length : Int) ≤ p ∨ s.persons.l.getD p.toNat 0 ≠ 1 then 19
  else readyE s c fl k t
def askR (s : XSite) (c : List XCut) (fl : List XSpan) (r : XRest) (p k t : Int) : XRest := if askE s c fl r p k t = 0 then ⟨k, p, -1, 1, t⟩ else r
theorem ask_err {s : XSite} {c : List XCut} {fl : List XSpan} {r : XRest} {p k t e : Int} (h : askE s c fl r p k t = e) (he : e ≠ 0) : askR s c fl r p k t = r := by rw [askR, if_neg (by omega)]
theorem Ask_tri (s : XSite) (c : Arr XCut) (fl : Arr XSpan) (r : XRest) (p k t : Int) (L : List Blk) (R : List Sl) (h : RestA s c fl R) :
    Tri Try.prog 33 [s.val, c.val, fl.val, r.val, .int .i64 p, .int .i64 k, .int .i64 t].toArray L R (fun v L' R' => v = .tuple #[(askR s c.l fl.l r p k t).val, .int .i64 (askE s c.l fl.l r p k t)] ∧ L = L' ∧ R = R') := by
  have hpR := h.site.persons
  refine tri_enter 64 Try.call33 Try.func33 rfl rfl rfl ?_
  refine qae ?_
  refine qax ?_
  intro b7
  refine qax ?_
  intro b10
  refine qaq ?_
  intro b14
  refine qad ?_
  refine qaw ?_
  refine ybrab ?_
  refine qbm ?_
  refine qbm ?_
  refine qaa ?_
  refine q_l rfl (restCheck_tri s c fl t _ _ h) ?_
  refine qad ?_
  refine qam ?_
  refine qaa ?_
  refine qbq ?_
  refine qaf ?_
  refine q_c (fun hc0 => ?_) (fun hc0 => ?_)
  ·
   refine qae ?_
   refine ybraa ?_
   refine qaa ?_
   refine qak ?_
   refine qad ?_
   refine qbh ?_
   refine q_r (L' := L) (R' := R) (res2 rfl (rv_cell (row := [_, _, _, _, _]) tb rfl rfl rfl (by repeat (first | exact zi0 | apply zi1 | apply zi2)) (by rfl) (by rfl)) (rv_tmp (show _ = Value.int _ _ from rfl))) ?_
   have he : askE s c.l fl.l r p k t = sharedE s c.l.length fl.l.length t := by rw [askE, if_pos hc0]
   exact ⟨by rw [ask_err he hc0, he], rfl, rfl⟩
  obtain ⟨hok, hln, ht⟩ := shared_ok (s := s) (nc := c.l.length) (nf := fl.l.length) (t := t) (by omega)
  refine qbo ?_
  refine qab ?_
  refine qac ?_
  refine qbq ?_
  refine qaf ?_
  refine q_c (fun hc1 => ?_) (fun hc1 => ?_)
  ·
   refine qae ?_
   refine ybraa ?_
   refine qak ?_
   refine qad ?_
   refine qbh ?_
   refine q_r (L' := L) (R' := R) (res2 rfl (rv_cell (row := [_, _, _, _, _]) tb rfl rfl rfl (by repeat (first | exact zi0 | apply zi1 | apply zi2)) (by rfl) (by rfl)) (rv_tmp (show _ = Value.int _ _ from rfl))) ?_
   have he : askE s c.l fl.l r p k t = 10 := by rw [askE, if_neg hc0, if_pos hc1]
   exact ⟨by rw [ask_err he (by omega), he], rfl, rfl⟩
  refine qbo ?_
  refine qaa ?_
  refine qaj ?_
  refine qah ?_
  apply LJ_or (G := [_, _, _, _, _]) (j := 2) (cj := 33) rfl rfl (by rfl) rfl (show _ = Value.bool _ from rfl) rfl
  ·
   intro hg3
   replace hg3 := qb hg3
   refine qaa ?_
   refine qab ?_
   refine qac ?_
   refine qag ?_
   refine qbz ?_
   exact qai
  intro junk3
  refine qah ?_
  apply LJ_or (G := [_, _, _, _, _, _, _]) (j := 9) (cj := 40) rfl rfl (by rfl) rfl (show _ = Value.bool _ from rfl) rfl
  ·
   intro hg10
   replace hg10 := qb hg10
   have hpg := get_D (l := s.persons.l) (k := p.toNat) 0 (by omega)
   refine qab ?_
   refine qac ?_
   refine qaa ?_
   refine LJ_q (by first | exact yv_index_ro tb rfl rfl rfl rfl (by first | assumption | exact zr (by simp)) (i := p.toNat) (by first | rfl | omega | (simp; omega)) (by omega) | exact yv_index tb rfl rfl rfl rfl (i := p.toNat) (by first | rfl | omega | (simp; omega)) (by omega)) rfl ?_
   refine qb0 ?_
   refine qa7 ?_
   refine qbq ?_
   exact qai
  intro junk10
  refine qaf ?_
  refine q_c (fun hc2 => ?_) (fun hc2 => ?_)
  ·
   refine qae ?_
   refine ybraa ?_
   refine qak ?_
   refine qad ?_
   refine qbh ?_
   refine q_r (L' := L) (R' := R) (res2 rfl (rv_cell (row := [_, _, _, _, _]) tb rfl rfl rfl (by repeat (first | exact zi0 | apply zi1 | apply zi2)) (by rfl) (by rfl)) (rv_tmp (show _ = Value.int _ _ from rfl))) ?_
   have he : askE s c.l fl.l r p k t = 19 := by rw [askE, if_neg hc0, if_neg hc1, if_pos (by omega)]
   exact ⟨by rw [ask_err he (by omega), he], rfl, rfl⟩
  have he : askE s c.l fl.l r p k t = readyE s c.l fl.l k t := by rw [askE, if_neg hc0, if_neg hc1, if_neg (by omega)]
  refine qbo ?_
  refine ybrab ?_
  refine qbm ?_
  refine qbm ?_
  refine qaa ?_
  refine qaa ?_
  refine q_l rfl (ready_tri s c fl k t _ _ h hok hln ht) ?_
  refine qad ?_
  refine qam ?_
  refine qaa ?_
  refine qbq ?_
  refine qaf ?_
  refine q_c (fun hc3 => ?_) (fun hc3 => ?_)
  ·
   refine qae ?_
   refine ybraa ?_
   refine qaa ?_
   refine qak ?_
   refine qad ?_
   refine qbh ?_
   refine q_r (L' := L) (R' := R) (res2 rfl (rv_cell (row := [_, _, _, _, _]) tb rfl rfl rfl (by repeat (first | exact zi0 | apply zi1 | apply zi2)) (by rfl) (by rfl)) (rv_tmp (show _ = Value.int _ _ from rfl))) ?_
   exact ⟨by rw [ask_err he hc3, he], rfl, rfl⟩
  refine qbv ?_
  iterate 3 refine qaa ?_
  refine LJ_q (yv_build (qs := [(0, (Value.int _ _).cells.toList), (1, (Value.int _ _).cells.toList), (2, (Value.int _ _).cells.toList), (3, (Value.int _ _).cells.toList), (4, (Value.int _ _).cells.toList)]) (out := [_, _, _, _, _]) tb rfl rfl rfl rfl) rfl ?_
  refine qak ?_
  refine qad ?_
  refine qa0 ?_
  refine q_r (L' := L) (R' := R) (res2 rfl (rv_cell (row := [_, _, _, _, _]) tb rfl rfl rfl (by repeat (first | exact zi0 | apply zi1 | apply zi2)) (by rfl) (by rfl)) (rv_tmp (show _ = Value.int _ _ from rfl))) ?_
  exact ⟨by rw [askR, if_pos (by omega), he, show readyE s c.l fl.l k t = 0 by omega], rfl, rfl⟩
def LateR (r : XRest) (t : Int) : Prop := t < r.time ∨ r.time < t - 600
instance (r : XRest) (t : Int) : Decidable (LateR r t) := by unfold LateR; infer_instance
theorem late_tri (r : XRest) (t : Int) (L : List Blk) (R : List Sl) (ht : 0 ≤ t ∧ t ≤ 2147483648) :
    Tri Try.prog 79 [r.val, .int .i64 t].toArray L R (fun v L' R' => v = .bool (decide (LateR r t)) ∧ L = L' ∧ R = R') := by
  refine tri_enter 16 Try.call79 Try.func79 rfl rfl rfl ?_
  refine qae ?_
  refine qax ?_
  intro b2
  refine qaz ?_
  refine qam ?_
  refine qaa ?_
  refine qab ?_
  refine qac ?_
  refine qaj ?_
  refine qah ?_
  apply LJ_or (G := [_, _, _, _, _]) (j := 4) (cj := 9) rfl rfl (by rfl) rfl (show _ = Value.bool _ from rfl) rfl
  ·
   intro hg5
   replace hg5 := qb hg5
   refine qab ?_
   refine qac ?_
   refine qaa ?_
   refine qa9 ?_
   refine qaj ?_
   exact qai
  intro junk5
  refine qaz ?_
  refine qa0 ?_
  refine q_b (L' := L) (R' := R) ?_
  exact ⟨by refine congrArg Value.bool ?_; rw [Bool.eq_iff_iff, decide_eq_true_iff (p := LateR r t), LateR]; simp, rfl, rfl⟩
def BadPair (s : XSite) (r : XRest) (p : Int) : Prop :=
  p < 0 ∨ (s.persons.l.length : Int) ≤ p ∨ p = r.first ∨ r.first < 0 ∨ (s.persons.l.length : Int) ≤ r.first ∨ s.persons.l.getD p.toNat 0 = s.persons.l.getD r.first.toNat 0
instance (s : XSite) (r : XRest) (p : Int) : Decidable (BadPair s r p) := by unfold BadPair; infer_instance
def confirmE (s : XSite) (c : List XCut) (fl : List XSpan) (r : XRest) (p t : Int) : Int :=
  if sharedE s c.length fl.length t ≠ 0 then sharedE s c.length fl.length t
  else if r.zone = -1 ∨ r.step ≠ 1 then 10
  else if BadPair s r p then 19
  else if LateR r t then 8
  else readyE s c fl r.zone t
def confirmR (s : XSite) (c : List XCut) (fl : List XSpan) (r : XRest) (p t : Int) : XRest := if confirmE s c fl r p t = 0 then ⟨r.zone, r.first, p, 2, t⟩ else r
theorem confirm_err {s : XSite} {c : List XCut} {fl : List XSpan} {r : XRest} {p t e : Int} (h : confirmE s c fl r p t = e) (he : e ≠ 0) : confirmR s c fl r p t = r := by rw [confirmR, if_neg (by omega)]
theorem Confirm_tri (s : XSite) (c : Arr XCut) (fl : Arr XSpan) (r : XRest) (p t : Int) (L : List Blk) (R : List Sl) (h : RestA s c fl R) :
    Tri Try.prog 34 [s.val, c.val, fl.val, r.val, .int .i64 p, .int .i64 t].toArray L R (fun v L' R' => v = .tuple #[(confirmR s c.l fl.l r p t).val, .int .i64 (confirmE s c.l fl.l r p t)] ∧ L = L' ∧ R = R') := by
  have hpR := h.site.persons
  refine tri_enter 102 Try.call34 Try.func34 rfl rfl rfl ?_
  refine qae ?_
  refine qax ?_
  intro b6
  refine qax ?_
  intro b9
  refine qaq ?_
  intro b12
  refine qad ?_
  refine qaw ?_
  refine ybrab ?_
  refine qbm ?_
  refine qbm ?_
  refine qaa ?_
  refine q_l rfl (restCheck_tri s c fl t _ _ h) ?_
  refine qad ?_
  refine qam ?_
  refine qaa ?_
  refine qbq ?_
  refine qaf ?_
  refine q_c (fun hc0 => ?_) (fun hc0 => ?_)
  ·
   refine qae ?_
   refine ybraa ?_
   refine qaa ?_
   refine qak ?_
   refine qad ?_
   refine qbh ?_
   refine q_r (L' := L) (R' := R) (res2 rfl (rv_cell (row := [_, _, _, _, _]) tb rfl rfl rfl (by repeat (first | exact zi0 | apply zi1 | apply zi2)) (by rfl) (by rfl)) (rv_tmp (show _ = Value.int _ _ from rfl))) ?_
   have he : confirmE s c.l fl.l r p t = sharedE s c.l.length fl.l.length t := by rw [confirmE, if_pos hc0]
   exact ⟨by rw [confirm_err he hc0, he], rfl, rfl⟩
  obtain ⟨hok, hln, ht⟩ := shared_ok (s := s) (nc := c.l.length) (nf := fl.l.length) (t := t) (by omega)
  refine qbo ?_
  refine qab ?_
  refine qac ?_
  refine qbn ?_
  refine qah ?_
  apply LJ_or (G := [_, _, _]) (j := 3) (cj := 30) rfl rfl (by rfl) rfl (show _ = Value.bool _ from rfl) rfl
  ·
   intro hg4
   replace hg4 := qb hg4
   refine qab ?_
   refine qac ?_
   refine qbq ?_
   exact qai
  intro junk4
  refine qaf ?_
  refine q_c (fun hc1 => ?_) (fun hc1 => ?_)
  ·
   refine qae ?_
   refine ybraa ?_
   refine qak ?_
   refine qad ?_
   refine qbh ?_
   refine q_r (L' := L) (R' := R) (res2 rfl (rv_cell (row := [_, _, _, _, _]) tb rfl rfl rfl (by repeat (first | exact zi0 | apply zi1 | apply zi2)) (by rfl) (by rfl)) (rv_tmp (show _ = Value.int _ _ from rfl))) ?_
   have he : confirmE s c.l fl.l r p t = 10 := by rw [confirmE, if_neg hc0, if_pos (by omega)]
   exact ⟨by rw [confirm_err he (by omega), he], rfl, rfl⟩
  refine qbv ?_
  refine qab ?_
  refine qac ?_
  refine qag ?_
  refine qad ?_
  refine qco ?_
  refine CJ_drawn tb [0, 1, 2, 3, 4, 5, 6, 7, 8, 9, 10, 11, 12, 13, 14, 15, 16, 17, 18, 19, 20, 21, 22, 23, 24, 25, 26, 27, 28, 29, 30, 31, 32, 33, 34, 35, 36, 37, 38, 39] _ mixed (by kernel_rfl) (List.Sublist.refl _) ?_
  refine qao ?_
  refine DJ_q (yv_lss rfl rfl) rfl rfl rfl ?_
  refine qb2 ?_
  refine DJ_case (k := 41) (show _ = Value.bool _ from rfl) (fun hg2 => ?_) (fun hg2 => ?_)
  ·
   replace hg2 := qb hg2
   iterate 3 refine qap ?_
   refine qbp ?_
   refine qb2 ?_
   iterate 4 refine qap ?_
   refine qbp ?_
   refine qb2 ?_
   iterate 3 refine qap ?_
   refine qbp ?_
   refine qb2 ?_
   iterate 4 refine qap ?_
   refine qbp ?_
   refine qb2 ?_
   iterate 14 refine qap ?_
   refine qbp ?_
   refine qbu ?_
   refine CJ_cond_true rfl ?_
   refine qae ?_
   refine ybraa ?_
   refine qak ?_
   refine qad ?_
   refine qbh ?_
   refine q_r (L' := L) (R' := R) (res2 rfl (rv_cell (row := [_, _, _, _, _]) tb rfl rfl rfl (by repeat (first | exact zi0 | apply zi1 | apply zi2)) (by rfl) (by rfl)) (rv_tmp (show _ = Value.int _ _ from rfl))) ?_
   have he : confirmE s c.l fl.l r p t = 19 := by rw [confirmE, if_neg hc0, if_neg (by omega), if_pos (by rw [BadPair]; omega)]
   exact ⟨by rw [confirm_err he (by omega), he], rfl, rfl⟩
  replace hg2 := qb hg2
  refine qao ?_
  refine qao ?_
  refine DJ_q (yv_geq rfl rfl) rfl rfl rfl ?_
  refine qbp ?_
  refine qb2 ?_
  refine DJ_case (k := 46) (show _ = Value.bool _ from rfl) (fun hg7 => ?_) (fun hg7 => ?_)
  ·
   replace hg7 := qb hg7
   iterate 4 refine qap ?_
   refine qbp ?_
   refine qb2 ?_
   iterate 3 refine qap ?_
   refine qbp ?_
   refine qb2 ?_
   iterate 4 refine qap ?_
   refine qbp ?_
   refine qb2 ?_
   iterate 14 refine qap ?_
   refine qbp ?_
   refine qbu ?_
   refine CJ_cond_true rfl ?_
   refine qae ?_
   refine ybraa ?_
   refine qak ?_
   refine qad ?_
   refine qbh ?_
   refine q_r (L' := L) (R' := R) (res2 rfl (rv_cell (row := [_, _, _, _, _]) tb rfl rfl rfl (by repeat (first | exact zi0 | apply zi1 | apply zi2)) (by rfl) (by rfl)) (rv_tmp (show _ = Value.int _ _ from rfl))) ?_
   have he : confirmE s c.l fl.l r p t = 19 := by rw [confirmE, if_neg hc0, if_neg (by omega), if_pos (by rw [BadPair]; omega)]
   exact ⟨by rw [confirm_err he (by omega), he], rfl, rfl⟩
  replace hg7 := qb hg7
  refine qao ?_
  refine qal ?_
  refine qat ?_
  refine DJ_q (yv_eql rfl rfl) rfl rfl rfl ?_
  refine qbp ?_
  refine qb2 ?_
  refine DJ_case (k := 52) (show _ = Value.bool _ from rfl) (fun hg13 => ?_) (fun hg13 => ?_)
  ·
   replace hg13 := qb hg13
   iterate 3 refine qap ?_
   refine qbp ?_
   refine qb2 ?_
   iterate 4 refine qap ?_
   refine qbp ?_
   refine qb2 ?_
   iterate 14 refine qap ?_
   refine qbp ?_
   refine qbu ?_
   refine CJ_cond_true rfl ?_
   refine qae ?_
   refine ybraa ?_
   refine qak ?_
   refine qad ?_
   refine qbh ?_
   refine q_r (L' := L) (R' := R) (res2 rfl (rv_cell (row := [_, _, _, _, _]) tb rfl rfl rfl (by repeat (first | exact zi0 | apply zi1 | apply zi2)) (by rfl) (by rfl)) (rv_tmp (show _ = Value.int _ _ from rfl))) ?_
   have he : confirmE s c.l fl.l r p t = 19 := by rw [confirmE, if_neg hc0, if_neg (by omega), if_pos (by rw [BadPair]; omega)]
   exact ⟨by rw [confirm_err he (by omega), he], rfl, rfl⟩
  replace hg13 := qb hg13
  refine qal ?_
  refine qat ?_
  refine DJ_q (yv_lss rfl rfl) rfl rfl rfl ?_
  refine qbp ?_
  refine qb2 ?_
  refine DJ_case (k := 57) (show _ = Value.bool _ from rfl) (fun hg18 => ?_) (fun hg18 => ?_)
  ·
   replace hg18 := qb hg18
   iterate 4 refine qap ?_
   refine qbp ?_
   refine qb2 ?_
   iterate 14 refine qap ?_
   refine qbp ?_
   refine qbu ?_
   refine CJ_cond_true rfl ?_
   refine qae ?_
   refine ybraa ?_
   refine qak ?_
   refine qad ?_
   refine qbh ?_
   refine q_r (L' := L) (R' := R) (res2 rfl (rv_cell (row := [_, _, _, _, _]) tb rfl rfl rfl (by repeat (first | exact zi0 | apply zi1 | apply zi2)) (by rfl) (by rfl)) (rv_tmp (show _ = Value.int _ _ from rfl))) ?_
   have he : confirmE s c.l fl.l r p t = 19 := by rw [confirmE, if_neg hc0, if_neg (by omega), if_pos (by rw [BadPair]; omega)]
   exact ⟨by rw [confirm_err he (by omega), he], rfl, rfl⟩
  replace hg18 := qb hg18
  refine qal ?_
  refine qat ?_
  refine qao ?_
  refine DJ_q (yv_geq rfl rfl) rfl rfl rfl ?_
  refine qbp ?_
  refine qb2 ?_
  refine DJ_case (k := 63) (show _ = Value.bool _ from rfl) (fun hg24 => ?_) (fun hg24 => ?_)
  ·
   replace hg24 := qb hg24
   iterate 14 refine qap ?_
   refine qbp ?_
   refine qbu ?_
   refine CJ_cond_true rfl ?_
   refine qae ?_
   refine ybraa ?_
   refine qak ?_
   refine qad ?_
   refine qbh ?_
   refine q_r (L' := L) (R' := R) (res2 rfl (rv_cell (row := [_, _, _, _, _]) tb rfl rfl rfl (by repeat (first | exact zi0 | apply zi1 | apply zi2)) (by rfl) (by rfl)) (rv_tmp (show _ = Value.int _ _ from rfl))) ?_
   have he : confirmE s c.l fl.l r p t = 19 := by rw [confirmE, if_neg hc0, if_neg (by omega), if_pos (by rw [BadPair]; omega)]
   exact ⟨by rw [confirm_err he (by omega), he], rfl, rfl⟩
  replace hg24 := qb hg24
  have hpg := get_D (l := s.persons.l) (k := p.toNat) 0 (by omega)
  have hqg := get_D (l := s.persons.l) (k := r.first.toNat) 0 (by omega)
  refine qal ?_
  refine qat ?_
  refine qao ?_
  refine DJ_q (by first | exact yv_index_ro tb rfl rfl rfl rfl (by first | assumption | exact zr (by simp)) (i := p.toNat) (by first | rfl | omega | (simp; omega)) (by omega) | exact yv_index tb rfl rfl rfl rfl (i := p.toNat) (by first | rfl | omega | (simp; omega)) (by omega)) rfl rfl rfl ?_
  refine qce ?_
  refine qbl ?_
  refine qal ?_
  refine qat ?_
  refine qal ?_
  refine qat ?_
  refine DJ_q (by first | exact yv_index_ro tb rfl rfl rfl rfl (by first | assumption | exact zr (by simp)) (i := r.first.toNat) (by first | rfl | omega | (simp; omega)) (by omega) | exact yv_index tb rfl rfl rfl rfl (i := r.first.toNat) (by first | rfl | omega | (simp; omega)) (by omega)) rfl rfl rfl ?_
  refine qce ?_
  refine qbl ?_
  refine DJ_q (yv_eql rfl rfl) rfl rfl rfl ?_
  refine qbp ?_
  refine qbu ?_
  refine q_c (fun hc2 => ?_) (fun hc2 => ?_)
  ·
   refine qae ?_
   refine ybraa ?_
   refine qak ?_
   refine qad ?_
   refine qbh ?_
   refine q_r (L' := L) (R' := R) (res2 rfl (rv_cell (row := [_, _, _, _, _]) tb rfl rfl rfl (by repeat (first | exact zi0 | apply zi1 | apply zi2)) (by rfl) (by rfl)) (rv_tmp (show _ = Value.int _ _ from rfl))) ?_
   have he : confirmE s c.l fl.l r p t = 19 := by rw [confirmE, if_neg hc0, if_neg (by omega), if_pos (by rw [BadPair]; omega)]
   exact ⟨by rw [confirm_err he (by omega), he], rfl, rfl⟩
  have hbp : ¬ BadPair s r p := by rw [BadPair]; omega
  refine qbo ?_
  refine ybraa ?_
  refine qaa ?_
  refine q_l rfl (late_tri r t _ _ ht) ?_
  refine qaf ?_
  refine q_c (fun hc3 => ?_) (fun hc3 => ?_)
  ·
   refine qae ?_
   refine ybraa ?_
   refine qak ?_
   refine qad ?_
   refine qbh ?_
   refine q_r (L' := L) (R' := R) (res2 rfl (rv_cell (row := [_, _, _, _, _]) tb rfl rfl rfl (by repeat (first | exact zi0 | apply zi1 | apply zi2)) (by rfl) (by rfl)) (rv_tmp (show _ = Value.int _ _ from rfl))) ?_
   have he : confirmE s c.l fl.l r p t = 8 := by rw [confirmE, if_neg hc0, if_neg (by omega), if_neg hbp, if_pos (by simpa using hc3)]
   exact ⟨by rw [confirm_err he (by omega), he], rfl, rfl⟩
  have he : confirmE s c.l fl.l r p t = readyE s c.l fl.l r.zone t := by rw [confirmE, if_neg hc0, if_neg (by omega), if_neg hbp, if_neg (by simpa using hc3)]
  refine qbo ?_
  refine ybrab ?_
  refine qbm ?_
  refine qbm ?_
  refine qab ?_
  refine qac ?_
  refine qaa ?_
  refine q_l rfl (ready_tri s c fl r.zone t _ _ h hok hln ht) ?_
  refine qad ?_
  refine qam ?_
  refine qaa ?_
  refine qbq ?_
  refine qaf ?_
  refine q_c (fun hc4 => ?_) (fun hc4 => ?_)
  ·
   refine qae ?_
   refine ybraa ?_
   refine qaa ?_
   refine qak ?_
   refine qad ?_
   refine qbh ?_
   refine q_r (L' := L) (R' := R) (res2 rfl (rv_cell (row := [_, _, _, _, _]) tb rfl rfl rfl (by repeat (first | exact zi0 | apply zi1 | apply zi2)) (by rfl) (by rfl)) (rv_tmp (show _ = Value.int _ _ from rfl))) ?_
   exact ⟨by rw [confirm_err he hc4, he], rfl, rfl⟩
  refine qbv ?_
  refine ybraa ?_
  refine qaq ?_
  intro b17
  refine qak ?_
  refine qam ?_
  refine qaa ?_
  refine qaa ?_
  refine qab ?_
  refine qcn ?_
  refine qab ?_
  refine qcn ?_
  refine qab ?_
  refine qcn ?_
  refine qam ?_
  refine ybraa ?_
  refine qak ?_
  refine qad ?_
  refine qa0 ?_
  refine q_r (L' := L) (R' := R) (res2 rfl (rv_cell (row := [_, _, _, _, _]) tb rfl rfl rfl (by repeat (first | exact zi0 | apply zi1 | apply zi2)) (by rfl) (by rfl)) (rv_tmp (show _ = Value.int _ _ from rfl))) ?_
  exact ⟨by rw [confirmR, if_pos (by omega), he, show readyE s c.l fl.l r.zone t = 0 by omega], rfl, rfl⟩
end Go.Proofs.Ytkpfjmibipblhaa
end
section
/-
  Rules that are put together are right. Plain. By an AI agent; no person has read it.
-/
set_option linter.unusedSimpArgs false
set_option linter.unusedVariables false
namespace Go.Proofs.Ytkpfjmibipblhaa
open Go.Aw Go
end Go.Proofs.Ytkpfjmibipblhaa
end
section
/-
  Appending nothing. By an AI agent; no person has read it.
-/
set_option linter.unusedSimpArgs false
set_option linter.unusedVariables false
namespace Go.Proofs.Ytkpfjmibipblhaa
open Go.Aw Go
section
variable {P : Program} {ρ : Operand → Value} {L : List Blk} {R : List Sl} {dst : Option Tmp} {ty : TypeId} {pos : String} {after : Array Edge} {guard : Option (Nat × Bool)} (tb : Tabs P) {T : TypeId} {x y : Operand}
end
section
variable {P : Program} {ρ : Operand → Value} {L : List Blk} {R : List Sl} {dst : Option Tmp} {ty : TypeId} {pos : String} {after : Array Edge} {guard : Option (Nat × Bool)} (tb : Tabs P) {T : TypeId} {x y : Operand}
end
def joinPK {γ : Type} (ws : List Nat) (t0 : Nat → Value) (hd : Head γ) (Q : TPost) : TPost
  | .normal, t, L, R => ∃ g, Off ws t0 t ∧ Shows t (hd.slots g) ∧ (∃ L1, L.Perm L1 ∧ (hd.L g).Sublist L1) ∧ ∀ r ∈ hd.R g, InR r R
  | e, t, L, R => Q e t L R
theorem joinPK_mk {γ : Type} {ws : List Nat} {t0 t : Nat → Value} {L L1 : List Blk} {R : List Sl} {hd : Head γ} {Q : TPost} (g : γ) (ho : Off ws t0 t) (hs : Shows t (hd.slots g)) (hp : L.Perm L1) (hL : (hd.L g).Sublist L1) (hR : ∀ r ∈ hd.R g, InR r R) : joinPK ws t0 hd Q .normal t L R := ⟨g, ho, hs, ⟨L1, hp, hL⟩, hR⟩
theorem CJ_permL {P n code t L L' R} {Q : TPost} (hp : L.Perm L') (h : CJ P n code t L' R Q) : CJ P n code t L R Q := CJ_turn fun _ _ hst => ⟨_, _, hst.perm hp, h⟩
theorem CJ_joinP {γ : Type} {P n x y t L R} {Q : TPost} (ws : List Nat) (hd : Head γ) (h : CJ P n x t L R (joinPK ws t hd Q)) (k : ∀ g junk, CJ P n y (updL (havoc ws t junk) (hd.slots g)) (hd.L g) (hd.R g) Q) : CJ P n x t L R (seqK P n y Q) := by
  intro c a w hf hs
  refine wp_mono (h c a w hf hs) ?_
  rintro e a w ⟨hnp, t', L', R', hq, hf', hs'⟩
  cases e with
  | normal =>
    obtain ⟨g, ho, hsh, ⟨L1, hp, hL⟩, hR⟩ := hq
    have e : updL (havoc ws t t') (hd.slots g) = t' := by rw [havoc_eq_self ho, updL_of_shows hsh]
    refine ⟨trivial, t', L', R', ?_, hf', hs'⟩
    have := k g t'
    rw [e] at this
    exact CJ_permL hp (CJ_weak hL hR this)
  | _ => exact ⟨hnp, t', L', R', hq, hf', hs'⟩
theorem gives_callL {P : Program} {dst : Option Tmp} {f : FuncId} {xs : List Operand} {ts : Array TypeId} {pos : String} {after : Array Edge} {guard : Option (Nat × Bool)} {ty : TypeId} {t : Nat → Value} {L : List Blk} {R : List Sl} {args : List Value} {Post : VPost} (ha : xs.map (ev t) = args)
    (h : Tri P f args.toArray L R Post) : Gives P ⟨dst, .call ⟨.value (.func f), xs.toArray, ts⟩, ty, pos, after, guard⟩ (ev t) L R Post :=
  gives_call (by rw [← ha]; simp) rfl h
theorem YV.gives2 {P op ρ L R v} (h : YV P op ρ L R v) : Gives P op ρ L R (fun v' L' R' => v' = v ∧ L = L' ∧ R = R') := by
  intro c w hs a next Q k
  rw [h c w hs]
  exact k v L R w ⟨rfl, rfl, rfl⟩ hs
end Go.Proofs.Ytkpfjmibipblhaa
end
section
/-
  The draws of chapter 20: rules, thresholds, conditions. By an AI agent; no person has read it.
-/
set_option linter.unusedSimpArgs false
set_option linter.unusedVariables false
namespace Go.Proofs.Ytkpfjmibipblhaa
open Go.Aw Go
set_option maxRecDepth 20000
attribute [local irreducible] CJ LJ DJ Tri YV Gives seqK blockK loopK retK RV mergeK OwL.L
end Go.Proofs.Ytkpfjmibipblhaa
end
section
/-
  The draws of chapter 20: truths, thresholds, conditions, sensors at another place. By an AI agent; no person has read it.
-/
set_option linter.unusedSimpArgs false
set_option linter.unusedVariables false
namespace Go.Proofs.Ytkpfjmibipblhaa
open Go.Aw Go
set_option maxRecDepth 20000
attribute [local irreducible] CJ LJ DJ Tri YV Gives seqK blockK loopK retK RV mergeK OwL.L
end Go.Proofs.Ytkpfjmibipblhaa
end
section
/-
  A made mine without roads, with one road more. Plain. By an AI agent; no person has read it.
-/
set_option linter.unusedSimpArgs false
set_option linter.unusedVariables false
namespace Go.Proofs.Ytkpfjmibipblhaa
open Go.Aw Go
def oneRoad (n : Nat) : XRoad := ⟨0, (n : Int), 10, 4, false, false, ⟨1, 1⟩, ⟨0, 0⟩⟩
section
variable {a : XAir} {s : XSetting} {x : XState} (h : MadeA a s x) (hr : a.mine.roads.l.length = 0)
include h hr
end
section
variable {a : XAir} {s : XSetting} {x : XState} {P : Arr XPlace} {Rd : Arr XRoad} {Pr Fl : Arr Int} (h : MadeA a s x) (hr : a.mine.roads.l.length = 0) (hP : P.l = a.mine.places.l ++ [⟨0, true⟩]) (hR : Rd.l = [oneRoad a.mine.places.l.length]) (hPr : Pr.l = x.pres.l ++ [0]) (hFl : Fl.l = [0])
include h hr hP hR
include hPr hFl
end
end Go.Proofs.Ytkpfjmibipblhaa
end
section
/-
  Drawn sites. Plain. By an AI agent; no person has read it.
-/
set_option linter.unusedSimpArgs false
set_option linter.unusedVariables false
namespace Go.Proofs.Ytkpfjmibipblhaa
open Go.Aw Go
end Go.Proofs.Ytkpfjmibipblhaa
end
