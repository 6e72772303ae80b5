import Derived.Test.YtkpfjmibipblhaaCutB
import Derived.Test.YtkpfjmibipblhaaOneR
import Derived.Test.YtkpfjmibipblhaaLevel
import Derived.Test.YtkpfjmibipblhaaLaw20b
import Derived.Test.YtkpfjmibipblhaaApp0
import Derived.Test.YtkpfjmibipblhaaOwn
section
/-
  What a raw number says, the reference's: ref05.Value. By an AI agent; no person has read it.
-/
set_option linter.unusedSimpArgs false
set_option linter.unusedVariables false
namespace Go.Proofs.Ytkpfjmibipblhaa
open Go.Aw Go
set_option maxRecDepth 20000
attribute [local irreducible] CJ LJ DJ Tri YV Gives seqK blockK loopK retK RV mergeK OwL.L
def mostR (k : Int) : Int := if k = 6 then 5 else if k = 5 then 2 else 1
def rawS (s : XSens) (r : Int) : XSpan := ⟨s.offset + s.scale * r / 1000 - s.error, s.offset + -((-(s.scale * r)) / 1000) + s.error⟩
def valueR (s : XSens) (r : Int) : XSpan :=
  if sensErr s ≠ 0 ∨ ¬ (0 ≤ r ∧ r ≤ 65535) then nothingS
  else if 4 ≤ s.kind then if mostR s.kind < r then nothingS else ⟨r, r⟩
  else if s.kind = 1 ∨ s.kind = 2 then ⟨max (rawS s r).low 0, max (rawS s r).high 0⟩ else rawS s r
theorem sensOk_of {s : XSens} (h : sensErr s = 0) : SensOk s := by
  rw [sensErr] at h
  split at h
  · omega
  split at h
  · assumption
  · omega
theorem raw_mul {s : XSens} {r : Int} (h : sensErr s = 0) (hr : 0 ≤ r ∧ r ≤ 65535) : -65535000000 ≤ s.scale * r ∧ s.scale * r ≤ 65535000000 := by
  have hs := sensOk_of h
  rw [SensOk] at hs
  have h1 : s.scale * r ≤ 1000000 * r := Int.mul_le_mul_of_nonneg_right (by omega) hr.1
  have h2 : -1000000 * r ≤ s.scale * r := Int.mul_le_mul_of_nonneg_right (by omega) hr.1
  omega
theorem refValueS_tri (s : XSens) (r : Int) (L : List Blk) (R : List Sl) :
    Tri Try.prog 60 [s.val, .int .i64 r].toArray L R (fun v L' R' => v = (valueR s r).val ∧ L = L' ∧ R = R') := by
  refine tri_enter 67 Try.call60 Try.func60 rfl rfl rfl ?_
  refine qae ?_
  refine qax ?_
  intro b2
  refine qaq ?_
  intro b4
  refine qaw ?_
  refine LJ_q (yv_loadN (row := [_, _, _, _, _, _, _, _]) tb rfl rfl rfl (by repeat (first | exact zi0 | apply zi1 | apply zi2)) (by rfl) (by rfl)) rfl ?_
  refine q_l rfl (ref05Check_tri s _ _) ?_
  refine qbq ?_
  refine qah ?_
  apply LJ_or (G := [_, _, _]) (j := 3) (cj := 10) rfl rfl (by rfl) rfl (show _ = Value.bool _ from rfl) rfl
  ·
   intro hg4
   replace hg4 := qb hg4
   refine qaa ?_
   refine q_l rfl (ref05in_tri _ _ _ _ _) ?_
   refine qb4 ?_
   exact qai
  intro junk4
  refine qaf ?_
  refine q_c (fun hc0 => ?_) (fun hc0 => ?_)
  ·
   refine qae ?_
   refine q_l rfl (nothing_tri _ _) ?_
   refine qak ?_
   refine qbh ?_
   refine q_r (L' := L) (R' := R) (res1 rfl (rv_cell (row := [_, _]) tb rfl rfl rfl (by repeat (first | exact zi0 | apply zi1 | apply zi2)) (by rfl) (by rfl))) ?_
   exact ⟨by rw [valueR, if_pos (by simp at hc0; omega)], rfl, rfl⟩
  have hE : ¬ (sensErr s ≠ 0 ∨ ¬ (0 ≤ r ∧ r ≤ 65535)) := by simp at hc0; omega
  have hml := raw_mul (s := s) (r := r) (by omega) (by omega)
  have hsk := sensOk_of (s := s) (by omega)
  rw [SensOk] at hsk
  refine qbo ?_
  refine qab ?_
  refine qac ?_
  refine q_l rfl (stately_tri _ _ _) ?_
  refine qaf ?_
  refine q_c (fun hc1 => ?_) (fun hc1 => ?_)
  ·
   refine qae ?_
   refine qad ?_
   refine qaw ?_
   refine qab ?_
   refine qac ?_
   refine qbn ?_
   refine qaf ?_
   refine CJ_joinS [5] ((⟨fun g => [(5, .int .i64 g.1)], fun _ => ⟨b4, [.int .i64 0, .int .i64 0], 59⟩ :: ⟨b2, s.cells, 128⟩ :: L, fun _ => R, fun _ => 0⟩ : Head {n : Int // n = if s.kind = 5 then 2 else 1})) ?_ ?_
   ·
    skip
    refine q_c (fun hc2 => ?_) (fun hc2 => ?_)
    ·
     refine qay ?_
     refine qad ?_
     refine qav ?_
     exact q_j ⟨2, by rw [if_pos hc2]⟩
    refine CJ_skip ?_
    exact q_j ⟨1, by rw [if_neg hc2]⟩
   rintro ⟨m1, hm1⟩ junk
   try dsimp only
   refine qbi ?_
   refine qab ?_
   refine qac ?_
   refine qbn ?_
   refine qaf ?_
   refine CJ_joinS [5] ((⟨fun g => [(5, .int .i64 g.1)], fun _ => ⟨b4, [.int .i64 0, .int .i64 0], 59⟩ :: ⟨b2, s.cells, 128⟩ :: L, fun _ => R, fun _ => 0⟩ : Head {n : Int // n = mostR s.kind})) ?_ ?_
   ·
    skip
    refine q_c (fun hc3 => ?_) (fun hc3 => ?_)
    ·
     refine qay ?_
     refine qad ?_
     refine qav ?_
     exact q_j ⟨5, by rw [mostR, if_pos hc3]⟩
    refine CJ_skip ?_
    exact q_j ⟨m1, by rw [mostR, if_neg hc3, hm1]⟩
   rintro ⟨m2, hm2⟩ junk
   try dsimp only
   refine qbi ?_
   refine qaa ?_
   refine qaa ?_
   refine qa5 ?_
   refine qaf ?_
   refine q_c (fun hc4 => ?_) (fun hc4 => ?_)
   ·
    refine qae ?_
    refine q_l rfl (nothing_tri _ _) ?_
    refine qak ?_
    refine LJ_nil (seqK_normal (CJ_ret (seqK_ret (seqK_ret ?_))))
    refine q_r (L' := L) (R' := R) (res1 rfl (rv_cell (row := [_, _]) tb rfl rfl rfl (by repeat (first | exact zi0 | apply zi1 | apply zi2)) (by rfl) (by rfl))) ?_
    exact ⟨by rw [valueR, if_neg hE, if_pos hc1, if_pos (by omega)], rfl, rfl⟩
   refine qbv ?_
   refine qaa ?_
   refine qaa ?_
   refine qcd ?_
   refine qak ?_
   refine qbh ?_
   refine q_r (L' := L) (R' := R) (res1 rfl (rv_cell (row := [_, _]) tb rfl rfl rfl (by repeat (first | exact zi0 | apply zi1 | apply zi2)) (by rfl) (by rfl))) ?_
   exact ⟨by rw [valueR, if_neg hE, if_pos hc1, if_neg (by omega)], rfl, rfl⟩
  refine qcl ?_
  refine CJ_drawn tb [0, 1, 2, 3, 4, 5, 8, 9, 11, 12, 13, 14, 15, 16, 19, 20, 6, 7, 10, 17, 18, 21, 22, 23, 24] ([Blk.mk b2 _ _]) mixed (by kernel_rfl) (by repeat (first | exact zs0 _ | exact zs1 _ | apply zs2 | apply zs3 | apply zs4 | apply zs5)) ?_
  refine qal ?_
  refine qat ?_
  refine qal ?_
  refine qat ?_
  refine qao ?_
  refine qdh ?_
  refine qal ?_
  refine qat ?_
  refine qal ?_
  refine qat ?_
  refine qal ?_
  refine qat ?_
  refine qao ?_
  refine qdh ?_
  refine qal ?_
  refine qat ?_
  refine q_d rfl (ref05Floor_tri (s.scale * r) 1000 _ _ (by omega) (by decide)) ?_
  refine qc2 ?_
  refine qb7 ?_
  refine q_d rfl (ref05Ceil_tri (s.scale * r) 1000 _ _ (by omega) (by decide)) ?_
  refine qc2 ?_
  refine qc2 ?_
  refine DJ_q (yv_build (qs := [(0, (Value.int _ _).cells.toList), (1, (Value.int _ _).cells.toList)]) (out := [_, _]) tb rfl rfl rfl rfl) rfl rfl rfl ?_
  refine qbr ?_
  intro b6
  refine qbg ?_
  refine qc6 ?_
  refine qab ?_
  refine qac ?_
  refine q_l rfl (gassy_tri _ _ _) ?_
  refine qaf ?_
  refine q_c (fun hc5 => ?_) (fun hc5 => ?_)
  ·
   refine qay ?_
   refine qab ?_
   refine qac ?_
   refine LJ_q (yv_max2 rfl rfl) rfl ?_
   refine qab ?_
   refine qac ?_
   refine LJ_q (yv_max2 rfl rfl) rfl ?_
   refine qab ?_
   refine qcn ?_
   refine qab ?_
   refine qcn ?_
   refine qam ?_
   refine qbe ?_
   refine qak ?_
   refine qa0 ?_
   refine q_r (L' := L) (R' := R) (res1 rfl (rv_cell (row := [_, _]) tb rfl rfl rfl (by repeat (first | exact zi0 | apply zi1 | apply zi2)) (by rfl) (by rfl))) ?_
   exact ⟨by rw [valueR, if_neg hE, if_neg hc1, if_pos (by omega)]; try rfl, rfl, rfl⟩
  refine qbv ?_
  refine qbe ?_
  refine qak ?_
  refine qa0 ?_
  refine q_r (L' := L) (R' := R) (res1 rfl (rv_cell (row := [_, _]) tb rfl rfl rfl (by repeat (first | exact zi0 | apply zi1 | apply zi2)) (by rfl) (by rfl))) ?_
  exact ⟨by rw [valueR, if_neg hE, if_neg hc1, if_neg (by omega)]; try rfl, rfl, rfl⟩
theorem valueR_span {s : XSens} {r : Int} : (valueR s r).low ≤ (valueR s r).high := by
  rw [valueR]
  split
  · decide
  split
  · split
    · decide
    · dsimp only; omega
  rename_i h _
  have hsk := sensOk_of (s := s) (by omega)
  rw [SensOk] at hsk
  have : s.scale * r / 1000 ≤ -((-(s.scale * r)) / 1000) := by omega
  split
  · simp only [rawS]; omega
  · simp only [rawS]; omega
theorem valueR_bound {s : XSens} {r : Int} : valueR s r = nothingS ∨ (-100000000 ≤ (valueR s r).low ∧ (valueR s r).high ≤ 100000000) := by
  rw [valueR]
  split
  · exact .inl rfl
  rename_i h
  have hsk := sensOk_of (s := s) (by omega)
  rw [SensOk] at hsk
  have hml := raw_mul (s := s) (r := r) (by omega) (by omega)
  split
  · split
    · exact .inl rfl
    · exact .inr (by dsimp only; omega)
  split
  · exact .inr (by simp only [rawS]; omega)
  · exact .inr (by simp only [rawS]; omega)
end Go.Proofs.Ytkpfjmibipblhaa
end
section
/-
  The draws of the statements of chapter 20: what sensors said, watches. By an AI agent; no person has read it.
-/
set_option linter.unusedSimpArgs false
set_option linter.unusedVariables false
namespace Go.Proofs.Ytkpfjmibipblhaa
open Go.Aw Go
set_option maxRecDepth 20000
attribute [local irreducible] CJ LJ DJ Tri YV Gives seqK blockK loopK retK RV mergeK OwL.L
section
variable {A9 B9 : Prop}
theorem ychaa (a : A9) (h : A9 → B9 := by exact LJ_g (gives_buildSlice (qs := [(0, (Value.agg _).cells.toList)]) (out := [_, _, _, _]) tb rfl rfl rfl rfl rfl rfl rfl) rfl) : B9 := h a
end
def SaidQ (x : XSens) (i : Nat) (m : XMeas) : Prop := m = ⟨-1, 0, ⟨0, 0⟩⟩ ∨ (m.sensor = (i : Int) ∧ (0 ≤ m.time ∧ m.time ≤ 19) ∧ ∃ r : Int, m.span = valueR x r)
structure SaidTo (S : List XSens) (n : Nat) (l : List XMeas) : Prop where
  len : l.length = n
  at_ : ∀ i : Nat, i < n → SaidQ (S.getD i default) i (l.getD i default)
theorem SaidTo.next {S : List XSens} {n : Nat} {l : List XMeas} (h : SaidTo S n l) {m : XMeas} (hm : SaidQ (S.getD n default) n m) : SaidTo S (n + 1) (l ++ [m]) := by
  have hl := h.len
  refine ⟨by simp [hl], fun i hi => ?_⟩
  rcases Nat.lt_or_ge i n with h1 | h1
  · rw [List.getD_eq_getElem?_getD (l := l ++ [m]), List.getElem?_append_left (by omega), ← List.getD_eq_getElem?_getD]
    exact h.at_ i h1
  · obtain rfl : i = n := by omega
    rw [List.getD_eq_getElem?_getD (l := l ++ [m]), List.getElem?_append_right (by omega), hl, Nat.sub_self]
    exact hm
theorem SaidQ.ok {x : XSens} {i : Nat} {m : XMeas} (h : SaidQ x i m) : MeasOk m := by
  rcases h with rfl | ⟨h1, h2, r, h3⟩
  · rw [MeasOk]; decide
  · rw [MeasOk, h3]
    have h4 := valueR_span (s := x) (r := r)
    rcases valueR_bound (s := x) (r := r) with h5 | h5
    · rw [h5]; simp only [nothingS]; omega
    · omega
theorem SaidTo.ok {S : List XSens} {n : Nat} {l : List XMeas} (h : SaidTo S n l) : ∀ m ∈ l, MeasOk m := fun m hm => by
  obtain ⟨i, hi, rfl⟩ := List.mem_iff_getElem.1 hm
  have := h.at_ i (by rw [← h.len]; exact hi)
  rw [List.getD_eq_getElem?_getD (l := l), List.getElem?_eq_getElem hi] at this
  exact this.ok
theorem said_tri (c : Nat) (x : Arr Int) (k : Nat) (s : XSite) (R : List Sl) (hx : CodesR x R) (hk : k ≤ x.l.length) (hs : InR (sesl s.sensors) R) (hn : s.sensors.l.length ≤ 64) :
    Tri Try.prog 17 [.pointer (some ⟨c, 0, none⟩), s.val].toArray [cblk c x k] R
      (fun v L' R' => ∃ (p : OwL XMeas) (k' : Nat), v = p.val ∧ p.ok 4 XMeas.cells ∧ SaidTo s.sensors.l s.sensors.l.length p.l ∧ k' ≤ x.l.length ∧ p.L 118 XMeas.cells ++ (cblk c x k' :: []) = L' ∧ R = R') := by
  refine tri_enter 42 Try.call17 Try.func17 rfl rfl rfl ?_
  refine qae ?_
  refine qax ?_
  intro b3
  refine qc4 ?_
  refine qam ?_
  refine qc4 ?_
  refine qaw ?_
  refine qab ?_
  refine qac ?_
  refine qag ?_
  refine qaa ?_
  refine qa2 ?_
  refine CJ_forget [(0, Value.pointer _), (5, Value.slice _ _ _), (10, Value.slice _ _ _), (11, Value.int _ _), (12, Value.int _ _)] (by repeat' (first | exact trivial | refine And.intro rfl ?_)) fun tq0 => ?_
  refine CJ_loop [5, 6, 7, 8, 12, 13, 14, 15, 16, 17, 18, 19, 20, 21, 22, 23, 24, 25, 26, 27, 28, 29, 30, 31, 32, 33, 34, 35, 36, 37, 38, 39, 40] ((⟨fun g => [(12, .int .i64 ((g.1.2.1 : Nat) : Int)), (5, g.1.2.2.val)], fun g => g.1.2.2.L 118 XMeas.cells ++ (⟨b3, s.cells, 36⟩ :: cblk c x g.1.1 :: []), fun _ => R, fun g => s.sensors.l.length - g.1.2.1⟩ : Head {g : Nat × Nat × OwL XMeas // g.1 ≤ x.l.length ∧ g.2.1 ≤ s.sensors.l.length ∧ g.2.2.ok 4 XMeas.cells ∧ SaidTo s.sensors.l g.2.1 g.2.2.l})) (⟨(k, 0, OwL.nil), hk, by dsimp only; omega, OwL.nil_ok, ⟨rfl, fun i hi => by dsimp only at hi; omega⟩⟩) (by repeat' (first | exact trivial | refine And.intro rfl ?_)) (by dsimp only; rw [nil_L, List.nil_append]; exact List.Sublist.refl _) (allR_self _) ?_
  rintro ⟨⟨kk, i, p⟩, hkk, hi, hpk, hS⟩ junk
  try dsimp only
  dsimp only at hkk hi hpk hS
  have hpn := hS.len
  refine qae ?_
  refine qaj ?_
  refine qa4 ?_
  refine q_c (fun hc0 => ?_) (fun hc0 => ?_)
  ·
   have hsg := get_D (l := s.sensors.l) (k := i) default (by omega)
   have hSn := fun (m : XMeas) => hS.next (m := m)
   obtain ⟨y, hy⟩ : ∃ y, y = s.sensors.l.getD i default := ⟨_, rfl⟩
   rw [← hy] at hsg hSn
   refine qbb ?_
   refine qaa ?_
   refine LJ_q (by first | exact yv_index_ro tb rfl rfl rfl rfl (by first | assumption | exact zr (by simp)) (i := i) (by first | rfl | omega | (simp; omega)) (by omega) | exact yv_index tb rfl rfl rfl rfl (i := i) (by first | rfl | omega | (simp; omega)) (by omega)) rfl ?_
   refine LJ_q (by first | exact yv_loadN_ro (row := [_, _, _, _, _, _, _, _]) tb rfl rfl rfl (by first | assumption | exact zr (by simp)) (by assumption) (by rfl) (by rfl) | exact yv_loadN (row := [_, _, _, _, _, _, _, _]) tb rfl rfl rfl (by repeat (first | exact zi0 | apply zi1 | apply zi2)) (by rfl) (by rfl)) rfl ?_
   refine qaq ?_
   intro b7
   refine qad ?_
   refine qak ?_
   refine qa4 ?_
   refine CJ_drawn tb [0, 1, 3, 4, 2, 5, 6, 7, 8, 9] ([Blk.mk b7 _ _]) mixed (by kernel_rfl) (by repeat (first | exact zs0 _ | exact zs1 _ | apply zs2 | apply zs3 | apply zs4 | apply zs5)) ?_
   refine qao ?_
   refine qb8 ?_
   refine DJ_q (yv_loadN (row := [_, _, _, _, _, _, _, _]) tb rfl rfl rfl (by repeat (first | exact zi0 | apply zi1 | apply zi2)) (by rfl) (by rfl)) rfl rfl rfl ?_
   refine qb8 ?_
   refine DJ_call rfl (next1 (by repeat (first | apply USeg.here | apply USeg.cons | apply USeg.app)) hx hkk (by omega)) rfl rfl ?_
   rintro v L' R' ⟨t, k1, rfl, g1, g1', g1'', hk1, rfl, rfl⟩
   refine qas ?_
   have g1q := g1' (by omega)
   refine DJ_call rfl (next1 (by repeat (first | apply USeg.here | apply USeg.cons | apply USeg.app)) hx hk1 (by omega)) rfl rfl ?_
   rintro v L' R' ⟨r1, k2, rfl, g2, g2', g2'', hk2, rfl, rfl⟩
   refine qas ?_
   have g2q := g2' (by omega)
   refine q_d rfl (refValueS_tri y r1 _ _) ?_
   refine DJ_q (yv_build (qs := [(0, (Value.int _ _).cells.toList), (1, (Value.int _ _).cells.toList), (2, (Value.agg _).cells.toList)]) (out := [_, _, _, _]) tb rfl rfl rfl rfl) rfl rfl rfl ?_
   refine qbr ?_
   intro b8
   refine qbg ?_
   refine qc6 ?_
   refine qab ?_
   refine qac ?_
   refine q_l rfl (stately_tri _ _ _) ?_
   refine qaf ?_
   refine CJ_joinS [28, 29, 30, 31, 32] ((⟨fun _ => [], fun g => ⟨b8, XMeas.cells ⟨(i : Int), t, valueR y g.1.1⟩, 118⟩ :: ⟨b7, y.cells, 128⟩ :: (p.L 118 XMeas.cells ++ (⟨b3, s.cells, 36⟩ :: cblk c x g.1.2 :: [])), fun _ => R, fun _ => 0⟩ : Head {g : Int × Nat // g.2 ≤ x.l.length})) ?_ ?_
   ·
    skip
    refine q_c (fun hc1 => ?_) (fun hc1 => ?_)
    ·
     refine CJ_drawn2 tb [] [0, 1, 2, 3, 4] [5] ([Blk.mk b7 _ _]) _ mixed (by kernel_rfl) (by repeat (first | exact zs0 _ | exact zs1 _ | apply zs2 | apply zs3 | apply zs4 | apply zs5)) (by (repeat (first | apply List.Sublist.cons (a := Blk.mk b8 _ _) | apply List.Sublist.cons_cons)); exact List.Sublist.refl _) ?_
     refine DJ3_q (yv_loadN (row := [_, _, _, _, _, _, _, _]) tb rfl rfl rfl (by repeat (first | exact zi0 | apply zi1 | apply zi2)) (by rfl) (by rfl)) rfl rfl rfl rfl ?_
     refine qb3 ?_
     refine DJ3_call rfl (next1 (by repeat (first | apply USeg.here | apply USeg.cons | apply USeg.app)) hx hk2 (by omega)) rfl rfl ?_
     rintro v L' R' ⟨r2, k3, rfl, g3, g3', g3'', hk3, rfl, rfl⟩
     refine qas ?_
     refine DJ3_call rfl (refValueS_tri y r2 _ _) rfl rfl ?_
     rintro v L' R' ⟨rfl, rfl, rfl⟩
     refine qas ?_
     refine qan ?_
     refine qba ?_
     refine DJ_storeN rfl rfl rfl rfl (by repeat (first | apply zu0 | apply zu1 | apply zu2)) (by rfl) (by rfl) (by rfl) (by repeat (first | exact zs0 _ | exact zs1 _ | apply zs2 | apply zs3 | apply zs4 | apply zs5)) ?_
     refine DJ_nil ?_
     exact q_j ⟨(r2, k3), hk3⟩
    refine CJ_skip ?_
    exact q_j ⟨(r1, k2), hk2⟩
   rintro ⟨⟨rr, k4⟩, hk4⟩ junk
   try dsimp only
   dsimp only at hk4
   refine qbi ?_
   refine qa6 ?_
   refine LJ_call rfl (one1 (by repeat (first | apply USeg.here | apply USeg.cons | apply USeg.app)) hx hk4 (by omega)) rfl ?_
   rintro v L' R' ⟨bb, k5, rfl, hk5, rfl, rfl⟩
   refine qaf ?_
   refine q_c (fun hc2 => ?_) (fun hc2 => ?_)
   ·
    refine qay ?_
    refine LJ_q (yv_build (qs := [(0, (Value.int _ _).cells.toList)]) (out := [_, _, _, _]) tb rfl rfl rfl rfl) rfl ?_
    refine qak ?_
    refine LJ_nil (seqK_normal (CJ_region ?_))
    refine qbm ?_
    refine qa8 ?_
    refine ychaa ?_
    rintro v L' R' ⟨b38, rfl, rfl, hR38⟩
    replace hR38 := hR38.symm; subst hR38
    refine LJ_g (gives_append1 (f := XMeas.cells) (p := p) (a := ⟨-1, 0, ⟨0, 0⟩⟩) tb rfl rfl rfl rfl (hpk) (by repeat (first | apply OSeg.cons | exact OSeg.here | exact OSeg.last | exact OSeg.at (by assumption) | apply OSeg.app)) (shown_own (by repeat (first | exact zi0 | apply zi1 | apply zi2)) rfl rfl) rfl (by first | omega | (simp only [List.length_cons, List.length_nil, List.length_append]; omega))) rfl ?_
    rintro v L' R' ⟨o39, rfl, hok39, rfl, rfl⟩
    refine qc4 ?_
    refine qcs ?_
    refine qar ?_
    refine qaa ?_
    refine qav ?_
    exact q_k ⟨(k5, i + 1, (⟨o39, _⟩ : OwL XMeas)), hk5, by dsimp only; omega, hok39, hSn _ (.inl rfl)⟩
   refine CJ_skip (seqK_normal (CJ_region ?_))
   refine qbm ?_
   refine qa8 ?_
   refine ychaa ?_
   rintro v L' R' ⟨b38, rfl, rfl, hR38⟩
   replace hR38 := hR38.symm; subst hR38
   refine LJ_g (gives_append1 (f := XMeas.cells) (p := p) (a := ⟨(i : Int), t, valueR y rr⟩) tb rfl rfl rfl rfl (hpk) (by repeat (first | apply OSeg.cons | exact OSeg.here | exact OSeg.last | exact OSeg.at (by assumption) | apply OSeg.app)) (shown_own (by repeat (first | exact zi0 | apply zi1 | apply zi2)) rfl rfl) rfl (by first | omega | (simp only [List.length_cons, List.length_nil, List.length_append]; omega))) rfl ?_
   rintro v L' R' ⟨o39, rfl, hok39, rfl, rfl⟩
   refine qc4 ?_
   refine qcs ?_
   refine qar ?_
   refine qaa ?_
   refine qav ?_
   exact q_k ⟨(k5, i + 1, (⟨o39, _⟩ : OwL XMeas)), hk5, by dsimp only; omega, hok39, hSn _ (.inr ⟨rfl, by dsimp only; omega, rr, rfl⟩)⟩
  obtain rfl : i = s.sensors.l.length := by omega
  refine qbk ?_
  refine qbm ?_
  refine qc4 ?_
  refine qa0 ?_
  refine q_r (L' := p.L 118 XMeas.cells ++ (cblk c x kk :: [])) (R' := R) (res1 rfl (rv_tmp (show _ = Value.slice _ _ _ from rfl))) ?_
  exact ⟨p, kk, rfl, hpk, hS, hkk, rfl, rfl⟩
def WatD (w : XWatch) : Prop := w = ⟨true, -1, 0⟩ ∨ w = ⟨false, -1, 0⟩ ∨ ∃ r : Int, (0 ≤ r ∧ r ≤ 8) ∧ w = ⟨true, r, 9⟩
theorem watched_tri (c : Nat) (x : Arr Int) (k : Nat) (s : XSite) (R : List Sl) (hx : CodesR x R) (hk : k ≤ x.l.length) (hn : s.conds.l.length ≤ 64) :
    Tri Try.prog 18 [.pointer (some ⟨c, 0, none⟩), s.val].toArray [cblk c x k] R
      (fun v L' R' => ∃ (p : OwL XWatch) (k' : Nat), v = p.val ∧ p.ok 3 XWatch.cells ∧ (p.l.length = s.conds.l.length ∧ ∀ w ∈ p.l, WatD w) ∧ k' ≤ x.l.length ∧ p.L 116 XWatch.cells ++ (cblk c x k' :: []) = L' ∧ R = R') := by
  refine tri_enter 30 Try.call18 Try.func18 rfl rfl rfl ?_
  refine qae ?_
  refine qax ?_
  intro b3
  refine qc4 ?_
  refine qam ?_
  refine qc4 ?_
  refine qaw ?_
  refine qab ?_
  refine qac ?_
  refine qag ?_
  refine qaa ?_
  refine qa2 ?_
  refine CJ_forget [(0, Value.pointer _), (5, Value.slice _ _ _), (9, Value.int _ _), (10, Value.int _ _)] (by repeat' (first | exact trivial | refine And.intro rfl ?_)) fun tq0 => ?_
  refine CJ_loop [5, 6, 10, 11, 12, 13, 14, 15, 16, 17, 18, 19, 20, 21, 22, 23, 24, 25, 26, 27, 28] ((⟨fun g => [(10, .int .i64 ((g.1.2.1 : Nat) : Int)), (5, g.1.2.2.val)], fun g => g.1.2.2.L 116 XWatch.cells ++ (⟨b3, s.cells, 36⟩ :: cblk c x g.1.1 :: []), fun _ => R, fun g => s.conds.l.length - g.1.2.1⟩ : Head {g : Nat × Nat × OwL XWatch // g.1 ≤ x.l.length ∧ g.2.1 ≤ s.conds.l.length ∧ g.2.2.ok 3 XWatch.cells ∧ g.2.2.l.length = g.2.1 ∧ ∀ w ∈ g.2.2.l, WatD w})) (⟨(k, 0, OwL.nil), hk, by dsimp only; omega, OwL.nil_ok, rfl, fun w hw => by cases hw⟩) (by repeat' (first | exact trivial | refine And.intro rfl ?_)) (by dsimp only; rw [nil_L, List.nil_append]; exact List.Sublist.refl _) (allR_self _) ?_
  rintro ⟨⟨kk, i, p⟩, hkk, hi, hpk, hpn, hW⟩ junk
  try dsimp only
  dsimp only at hkk hi hpk hpn hW
  refine qae ?_
  refine qaj ?_
  refine qa4 ?_
  refine q_c (fun hc0 => ?_) (fun hc0 => ?_)
  ·
   refine qbb ?_
   refine q_l rfl (refBegin_tri _ _) ?_
   refine qaq ?_
   intro b6
   refine qak ?_
   refine qaw ?_
   refine qa6 ?_
   refine LJ_call rfl (next1 (by repeat (first | apply USeg.here | apply USeg.cons | apply USeg.app)) hx hkk (by omega)) rfl ?_
   rintro v L' R' ⟨r1, k1, rfl, g1, g1', g1'', hk1, rfl, rfl⟩
   refine qaf ?_
   refine CJ_joinS [15, 16, 17, 18, 19, 20, 21, 22, 23] ((⟨fun _ => [], fun g => ⟨b6, XWatch.cells g.1.1, 116⟩ :: (p.L 116 XWatch.cells ++ (⟨b3, s.cells, 36⟩ :: cblk c x g.1.2 :: [])), fun _ => R, fun _ => 0⟩ : Head {g : XWatch × Nat // WatD g.1 ∧ g.2 ≤ x.l.length})) ?_ ?_
   ·
    refine CJ_block (CJ_seq (CJ_region ?_))
    refine qbn ?_
    refine qaz ?_
    refine qaf ?_
    refine q_c (fun hc1 => ?_) (fun hc1 => ?_)
    ·
     refine qay ?_
     refine qab ?_
     refine LJ_store1 (v := Value.bool _) tb rfl rfl rfl rfl (by repeat (first | apply zu0 | apply zu1 | apply zu2)) (by first | exact icell_fit (by omega) | rfl) (by first | exact icell_set | rfl) (by rfl) ?_
     refine LJ_nil (blockK_normal ?_)
     exact q_j ⟨(⟨false, -1, 0⟩, k1), .inr (.inl rfl), hk1⟩
    refine qae ?_
    refine qbn ?_
    refine qaz ?_
    refine qaf ?_
    refine q_c (fun hc2 => ?_) (fun hc2 => ?_)
    ·
     refine qay ?_
     refine qa6 ?_
     refine LJ_call rfl (next1 (by repeat (first | apply USeg.here | apply USeg.cons | apply USeg.app)) hx hk1 (by omega)) rfl ?_
     rintro v L' R' ⟨r2, k2, rfl, g2, g2', g2'', hk2, rfl, rfl⟩
     have g2q := g2' (by omega)
     refine qab ?_
     refine qcn ?_
     refine qab ?_
     refine qcn ?_
     refine LJ_nil (blockK_normal ?_)
     exact q_j ⟨(⟨true, r2, 9⟩, k2), .inr (.inr ⟨r2, by omega, rfl⟩), hk2⟩
    refine CJ_skip (blockK_normal ?_)
    exact q_j ⟨(⟨true, -1, 0⟩, k1), .inl rfl, hk1⟩
   rintro ⟨⟨w, k3⟩, hwD, hk3⟩ junk
   try dsimp only
   dsimp only at hwD hk3
   refine qay ?_
   refine qbm ?_
   refine LJ_q (yv_loadN (row := [_, _, _]) tb rfl rfl rfl (by repeat (first | exact zi0 | apply zi1 | apply zi2)) (by rfl) (by rfl)) rfl ?_
   refine LJ_g (gives_buildSlice (qs := [(0, (Value.agg _).cells.toList)]) (out := [_, _, _]) tb rfl rfl rfl rfl rfl rfl rfl) rfl ?_
   rintro v L' R' ⟨b26, rfl, rfl, hR26⟩
   replace hR26 := hR26.symm; subst hR26
   refine LJ_g (gives_append1 (f := XWatch.cells) (p := p) (a := w) tb rfl rfl rfl rfl (hpk) (by repeat (first | apply OSeg.cons | exact OSeg.here | exact OSeg.last | exact OSeg.at (by assumption) | apply OSeg.app)) (shown_own (by repeat (first | exact zi0 | apply zi1 | apply zi2)) rfl rfl) rfl (by first | omega | (simp only [List.length_cons, List.length_nil, List.length_append]; omega))) rfl ?_
   rintro v L' R' ⟨o27, rfl, hok27, rfl, rfl⟩
   refine qc4 ?_
   refine qcs ?_
   refine qar ?_
   refine qaa ?_
   refine qav ?_
   exact q_k ⟨(k3, i + 1, (⟨o27, _⟩ : OwL XWatch)), hk3, by dsimp only; omega, hok27, by dsimp only; simp only [List.length_append, List.length_cons, List.length_nil]; omega, fun y hy => by rcases List.mem_append.1 hy with h | h; exact hW y h; rw [List.mem_singleton.1 h]; exact hwD⟩
  obtain rfl : i = s.conds.l.length := by omega
  refine qbk ?_
  refine qbm ?_
  refine qc4 ?_
  refine qa0 ?_
  refine q_r (L' := p.L 116 XWatch.cells ++ (cblk c x kk :: [])) (R' := R) (res1 rfl (rv_tmp (show _ = Value.slice _ _ _ from rfl))) ?_
  exact ⟨p, kk, rfl, hpk, ⟨hpn, hW⟩, hkk, rfl, rfl⟩
end Go.Proofs.Ytkpfjmibipblhaa
end
section
/-
  Values of drawn measurements; cuts of own slices. By an AI agent; no person has read it.
-/
set_option linter.unusedSimpArgs false
set_option linter.unusedVariables false
namespace Go.Proofs.Ytkpfjmibipblhaa
open Go.Aw Go
section
variable {P : Program} {ρ : Operand → Value} {L : List Blk} {R : List Sl} {dst : Option Tmp} {ty : TypeId} {pos : String} {after : Array Edge} {guard : Option (Nat × Bool)} {T T2 : TypeId} {x y z : Operand} {a b c : Int} {k : IntKind}
end
set_option maxRecDepth 20000
attribute [local irreducible] CJ LJ DJ Tri YV Gives seqK blockK loopK retK RV mergeK OwL.L
end Go.Proofs.Ytkpfjmibipblhaa
end
section
/-
  A slice without its first element. By an AI agent; no person has read it.
-/
set_option linter.unusedSimpArgs false
set_option linter.unusedVariables false
namespace Go.Proofs.Ytkpfjmibipblhaa
open Go.Aw Go
theorem yv_slice_1 {P : Program} {ρ : Operand → Value} {L : List Blk} {R : List Sl} {dst : Option Tmp} {ty : TypeId} {pos : String} {after : Array Edge} {guard : Option (Nat × Bool)} (tb : Tabs P) {T : TypeId} {x y : Operand} {k : IntKind} {len cap : Nat} {ar : Option Addr} {e n1 fl bt z k2 n2 fl2 bt2 z2}
    (hT : getT tb.tab T = some ⟨.slice e, n1, fl, bt, z⟩) (hE : getT tb.tab e = some ⟨k2, n2, fl2, bt2, z2⟩) (hx : ρ x = .slice ar len cap) (hy : ρ y = .int k 1) (hn : 1 ≤ len) :
    YV P ⟨dst, .slice T x (some y) none none, ty, pos, after, guard⟩ ρ L R (.slice (if cap = 1 then ar else ar.map (·.add (1 * n2))) (len - 1) (cap - 1)) := fun _ w _ => by
  have hu := under_slice (tb.ok _ _ hT) rfl
  have he : P.elem T = e := by simp [Program.elem, hu]
  have hu' : P.underlying T = some (.slice (P.elem T)) := by rw [he]; exact hu
  have hs := Go.Aw.run_sizeOf (tb.ok _ _ hE) w
  simp only at hs
  have h1 := run_slice_l (P := P) w T ar len cap hu' k 1 (by omega) (by omega)
  rw [he, hs, Result.andThen_ok] at h1
  simp [execOp, hx, hy, run_sliceAt_slice w T _ _ _ _ hu', h1, sliced]
theorem rep_drop1 {w : World} {G : Nat → Prop} {wd len cap : Nat} {a : Option Addr} {rows : List (List Value)} {subs : List Sl} (h : Rep w G (.mk wd a len cap rows subs)) (hk : 1 ≤ len) (hp : 0 < wd) : Rep w G (.mk wd (if cap = 1 then a else a.map (·.add (1 * wd))) (len - 1) (cap - 1) (rows.drop 1) subs) := by
  cases h with
  | mk hl hc hm hw hr hs =>
    refine .mk (by simp; omega) (by omega) (by omega) (fun r hr => hw r (List.mem_of_mem_drop hr)) ?_ hs
    rcases Nat.lt_or_ge 1 len with h1 | h1
    · rcases hr with h0 | ⟨b, off, ha, hg, hcell⟩
      · exact .inl (by rw [h0]; rfl)
      · refine .inr ⟨b, off + 1 * wd, by rw [if_neg (by omega), ha, Option.map_some, Addr.add, if_neg (by omega)], hg, fun i j hi hj => ?_⟩
        have := hcell (i + 1) j (by omega) hj
        have e : off + 1 * wd + i * wd + j = off + (i + 1) * wd + j := by rw [Nat.one_mul, Nat.succ_mul]; omega
        rw [List.getElem?_drop, Nat.add_comm 1 i, ← this, e]
    · exact .inl (List.drop_eq_nil_of_le (by omega))
abbrev dropA {α : Type} (y : Arr α) (wd : Nat) : Arr α := ⟨if y.cap = 1 then y.a else y.a.map (·.add (1 * wd)), y.cap - 1, y.l.drop 1⟩
theorem CJ_dropA {α : Type} {P n code t L R} {Q : TPost} {wd : Nat} {f : α → List Value} {subs : List Sl} {y : Arr α} (hR : InR (y.sl wd f subs) R) (hk : 1 ≤ y.l.length) (hp : 0 < wd) (h : CJ P n code t L ((dropA y wd).sl wd f subs :: R) Q) : CJ P n code t L R Q := by
  refine CJ_addR (s := (dropA y wd).sl wd f subs) (fun w G hh => ?_) h
  obtain ⟨r, hr, hs⟩ := hR
  have h1 := rep_drop1 ((hh r hr).sub hs) hk hp
  have e1 : y.l.length - 1 = (y.l.drop 1).length := by rw [List.length_drop]
  have e2 : (y.l.map f).drop 1 = (y.l.drop 1).map f := by rw [List.map_drop]
  rw [e1, e2] at h1
  exact h1
end Go.Proofs.Ytkpfjmibipblhaa
end
