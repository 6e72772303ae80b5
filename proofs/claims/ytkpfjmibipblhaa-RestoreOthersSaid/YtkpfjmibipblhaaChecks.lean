/-
  Checks: Plan, FanC, DoorC, BranchC, Rest, in one text. By an AI agent; no person has read it.
-/
import Derived.Test.YtkpfjmibipblhaaRun
set_option linter.unusedSimpArgs false
set_option linter.unusedVariables false
section
variable {A9 B9 : Prop}
theorem yafaa (a : A9) (h : A9 → B9 := by exact LJ_q (by first | exact yv_index_ro tb rfl rfl rfl rfl (by first | assumption | exact zr (by simp)) (i := k0) (by first | rfl | omega | (simp; omega)) (by omega) | exact yv_index tb rfl rfl rfl rfl (i := k0) (by first | rfl | omega | (simp; omega)) (by omega)) rfl) : B9 := h a
theorem yafab (a : A9) (h : A9 → B9 := by exact DJ_q (by first | exact yv_index_ro tb rfl rfl rfl rfl (by first | assumption | exact zr (by simp)) (i := k0 - 1) (by first | rfl | omega | (simp; omega)) (by omega) | exact yv_index tb rfl rfl rfl rfl (i := k0 - 1) (by first | rfl | omega | (simp; omega)) (by omega)) rfl rfl rfl) : B9 := h a
theorem yafac (h : B9 := by exact ⟨by rw [fanErr, if_neg (by omega), if_neg (by omega), FSR_some hp0 (by omega) (pointErr_14 hp (by omega) (by omega) hq (by omega))]; rfl, rfl, rfl⟩) : B9 := h
theorem yafad (a : A9) (h : A9 → B9 := by exact LJ_q (by first | exact yv_index_ro tb rfl rfl rfl rfl (by first | assumption | exact zr (by simp)) (i := k1) (by first | rfl | omega | (simp; omega)) (by omega) | exact yv_index tb rfl rfl rfl rfl (i := k1) (by first | rfl | omega | (simp; omega)) (by omega)) rfl) : B9 := h a
end
section
namespace Go.Proofs.Ytkpfjmibipblhaa
open Go.Aw Go
set_option maxRecDepth 20000
attribute [local irreducible] CJ LJ DJ Tri YV Gives seqK blockK loopK retK RV mergeK

def spanB (s : XSpan) (lo hi : Int) : Bool := decide (lo ≤ s.low) && (decide (s.low ≤ s.high) && decide (s.high ≤ hi))

theorem spanIn_tri (s : XSpan) (lo hi : Int) (L : List Blk) (R : List Sl) :
    Tri Try.prog 124 [s.val, .int .i64 lo, .int .i64 hi].toArray L R (fun v L' R' => v = .bool (spanB s lo hi) ∧ L = L' ∧ R = R') := by
  refine tri_enter 24 Try.call124 Try.func124 rfl rfl rfl ?_
  refine qae ?_
  refine qax ?_
  intro b3
  refine qaz ?_
  refine qam ?_
  refine qaa ?_
  refine qab ?_
  refine qac ?_
  refine qbx ?_
  refine qah ?_
  apply LJ_and (G := [_, _, _, _, _]) (j := 4) (cj := 11) rfl rfl (by rfl) rfl (show _ = Value.bool _ from rfl) rfl
  ·
   intro hg5
   replace hg5 := qb hg5
   refine qab ?_
   refine qac ?_
   refine qab ?_
   refine qac ?_
   refine qbx ?_
   exact qai
  intro junk5
  refine qah ?_
  apply LJ_and (G := [_, _, _, _]) (j := 11) (cj := 18) rfl rfl (by rfl) rfl (show _ = Value.bool _ from rfl) rfl
  ·
   intro hg12
   replace hg12 := qb hg12
   refine qab ?_
   refine qac ?_
   refine qaa ?_
   refine qbx ?_
   exact qai
  intro junk12
  refine qaz ?_
  refine qa0 ?_
  refine q_b (L' := L) (R' := R) ?_
  exact ⟨by simp [spanB, Bool.and_assoc], rfl, rfl⟩

def placeErr (p : XPlace) : Option Int := if p.height < -10000 ∨ 10000 < p.height then some 1 else none
def roadErr (n : Nat) (r : XRoad) : Option Int :=
  if r.fr < 0 ∨ (n : Int) ≤ r.fr ∨ r.to < 0 ∨ (n : Int) ≤ r.to ∨ r.fr = r.to then some 4
  else if r.len < 1 ∨ 100000 < r.len ∨ r.area < 1 ∨ 1000 < r.area ∨ spanB r.rest 1 262144 = false ∨ spanB r.lift (-2199023255552) 2199023255552 = false then some 1 else none
def mineErr (m : XMine) : Int :=
  if 64 < m.places.l.length ∨ 128 < m.roads.l.length then 2
  else match m.places.l.findSome? placeErr with
    | some e => e
    | none => (m.roads.l.findSome? (roadErr m.places.l.length)).getD 0

theorem planCheck_tri (m : XMine) (L : List Blk) (R : List Sl) (hm : MineR m R) :
    Tri Try.prog 90 [m.val].toArray L R (fun v L' R' => v = .int .i64 (mineErr m) ∧ L = L' ∧ R = R') := by
  have hpl := hm.places
  have hro := hm.roads
  refine Tri_len Try.call90 hpl fun hpn => ?_
  refine Tri_len Try.call90 hro fun hrn => ?_
  refine tri_enter 100 Try.call90 Try.func90 rfl rfl rfl ?_
  refine qae ?_
  refine qax ?_
  intro b1
  refine qad ?_
  refine qaw ?_
  refine qab ?_
  refine qac ?_
  refine qag ?_
  refine qa5 ?_
  refine qah ?_
  apply LJ_or (G := [_, _, _, _]) (j := 4) (cj := 12) rfl rfl (by rfl) rfl (show _ = Value.bool _ from rfl) rfl
  ·
   intro hg5
   replace hg5 := qb hg5
   refine qab ?_
   refine qac ?_
   refine qag ?_
   refine qa5 ?_
   exact qai
  intro junk5
  refine qaf ?_
  refine q_c (fun hc0 => ?_) (fun hc0 => ?_)
  ·
   refine qae ?_
   refine qad ?_
   refine qbh ?_
   refine q_i (L' := L) (R' := R) ?_
   exact ⟨by simp [mineErr]; omega, rfl, rfl⟩
  refine qbo ?_
  refine qab ?_
  refine qac ?_
  refine qag ?_
  refine qaa ?_
  refine qa2 ?_
  refine CJ_forget [(1, Value.pointer _), (19, Value.slice _ _ _), (20, Value.int _ _), (21, Value.int _ _)] (by repeat' (first | exact trivial | refine And.intro rfl ?_)) fun tq0 => ?_
  refine q_p [2, 4, 21, 22, 23, 24, 25, 26, 27, 28, 29, 30, 31, 32, 33] ((⟨fun g => [(21, .int .i64 ((g.1 : Nat) : Int))], fun _ => ⟨b1, m.cells, 26⟩ :: L, fun _ => R, fun g => m.places.l.length - g.1⟩ : Head (FS placeErr m.places.l))) (⟨0, FS_zero _ _⟩) ?_
  rintro ⟨k, hk, hkeep⟩ junk
  try dsimp only
  refine qae ?_
  refine qaj ?_
  refine qa4 ?_
  refine q_c (fun hc1 => ?_) (fun hc1 => ?_)
  ·
   obtain ⟨x, hx⟩ := get_some (l := m.places.l) (k := k) (by omega)
   refine qbb ?_
   refine qa3 ?_
   refine qdl ?_
   refine qaq ?_
   intro b4
   refine qak ?_
   refine qam ?_
   refine qab ?_
   refine qac ?_
   refine qaj ?_
   refine qah ?_
   apply LJ_or (G := [_, _, _]) (j := 3) (cj := 28) rfl rfl (by rfl) rfl (show _ = Value.bool _ from rfl) rfl
   ·
    intro hg4
    replace hg4 := qb hg4
    refine qab ?_
    refine qac ?_
    refine qa5 ?_
    exact qai
   intro junk4
   refine qaf ?_
   refine q_c (fun hc2 => ?_) (fun hc2 => ?_)
   ·
    refine qae ?_
    refine qad ?_
    refine qbt ?_
    refine q_i (L' := L) (R' := R) ?_
    exact ⟨by simp [mineErr, FS_some hkeep hx (show placeErr x = some 1 by simp [placeErr]; omega)]; omega, rfl, rfl⟩
   refine qbj ?_
   refine qar ?_
   refine qaa ?_
   refine qav ?_
   exact q_k ⟨k + 1, FS_next hkeep hx (by simp [placeErr]; omega)⟩
  have hp := FS_none hkeep (by omega)
  refine qbk ?_
  refine qab ?_
  refine qac ?_
  refine qag ?_
  refine qad ?_
  refine qaw ?_
  refine qab ?_
  refine qac ?_
  refine qag ?_
  refine qaa ?_
  refine qa2 ?_
  refine CJ_forget [(5, Value.int _ _), (38, Value.slice _ _ _), (39, Value.int _ _), (40, Value.int _ _)] (by repeat' (first | exact trivial | refine And.intro rfl ?_)) fun tq1 => ?_
  refine q_p [2, 7, 40, 41, 42, 43, 44, 45, 46, 47, 48, 49, 50, 51, 52, 53, 54, 55, 56, 57, 58, 59, 60, 61, 62, 63, 64, 65, 66, 67, 68, 69, 70, 71, 72, 73, 74, 75, 76, 77, 78, 79, 80, 81, 82, 83, 84, 85, 86, 87, 88, 89, 90, 91, 92, 93, 94, 95, 96, 97, 98, 99] ((⟨fun g => [(40, .int .i64 ((g.1 : Nat) : Int))], fun _ => ⟨b1, m.cells, 26⟩ :: L, fun _ => R, fun g => m.roads.l.length - g.1⟩ : Head (FS (roadErr m.places.l.length) m.roads.l))) (⟨0, FS_zero _ _⟩) ?_
  rintro ⟨k2, hk2, hkeep2⟩ junk
  try dsimp only
  refine qae ?_
  refine qaj ?_
  refine qa4 ?_
  refine q_c (fun hc3 => ?_) (fun hc3 => ?_)
  ·
   obtain ⟨y, hy⟩ := get_some (l := m.roads.l) (k := k2) (by omega)
   refine qbb ?_
   refine qa3 ?_
   refine qc8 ?_
   refine qaq ?_
   intro b7
   refine qak ?_
   refine qaw ?_
   refine qab ?_
   refine qac ?_
   refine qaj ?_
   refine qah ?_
   apply LJ_or (G := [_, _, _, _]) (j := 3) (cj := 47) rfl rfl (by rfl) rfl (show _ = Value.bool _ from rfl) rfl
   ·
    intro hg4
    replace hg4 := qb hg4
    refine qab ?_
    refine qac ?_
    refine qaa ?_
    refine qbz ?_
    exact qai
   intro junk4
   refine qah ?_
   apply LJ_or (G := [_, _, _]) (j := 9) (cj := 53) rfl rfl (by rfl) rfl (show _ = Value.bool _ from rfl) rfl
   ·
    intro hg10
    replace hg10 := qb hg10
    refine qab ?_
    refine qac ?_
    refine qaj ?_
    exact qai
   intro junk10
   refine qah ?_
   apply LJ_or (G := [_, _, _, _]) (j := 14) (cj := 58) rfl rfl (by rfl) rfl (show _ = Value.bool _ from rfl) rfl
   ·
    intro hg15
    replace hg15 := qb hg15
    refine qab ?_
    refine qac ?_
    refine qaa ?_
    refine qbz ?_
    exact qai
   intro junk15
   refine qah ?_
   apply LJ_or (G := [_, _, _, _, _]) (j := 20) (cj := 64) rfl rfl (by rfl) rfl (show _ = Value.bool _ from rfl) rfl
   ·
    intro hg21
    replace hg21 := qb hg21
    refine qab ?_
    refine qac ?_
    refine qab ?_
    refine qac ?_
    refine qbn ?_
    exact qai
   intro junk21
   refine qaf ?_
   refine q_c (fun hc4 => ?_) (fun hc4 => ?_)
   ·
    refine qae ?_
    refine qad ?_
    refine qch ?_
    refine q_i (L' := L) (R' := R) ?_
    exact ⟨by simp [mineErr, hp, FS_some hkeep2 hy (show roadErr m.places.l.length y = some 4 by simp [roadErr]; omega)]; omega, rfl, rfl⟩
   refine qbo ?_
   refine qab ?_
   refine qac ?_
   refine qaj ?_
   refine qah ?_
   apply LJ_or (G := [_, _, _]) (j := 3) (cj := 74) rfl rfl (by rfl) rfl (show _ = Value.bool _ from rfl) rfl
   ·
    intro hg4
    replace hg4 := qb hg4
    refine qab ?_
    refine qac ?_
    refine qa5 ?_
    exact qai
   intro junk4
   refine qah ?_
   apply LJ_or (G := [_, _, _]) (j := 8) (cj := 79) rfl rfl (by rfl) rfl (show _ = Value.bool _ from rfl) rfl
   ·
    intro hg9
    replace hg9 := qb hg9
    refine qab ?_
    refine qac ?_
    refine qaj ?_
    exact qai
   intro junk9
   refine qah ?_
   apply LJ_or (G := [_, _, _]) (j := 13) (cj := 84) rfl rfl (by rfl) rfl (show _ = Value.bool _ from rfl) rfl
   ·
    intro hg14
    replace hg14 := qb hg14
    refine qab ?_
    refine qac ?_
    refine qa5 ?_
    exact qai
   intro junk14
   refine qaf ?_
   refine q_c (fun hc5 => ?_) (fun hc5 => ?_)
   ·
    refine qae ?_
    refine qad ?_
    refine qch ?_
    refine q_i (L' := L) (R' := R) ?_
    exact ⟨by simp [mineErr, hp, FS_some hkeep2 hy (show roadErr m.places.l.length y = some 1 by rw [roadErr, if_neg (by omega), if_pos (by omega)])]; omega, rfl, rfl⟩
   refine qbv ?_
   refine qab ?_
   refine qbe ?_
   refine q_l rfl (spanIn_tri y.rest _ _ _ _) ?_
   refine qb4 ?_
   refine qah ?_
   apply LJ_or (G := [_, _, _, _]) (j := 4) (cj := 93) rfl rfl (by rfl) rfl (show _ = Value.bool _ from rfl) rfl
   ·
    intro hg5
    replace hg5 := qb hg5
    refine qab ?_
    refine qbe ?_
    refine q_l rfl (spanIn_tri y.lift _ _ _ _) ?_
    refine qb4 ?_
    exact qai
   intro junk5
   refine qaf ?_
   refine q_c (fun hc6 => ?_) (fun hc6 => ?_)
   ·
    refine qae ?_
    refine qad ?_
    refine qbt ?_
    refine q_i (L' := L) (R' := R) ?_
    exact ⟨by simp [mineErr, hp, FS_some hkeep2 hy (show roadErr m.places.l.length y = some 1 by rw [roadErr, if_neg (by omega), if_pos (by rcases hc6 with h | h <;> simp [h])])]; omega, rfl, rfl⟩
   refine qbj ?_
   refine qar ?_
   refine qaa ?_
   refine qav ?_
   exact q_k ⟨k2 + 1, FS_next hkeep2 hy (by rw [roadErr, if_neg (by omega), if_neg (by simp [hc6]; omega)])⟩
  have hq := FS_none hkeep2 (by omega)
  refine qbk ?_
  refine qad ?_
  refine qa0 ?_
  refine q_i (L' := L) (R' := R) ?_
  exact ⟨by simp [mineErr, hp, hq]; omega, rfl, rfl⟩

end Go.Proofs.Ytkpfjmibipblhaa

end
section
namespace Go.Proofs.Ytkpfjmibipblhaa
open Go.Aw Go
set_option maxRecDepth 20000
attribute [local irreducible] CJ LJ DJ Tri YV Gives seqK blockK loopK retK RV mergeK

def pointErr (l : List XPoint) (i : Nat) : Option Int :=
  match l[i]? with
  | none => none
  | some p => if p.flow < -1048576 ∨ 1048576 < p.flow ∨ p.pres < 0 ∨ 2199023255552 < p.pres then some 1
    else if i = 0 then none
    else match l[i - 1]? with
      | none => none
      | some q => if p.flow ≤ q.flow ∨ q.pres < p.pres then some 14 else none
def fanErr (f : XFan) : Int :=
  if f.road < 0 then 4 else if f.curve.l.length < 1 ∨ 8 < f.curve.l.length then 2
  else ((List.range f.curve.l.length).findSome? (pointErr f.curve.l)).getD 0

theorem pointErr_1 {l : List XPoint} {k : Nat} {p : XPoint} (h : l[k]? = some p) (hr : p.flow < -1048576 ∨ 1048576 < p.flow ∨ p.pres < 0 ∨ 2199023255552 < p.pres) : pointErr l k = some 1 := by
  simp only [pointErr, h, if_pos hr]
theorem pointErr_14 {l : List XPoint} {k : Nat} {p q : XPoint} (h : l[k]? = some p) (hr : ¬ (p.flow < -1048576 ∨ 1048576 < p.flow ∨ p.pres < 0 ∨ 2199023255552 < p.pres)) (hk : k ≠ 0) (h' : l[k - 1]? = some q) (hb : p.flow ≤ q.flow ∨ q.pres < p.pres) : pointErr l k = some 14 := by
  simp only [pointErr, h, if_neg hr, if_neg hk, h', if_pos hb]
theorem pointErr_0 {l : List XPoint} {k : Nat} {p : XPoint} (h : l[k]? = some p) (hr : ¬ (p.flow < -1048576 ∨ 1048576 < p.flow ∨ p.pres < 0 ∨ 2199023255552 < p.pres)) (hk : k = 0) : pointErr l k = none := by
  simp only [pointErr, h, if_neg hr, if_pos hk]
theorem pointErr_n {l : List XPoint} {k : Nat} {p q : XPoint} (h : l[k]? = some p) (hr : ¬ (p.flow < -1048576 ∨ 1048576 < p.flow ∨ p.pres < 0 ∨ 2199023255552 < p.pres)) (hk : k ≠ 0) (h' : l[k - 1]? = some q) (hb : ¬ (p.flow ≤ q.flow ∨ q.pres < p.pres)) : pointErr l k = none := by
  simp only [pointErr, h, if_neg hr, if_neg hk, h', if_neg hb]

theorem fanCheck_tri (f : XFan) (L : List Blk) (R : List Sl) (hm : InR f.sl R) :
    Tri Try.prog 91 [f.val].toArray L R (fun v L' R' => v = .int .i64 (fanErr f) ∧ L = L' ∧ R = R') := by
  refine Tri_len Try.call91 hm fun hpn => ?_
  refine tri_enter 71 Try.call91 Try.func91 rfl rfl rfl ?_
  refine qae ?_
  refine qax ?_
  intro b1
  refine qad ?_
  refine qaw ?_
  refine qab ?_
  refine qac ?_
  refine qaj ?_
  refine qaf ?_
  refine q_c (fun hc0 => ?_) (fun hc0 => ?_)
  ·
   refine qae ?_
   refine qad ?_
   refine qbh ?_
   refine q_i (L' := L) (R' := R) ?_
   exact ⟨by rw [fanErr, if_pos (by omega)], rfl, rfl⟩
  refine qbo ?_
  refine qab ?_
  refine qac ?_
  refine qag ?_
  refine qaj ?_
  refine qah ?_
  apply LJ_or (G := [_, _, _, _]) (j := 4) (cj := 12) rfl rfl (by rfl) rfl (show _ = Value.bool _ from rfl) rfl
  ·
   intro hg5
   replace hg5 := qb hg5
   refine qab ?_
   refine qac ?_
   refine qag ?_
   refine qa5 ?_
   exact qai
  intro junk5
  refine qaf ?_
  refine q_c (fun hc1 => ?_) (fun hc1 => ?_)
  ·
   refine qae ?_
   refine qad ?_
   refine qbh ?_
   refine q_i (L' := L) (R' := R) ?_
   exact ⟨by rw [fanErr, if_neg (by omega), if_pos (by omega)], rfl, rfl⟩
  refine qbo ?_
  refine qab ?_
  refine qac ?_
  refine qag ?_
  refine qaa ?_
  refine qa2 ?_
  refine CJ_forget [(1, Value.pointer _), (19, Value.slice _ _ _), (20, Value.int _ _), (21, Value.int _ _)] (by repeat' (first | exact trivial | refine And.intro rfl ?_)) fun tq0 => ?_
  refine q_s [2, 3, 4, 21, 22, 23, 24, 25, 26, 27, 28, 29, 30, 31, 32, 33, 34, 35, 36, 37, 38, 39, 40, 41, 42, 43, 44, 45, 46, 47, 48, 49, 50, 51, 52, 53, 54, 55, 56, 57, 58, 59, 60, 61, 62, 63, 64, 65, 66, 67, 68, 69, 70] (fun g : FSR (pointErr f.curve.l) (f.curve.l.length) => [(21, .int .i64 ((g.1 : Nat) : Int))]) (fun g => (f.curve.l.length) - g.1) ⟨0, FSR_zero _ _⟩ ?_
  rintro ⟨k0, hk0, hp0⟩ junk
  try dsimp only
  refine qae ?_
  refine qaj ?_
  refine qa4 ?_
  refine q_c (fun hc2 => ?_) (fun hc2 => ?_)
  ·
   obtain ⟨p, hp⟩ := get_some (l := f.curve.l) (k := k0) (by omega)
   refine qbb ?_
   refine qaa ?_
   refine yafaa ?_
   refine qdl ?_
   refine qaq ?_
   intro b4
   refine qad ?_
   refine qak ?_
   refine qaw ?_
   refine qab ?_
   refine qac ?_
   refine qaj ?_
   refine qah ?_
   apply LJ_or (G := [_, _, _]) (j := 3) (cj := 29) rfl rfl (by rfl) rfl (show _ = Value.bool _ from rfl) rfl
   ·
    intro hg4
    replace hg4 := qb hg4
    refine qab ?_
    refine qac ?_
    refine qa5 ?_
    exact qai
   intro junk4
   refine qah ?_
   apply LJ_or (G := [_, _, _]) (j := 8) (cj := 34) rfl rfl (by rfl) rfl (show _ = Value.bool _ from rfl) rfl
   ·
    intro hg9
    replace hg9 := qb hg9
    refine qab ?_
    refine qac ?_
    refine qaj ?_
    exact qai
   intro junk9
   refine qah ?_
   apply LJ_or (G := [_, _, _]) (j := 13) (cj := 39) rfl rfl (by rfl) rfl (show _ = Value.bool _ from rfl) rfl
   ·
    intro hg14
    replace hg14 := qb hg14
    refine qab ?_
    refine qac ?_
    refine qa5 ?_
    exact qai
   intro junk14
   refine qaf ?_
   refine q_c (fun hc3 => ?_) (fun hc3 => ?_)
   ·
    refine qae ?_
    refine qad ?_
    refine qch ?_
    refine q_i (L' := L) (R' := R) ?_
    exact ⟨by rw [fanErr, if_neg (by omega), if_neg (by omega), FSR_some hp0 (by omega) (pointErr_1 hp (by omega))]; rfl, rfl, rfl⟩
   refine qcl ?_
   refine CJ_drawn tb [0, 1, 2, 3, 4, 5, 6, 7, 8, 9, 10, 11, 12, 13, 14, 15, 16, 17, 18, 19, 20, 21, 22, 23, 24, 25] _ mixed (by kernel_rfl) (List.Sublist.refl _) ?_
   refine qao ?_
   refine DJ_q (yv_gtr rfl rfl) rfl rfl rfl ?_
   refine qb2 ?_
   refine DJ_case (k := 46) (show _ = Value.bool _ from rfl) (fun hg2 => ?_) (fun hg2 => ?_)
   ·
    replace hg2 := qb hg2
    obtain ⟨q, hq⟩ := get_some (l := f.curve.l) (k := k0 - 1) (by omega)
    refine qal ?_
    refine qat ?_
    refine qal ?_
    refine qat ?_
    refine qao ?_
    refine qb7 ?_
    refine yafab ?_
    refine qce ?_
    refine qbl ?_
    refine DJ_q (yv_leq rfl rfl) rfl rfl rfl ?_
    refine qb2 ?_
    refine DJ_case (k := 57) (show _ = Value.bool _ from rfl) (fun hg13 => ?_) (fun hg13 => ?_)
    ·
     replace hg13 := qb hg13
     iterate 10 refine qap ?_
     refine qbp ?_
     refine qbp ?_
     refine qbu ?_
     refine CJ_cond_true rfl ?_
     refine qae ?_
     refine qad ?_
     refine qbt ?_
     refine q_i (L' := L) (R' := R) ?_
     exact yafac
    replace hg13 := qb hg13
    refine qal ?_
    refine qat ?_
    refine qal ?_
    refine qat ?_
    refine qao ?_
    refine qb7 ?_
    refine yafab ?_
    refine qce ?_
    refine qbl ?_
    refine DJ_q (yv_gtr rfl rfl) rfl rfl rfl ?_
    refine qbp ?_
    refine qbp ?_
    refine qbu ?_
    refine q_c (fun hc4 => ?_) (fun hc4 => ?_)
    ·
     refine qae ?_
     refine qad ?_
     refine qbt ?_
     refine q_i (L' := L) (R' := R) ?_
     exact yafac
    refine qbj ?_
    refine qar ?_
    refine qaa ?_
    refine qav ?_
    exact q_k ⟨k0 + 1, FSR_next hp0 (by omega) (by first | exact pointErr_0 hp (by omega) (by omega) | exact pointErr_n hp (by omega) (by omega) hq (by omega))⟩
   replace hg2 := qb hg2
   iterate 22 refine qap ?_
   refine qbp ?_
   refine qbu ?_
   refine CJ_cond_false rfl ?_
   refine qbj ?_
   refine qar ?_
   refine qaa ?_
   refine qav ?_
   exact q_k ⟨k0 + 1, FSR_next hp0 (by omega) (by first | exact pointErr_0 hp (by omega) (by omega) | exact pointErr_n hp (by omega) (by omega) hq (by omega))⟩
  have hn0 := FSR_none hp0 (by omega)
  refine qbk ?_
  refine qad ?_
  refine qa0 ?_
  refine q_i (L' := L) (R' := R) ?_
  exact ⟨by rw [fanErr, if_neg (by omega), if_neg (by omega), hn0]; rfl, rfl, rfl⟩

end Go.Proofs.Ytkpfjmibipblhaa

end
section
namespace Go.Proofs.Ytkpfjmibipblhaa
open Go.Aw Go
set_option maxRecDepth 20000
attribute [local irreducible] CJ LJ DJ Tri YV Gives seqK blockK loopK retK RV mergeK

def restErr (x : Int) : Option Int := if x < 0 ∨ 262144 < x then some 1 else none
def fallsB (l : List Int) : Nat → Bool
  | 0 => true
  | k + 1 => fallsB l k && (decide (k = 0) || decide (l.getD k 0 < l.getD (k - 1) 0))
theorem fallsB_step {l : List Int} {k : Nat} {x : Int} (hx : l[k]? = some x) : (fallsB l k && (decide ((k : Int) = 0) || decide (x < l.getD (k - 1) 0))) = fallsB l (k + 1) := by
  rw [fallsB, getD_some hx]
  congr 2
  simp only [decide_eq_decide]; omega
abbrev pairBad (l : List XDoor) (i : Nat) (d : XDoor) : Prop :=
  d.other ≠ -1 ∧ (d.other < 0 ∨ (l.length : Int) ≤ d.other ∨ d.other = (i : Int) ∨ (l.getD d.other.toNat default).other ≠ (i : Int))
def doorErr (l : List XDoor) (i : Nat) : Option Int :=
  match l[i]? with
  | none => none
  | some d => if d.road < 0 then some 4 else if d.rests.l.length < 2 ∨ 6 < d.rests.l.length then some 2
    else match d.rests.l.findSome? restErr with
      | some e => some e
      | none => if fallsB d.rests.l d.rests.l.length = false then some 15 else if pairBad l i d then some 15 else none
def doorsErr (l : List XDoor) : Int := if 16 < l.length then 2 else ((List.range l.length).findSome? (doorErr l)).getD 0

theorem doorErr_at {l : List XDoor} {i : Nat} {d : XDoor} (h : l[i]? = some d) : doorErr l i = if d.road < 0 then some 4 else if d.rests.l.length < 2 ∨ 6 < d.rests.l.length then some 2
    else match d.rests.l.findSome? restErr with
      | some e => some e
      | none => if fallsB d.rests.l d.rests.l.length = false then some 15 else if pairBad l i d then some 15 else none := by
  rw [doorErr, h]

theorem doorsErr_at {l : List XDoor} {k : Nat} {e : Int} (h16 : ¬ 16 < l.length) (hp : (List.range l.length).findSome? (doorErr l) = ((List.range l.length).drop k).findSome? (doorErr l)) (hk : k < l.length) (h : doorErr l k = some e) : doorsErr l = e := by
  rw [doorsErr, if_neg h16, FSR_some hp hk h]; rfl

theorem doorCheck_tri (x : Arr XDoor) (L : List Blk) (R : List Sl) (hm : InR (dsl x) R) :
    Tri Try.prog 92 [x.val].toArray L R (fun v L' R' => v = .int .i64 (doorsErr x.l) ∧ L = L' ∧ R = R') := by
  refine Tri_len Try.call92 hm fun hpn => ?_
  refine tri_enter 95 Try.call92 Try.func92 rfl rfl rfl ?_
  refine qae ?_
  refine qad ?_
  refine qaw ?_
  refine qbm ?_
  refine qag ?_
  refine qa5 ?_
  refine qaf ?_
  refine q_c (fun hc0 => ?_) (fun hc0 => ?_)
  ·
   refine qae ?_
   refine qad ?_
   refine qbh ?_
   refine q_i (L' := L) (R' := R) ?_
   exact ⟨by rw [doorsErr, if_pos (by omega)], rfl, rfl⟩
  refine qbo ?_
  refine qbm ?_
  refine qag ?_
  refine qaa ?_
  refine qa2 ?_
  refine CJ_forget [(0, Value.slice _ _ _), (11, Value.slice _ _ _), (12, Value.int _ _), (13, Value.int _ _)] (by repeat' (first | exact trivial | refine And.intro rfl ?_)) fun tq0 => ?_
  refine q_s [2, 3, 4, 5, 6, 7, 13, 14, 15, 16, 17, 18, 19, 20, 21, 22, 23, 24, 25, 26, 27, 28, 29, 30, 31, 32, 33, 34, 35, 36, 37, 38, 39, 40, 41, 42, 43, 44, 45, 46, 47, 48, 49, 50, 51, 52, 53, 54, 55, 56, 57, 58, 59, 60, 61, 62, 63, 64, 65, 66, 67, 68, 69, 70, 71, 72, 73, 74, 75, 76, 77, 78, 79, 80, 81, 82, 83, 84, 85, 86, 87, 88, 89, 90, 91, 92, 93, 94] (fun g : FSR (doorErr x.l) (x.l.length) => [(13, .int .i64 ((g.1 : Nat) : Int))]) (fun g => (x.l.length) - g.1) ⟨0, FSR_zero _ _⟩ ?_
  rintro ⟨k0, hk0, hp0⟩ junk
  try dsimp only
  refine qae ?_
  refine qaj ?_
  refine qa4 ?_
  refine q_c (fun hc1 => ?_) (fun hc1 => ?_)
  ·
   obtain ⟨d, hd⟩ := get_some (l := x.l) (k := k0) (by omega)
   have hdr := InR.door hm hd
   have hde := doorErr_at hd
   refine qbb ?_
   refine qaa ?_
   refine yafaa ?_
   refine qdk ?_
   refine qaq ?_
   intro b4
   refine qad ?_
   refine qak ?_
   refine qaw ?_
   refine qab ?_
   refine qac ?_
   refine qaj ?_
   refine qaf ?_
   refine q_c (fun hc2 => ?_) (fun hc2 => ?_)
   ·
    refine qae ?_
    refine qad ?_
    refine qch ?_
    refine q_i (L' := L) (R' := R) ?_
    exact ⟨by rw [doorsErr_at (by omega) hp0 (by omega) (hde.trans (if_pos (by omega)))], rfl, rfl⟩
   refine qbo ?_
   refine qab ?_
   refine qac ?_
   refine qag ?_
   refine qaj ?_
   refine qah ?_
   apply LJ_or (G := [_, _, _, _]) (j := 4) (cj := 25) rfl rfl (by rfl) rfl (show _ = Value.bool _ from rfl) rfl
   ·
    intro hg5
    replace hg5 := qb hg5
    refine qab ?_
    refine qac ?_
    refine qag ?_
    refine qa5 ?_
    exact qai
   intro junk5
   refine qaf ?_
   refine q_c (fun hc3 => ?_) (fun hc3 => ?_)
   ·
    refine qae ?_
    refine qad ?_
    refine qch ?_
    refine q_i (L' := L) (R' := R) ?_
    exact ⟨by rw [doorsErr_at (by omega) hp0 (by omega) (hde.trans (by rw [if_neg (by omega), if_pos (by omega)]))], rfl, rfl⟩
   rw [if_neg (by omega), if_neg (by omega)] at hde
   refine qbv ?_
   refine qaz ?_
   refine qaw ?_
   refine qab ?_
   refine qac ?_
   refine qag ?_
   refine qaa ?_
   refine qa2 ?_
   refine CJ_forgetW [2, 3, 4, 5, 6, 7, 13, 14, 15, 16, 17, 18, 19, 20, 21, 22, 23, 24, 25, 26, 27, 28, 29, 30, 31, 32, 33, 34, 35, 36, 37, 38, 39, 40, 41, 42, 43, 44, 45, 46, 47, 48, 49, 50, 51, 52, 53, 54, 55, 56, 57, 58, 59, 60, 61, 62, 63, 64, 65, 66, 67, 68, 69, 70, 71, 72, 73, 74, 75, 76, 77, 78, 79, 80, 81, 82, 83, 84, 85, 86, 87, 88, 89, 90, 91, 92, 93, 94] (by repeat (first | apply Off.upd rfl | apply Off.havoc rfl | refine Off.updL (t' := havoc _ _ _) rfl ?_ | exact Off.refl)) [(3, Value.int _ _), (4, Value.pointer _), (5, Value.bool _), (13, Value.int _ _), (32, Value.slice _ _ _), (33, Value.int _ _), (34, Value.int _ _)] (by repeat' (first | exact trivial | refine And.intro rfl ?_)) fun tq1 => ?_
   refine q_s [2, 5, 6, 7, 34, 35, 36, 37, 38, 39, 40, 41, 42, 43, 44, 45, 46, 47, 48, 49, 50, 51, 52, 53, 54, 55, 56, 57, 58, 59, 60] (fun g : FS (restErr) (d.rests.l) => [(34, .int .i64 ((g.1 : Nat) : Int)), (5, .bool (fallsB d.rests.l g.1))]) (fun g => (d.rests.l).length - g.1) ⟨0, FS_zero _ _⟩ ?_
   rintro ⟨k1, hk1, hp1⟩ junk
   try dsimp only
   refine qae ?_
   refine qaj ?_
   refine qa4 ?_
   refine q_c (fun hc4 => ?_) (fun hc4 => ?_)
   ·
    obtain ⟨r, hr⟩ := get_some (l := d.rests.l) (k := k1) (by omega)
    refine qbb ?_
    refine qaa ?_
    refine yafad ?_
    refine qa7 ?_
    refine qad ?_
    refine qad ?_
    refine qaw ?_
    refine qaa ?_
    refine qaj ?_
    refine qah ?_
    apply LJ_or (G := [_, _]) (j := 2) (cj := 41) rfl rfl (by rfl) rfl (show _ = Value.bool _ from rfl) rfl
    ·
     intro hg3
     replace hg3 := qb hg3
     refine qaa ?_
     refine qa5 ?_
     exact qai
    intro junk3
    refine qaf ?_
    refine q_c (fun hc5 => ?_) (fun hc5 => ?_)
    ·
     refine qae ?_
     refine qad ?_
     refine LJ_nil (seqK_normal (CJ_ret (seqK_ret (blockK_ret (seqK_ret (loopK_ret (blockK_ret (seqK_ret (blockK_ret (seqK_ret (loopK_ret (blockK_ret (seqK_ret ?_)))))))))))))
     refine q_i (L' := L) (R' := R) ?_
     exact ⟨by rw [doorsErr_at (by omega) hp0 (by omega) (hde.trans (by rw [FS_some hp1 hr (if_pos (by omega))]))], rfl, rfl⟩
    refine CJ_skip (seqK_normal (CJ_region ?_))
    refine qah ?_
    refine qah ?_
    apply LJ_and (G := [_, _, _, _, _, _, _, _, _, _, _, _]) (j := 1) (cj := 46) rfl rfl (by rfl) rfl (show _ = Value.bool _ from rfl) rfl
    ·
     intro hg2
     replace hg2 := qb hg2
     refine qaa ?_
     refine qbn ?_
     refine qah ?_
     apply LJ_or (G := [_, _, _, _, _, _, _, _]) (j := 4) (cj := 49) rfl rfl (by rfl) rfl (show _ = Value.bool _ from rfl) rfl
     ·
      intro hg5
      replace hg5 := qb hg5
      have hy := get_D (l := d.rests.l) (k := k1 - 1) 0 (by omega)
      refine qaa ?_
      refine qab ?_
      refine qac ?_
      refine qaa ?_
      refine qa9 ?_
      refine LJ_q (by first | exact yv_index_ro tb rfl rfl rfl rfl (by first | assumption | exact zr (by simp)) (i := k1 - 1) (by first | rfl | omega | (simp; omega)) (by omega) | exact yv_index tb rfl rfl rfl rfl (i := k1 - 1) (by first | rfl | omega | (simp; omega)) (by omega)) rfl ?_
      refine qa7 ?_
      refine qaj ?_
      exact qai
     intro junk5
     exact qai
    intro junk2
    refine qaz ?_
    refine qcs ?_
    refine qar ?_
    refine qaa ?_
    refine qav ?_
    exact loopK_mk ⟨k1 + 1, FS_next hp1 hr (if_neg (by omega))⟩ (by repeat (first | exact Off.refl | apply Off.upd rfl | apply Off.havoc rfl | apply Off.updL rfl | apply Off.left rfl)) ⟨rfl, congrArg Value.bool (fallsB_step hr), trivial⟩ (by repeat (first | exact zs0 _ | exact zs1 _ | apply zs2 | apply zs3 | apply zs4 | apply zs5)) (allR_self _) (by dsimp only; omega)
   have hn1 := FS_none hp1 (by omega)
   obtain rfl : k1 = d.rests.l.length := by omega
   rw [hn1] at hde
   dsimp only at hde
   refine qcf ?_
   refine qah ?_
   refine qb4 ?_
   refine qaf ?_
   refine q_c (fun hc6 => ?_) (fun hc6 => ?_)
   ·
    refine qae ?_
    refine qad ?_
    refine qch ?_
    refine q_i (L' := L) (R' := R) ?_
    exact ⟨by rw [doorsErr_at (by omega) hp0 (by omega) (hde.trans (by rw [if_pos hc6]))], rfl, rfl⟩
   rw [if_neg (by simp [hc6])] at hde
   refine qbv ?_
   refine qab ?_
   refine qac ?_
   refine qbq ?_
   refine qah ?_
   apply LJ_and (G := [_, _, _, _, _, _, _, _, _, _, _, _, _, _, _, _, _, _, _, _, _, _, _, _, _, _]) (j := 3) (cj := 66) rfl rfl (by rfl) rfl (show _ = Value.bool _ from rfl) rfl
   ·
    intro hg4
    replace hg4 := qb hg4
    refine qab ?_
    refine qac ?_
    refine qaj ?_
    refine qah ?_
    apply LJ_or (G := [_, _, _, _, _]) (j := 7) (cj := 70) rfl rfl (by rfl) rfl (show _ = Value.bool _ from rfl) rfl
    ·
     intro hg8
     replace hg8 := qb hg8
     refine qab ?_
     refine qac ?_
     refine qbm ?_
     refine qag ?_
     refine qbz ?_
     exact qai
    intro junk8
    refine qah ?_
    apply LJ_or (G := [_, _, _, _]) (j := 14) (cj := 77) rfl rfl (by rfl) rfl (show _ = Value.bool _ from rfl) rfl
    ·
     intro hg15
     replace hg15 := qb hg15
     refine qab ?_
     refine qac ?_
     refine qaa ?_
     refine qbn ?_
     exact qai
    intro junk15
    refine qah ?_
    apply LJ_or (G := [_, _, _, _, _, _, _, _]) (j := 20) (cj := 83) rfl rfl (by rfl) rfl (show _ = Value.bool _ from rfl) rfl
    ·
     intro hg21
     replace hg21 := qb hg21
     have ho := get_D (l := x.l) (k := d.other.toNat) default (by omega)
     refine qbm ?_
     refine qab ?_
     refine qac ?_
     refine LJ_q (by first | exact yv_index_ro tb rfl rfl rfl rfl (by first | assumption | exact zr (by simp)) (i := d.other.toNat) (by first | rfl | omega | (simp; omega)) (by omega) | exact yv_index tb rfl rfl rfl rfl (i := d.other.toNat) (by first | rfl | omega | (simp; omega)) (by omega)) rfl ?_
     refine qb0 ?_
     refine qa7 ?_
     refine qaa ?_
     refine qbq ?_
     exact qai
    intro junk21
    exact qai
   intro junk4
   refine qaf ?_
   refine q_c (fun hc7 => ?_) (fun hc7 => ?_)
   ·
    refine qae ?_
    refine qad ?_
    refine qbt ?_
    refine q_i (L' := L) (R' := R) ?_
    exact ⟨by rw [doorsErr_at (by omega) hp0 (by omega) (hde.trans (by rw [if_pos (by omega)]))], rfl, rfl⟩
   refine qbj ?_
   refine qar ?_
   refine qaa ?_
   refine qav ?_
   exact q_k ⟨k0 + 1, FSR_next hp0 (by omega) (hde.trans (if_neg (by omega)))⟩
  have hn0 := FSR_none hp0 (by omega)
  refine qbk ?_
  refine qad ?_
  refine qa0 ?_
  refine q_i (L' := L) (R' := R) ?_
  exact ⟨by rw [doorsErr, if_neg (by omega), hn0]; rfl, rfl, rfl⟩

end Go.Proofs.Ytkpfjmibipblhaa

end
section
namespace Go.Proofs.Ytkpfjmibipblhaa
open Go.Aw Go
set_option maxRecDepth 20000
attribute [local irreducible] CJ LJ DJ Tri YV Gives seqK blockK loopK retK RV mergeK

def fanIn (n : Nat) (f : XFan) : Option Int := if fanErr f ≠ 0 then some (fanErr f) else if (n : Int) ≤ f.road then some 4 else none
def doorIn (n : Nat) (d : XDoor) : Option Int := if (n : Int) ≤ d.road then some 4 else none
def airErr (x : XAir) : Int :=
  if mineErr x.mine ≠ 0 then mineErr x.mine else if 8 < x.fans.l.length then 2
  else match x.fans.l.findSome? (fanIn x.mine.roads.l.length) with
    | some e => e
    | none => if doorsErr x.doors.l ≠ 0 then doorsErr x.doors.l else (x.doors.l.findSome? (doorIn x.mine.roads.l.length)).getD 0

theorem airErr_fan {x : XAir} (h : mineErr x.mine = 0) (h8 : ¬ 8 < x.fans.l.length) {e : Int} (hf : x.fans.l.findSome? (fanIn x.mine.roads.l.length) = some e) : airErr x = e := by
  rw [airErr, if_neg (by omega), if_neg h8, hf]
theorem airErr_rest {x : XAir} (h : mineErr x.mine = 0) (h8 : ¬ 8 < x.fans.l.length) (hf : x.fans.l.findSome? (fanIn x.mine.roads.l.length) = none) :
    airErr x = if doorsErr x.doors.l ≠ 0 then doorsErr x.doors.l else (x.doors.l.findSome? (doorIn x.mine.roads.l.length)).getD 0 := by
  rw [airErr, if_neg (by omega), if_neg h8, hf]

theorem branchCheck_tri (x : XAir) (L : List Blk) (R : List Sl) (hm : AirR x R) :
    Tri Try.prog 52 [x.val].toArray L R (fun v L' R' => v = .int .i64 (airErr x) ∧ L = L' ∧ R = R') := by
  have hfa := hm.fans
  have hdo := hm.doors
  refine Tri_len Try.call52 hfa fun hfn => ?_
  refine Tri_len Try.call52 hdo fun hdn => ?_
  refine tri_enter 61 Try.call52 Try.func52 rfl rfl rfl ?_
  refine qae ?_
  refine qax ?_
  intro b1
  refine qad ?_
  refine qaw ?_
  refine qab ?_
  refine qbe ?_
  refine q_l rfl (planCheck_tri x.mine _ _ hm.mineR) ?_
  refine qad ?_
  refine qam ?_
  refine qaa ?_
  refine qbq ?_
  refine qaf ?_
  refine q_c (fun hc0 => ?_) (fun hc0 => ?_)
  ·
   refine qae ?_
   refine qaa ?_
   refine qad ?_
   refine qbh ?_
   refine q_i (L' := L) (R' := R) ?_
   exact ⟨by rw [airErr, if_pos hc0], rfl, rfl⟩
  simp only [Decidable.not_not] at hc0
  refine qbo ?_
  refine qab ?_
  refine qac ?_
  refine qag ?_
  refine qa5 ?_
  refine qaf ?_
  refine q_c (fun hc1 => ?_) (fun hc1 => ?_)
  ·
   refine qae ?_
   refine qad ?_
   refine qbh ?_
   refine q_i (L' := L) (R' := R) ?_
   exact ⟨by rw [airErr, if_neg (by omega), if_pos (by omega)], rfl, rfl⟩
  refine qbo ?_
  refine qab ?_
  refine qac ?_
  refine qag ?_
  refine qaa ?_
  refine qa2 ?_
  refine CJ_forget [(1, Value.pointer _), (21, Value.slice _ _ _), (22, Value.int _ _), (23, Value.int _ _)] (by repeat' (first | exact trivial | refine And.intro rfl ?_)) fun tq0 => ?_
  refine q_s [2, 5, 6, 23, 24, 25, 26, 27, 28, 29, 30, 31, 32, 33, 34, 35, 36, 37, 38, 39] (fun g : FS (fanIn x.mine.roads.l.length) (x.fans.l) => [(23, .int .i64 ((g.1 : Nat) : Int))]) (fun g => (x.fans.l).length - g.1) ⟨0, FS_zero _ _⟩ ?_
  rintro ⟨k0, hk0, hp0⟩ junk
  try dsimp only
  refine qae ?_
  refine qaj ?_
  refine qa4 ?_
  refine q_c (fun hc2 => ?_) (fun hc2 => ?_)
  ·
   obtain ⟨f, hf⟩ := get_some (l := x.fans.l) (k := k0) (by omega)
   have hfr := InR.fan hfa hf
   refine qbb ?_
   refine yafaa ?_
   refine qdr ?_
   refine qaq ?_
   intro b5
   refine qak ?_
   refine qaw ?_
   refine qa8 ?_
   refine q_l rfl (fanCheck_tri f _ _ hfr) ?_
   skip
   refine qad ?_
   refine qam ?_
   refine qaa ?_
   refine qbq ?_
   refine qaf ?_
   refine q_c (fun hc3 => ?_) (fun hc3 => ?_)
   ·
    refine qae ?_
    refine qaa ?_
    refine qad ?_
    refine qch ?_
    refine q_i (L' := L) (R' := R) ?_
    exact ⟨by rw [airErr_fan hc0 (by omega) (FS_some hp0 hf (if_pos hc3))], rfl, rfl⟩
   refine qbv ?_
   refine qab ?_
   refine qac ?_
   refine qab ?_
   refine qab ?_
   refine qac ?_
   refine qag ?_
   refine qbz ?_
   refine qaf ?_
   refine q_c (fun hc4 => ?_) (fun hc4 => ?_)
   ·
    refine qae ?_
    refine qad ?_
    refine qbt ?_
    refine q_i (L' := L) (R' := R) ?_
    exact ⟨by rw [airErr_fan hc0 (by omega) (FS_some hp0 hf ((if_neg hc3).trans (if_pos hc4)))], rfl, rfl⟩
   refine qbj ?_
   refine qar ?_
   refine qaa ?_
   refine qav ?_
   exact q_k ⟨k0 + 1, FS_next hp0 hf ((if_neg hc3).trans (if_neg hc4))⟩
  have hn0 := FS_none hp0 (by omega)
  have hr := airErr_rest hc0 (by omega) hn0
  refine qcf ?_
  refine qab ?_
  refine qac ?_
  refine q_l rfl (doorCheck_tri x.doors _ _ hdo) ?_
  refine qad ?_
  refine qam ?_
  refine qaa ?_
  refine qbq ?_
  refine qaf ?_
  refine q_c (fun hc5 => ?_) (fun hc5 => ?_)
  ·
   refine qae ?_
   refine qaa ?_
   refine qad ?_
   refine qbh ?_
   refine q_i (L' := L) (R' := R) ?_
   exact ⟨by rw [hr, if_pos hc5], rfl, rfl⟩
  rw [if_neg hc5] at hr
  refine qbo ?_
  refine qab ?_
  refine qac ?_
  refine qag ?_
  refine qaa ?_
  refine qa2 ?_
  refine CJ_forget [(1, Value.pointer _), (47, Value.slice _ _ _), (48, Value.int _ _), (49, Value.int _ _)] (by repeat' (first | exact trivial | refine And.intro rfl ?_)) fun tq1 => ?_
  refine q_s [2, 9, 49, 50, 51, 52, 53, 54, 55, 56, 57, 58, 59, 60] (fun g : FS (doorIn x.mine.roads.l.length) (x.doors.l) => [(49, .int .i64 ((g.1 : Nat) : Int))]) (fun g => (x.doors.l).length - g.1) ⟨0, FS_zero _ _⟩ ?_
  rintro ⟨k1, hk1, hp1⟩ junk
  try dsimp only
  refine qae ?_
  refine qaj ?_
  refine qa4 ?_
  refine q_c (fun hc6 => ?_) (fun hc6 => ?_)
  ·
   obtain ⟨d, hd⟩ := get_some (l := x.doors.l) (k := k1) (by omega)
   refine qbb ?_
   refine yafad ?_
   refine qdk ?_
   refine qaq ?_
   intro b9
   refine qak ?_
   refine qam ?_
   refine qab ?_
   refine qac ?_
   refine qab ?_
   refine qab ?_
   refine qac ?_
   refine qag ?_
   refine qbz ?_
   refine qaf ?_
   refine q_c (fun hc7 => ?_) (fun hc7 => ?_)
   ·
    refine qae ?_
    refine qad ?_
    refine qbt ?_
    refine q_i (L' := L) (R' := R) ?_
    exact ⟨by rw [hr, FS_some hp1 hd (if_pos hc7)]; rfl, rfl, rfl⟩
   refine qbj ?_
   refine qar ?_
   refine qaa ?_
   refine qav ?_
   exact q_k ⟨k1 + 1, FS_next hp1 hd (if_neg hc7)⟩
  have hn1 := FS_none hp1 (by omega)
  refine qbk ?_
  refine qad ?_
  refine qa0 ?_
  refine q_i (L' := L) (R' := R) ?_
  exact ⟨by rw [hr, hn1]; rfl, rfl, rfl⟩

def fanStBad (x : Int) : Option Unit := if x < -1 ∨ 2 < x then some () else none
def doorStBad (l : List XDoor) (s : List Int) (i : Nat) : Option Unit :=
  match s[i]?, l[i]? with
  | some y, some d => if y < -1 ∨ (d.rests.l.length : Int) ≤ y then some () else none
  | _, _ => none
def fitB (a : XAir) (s : XSetting) : Bool :=
  if s.fans.l.length ≠ a.fans.l.length ∨ s.doors.l.length ≠ a.doors.l.length then false
  else (s.fans.l.findSome? fanStBad).isNone && ((List.range s.doors.l.length).findSome? (doorStBad a.doors.l s.doors.l)).isNone
end Go.Proofs.Ytkpfjmibipblhaa

end
section
namespace Go.Proofs.Ytkpfjmibipblhaa
open Go.Aw Go
set_option maxRecDepth 20000
attribute [local irreducible] CJ LJ DJ Tri YV Gives seqK blockK loopK retK RV mergeK

def minTo (l : List Int) : Nat → Int
  | 0 => l.getD 0 0
  | k + 1 => min (minTo l k) (l.getD k 0)
def maxTo (l : List Int) : Nat → Int
  | 0 => l.getD 0 0
  | k + 1 => max (maxTo l k) (l.getD k 0)
def restS (d : XDoor) (s : Int) : XSpan :=
  if d.rests.l.length = 0 ∨ s < -1 ∨ (d.rests.l.length : Int) ≤ s then ⟨0, 0⟩
  else if s = -1 then ⟨minTo d.rests.l d.rests.l.length, maxTo d.rests.l d.rests.l.length⟩
  else ⟨d.rests.l.getD s.toNat 0, d.rests.l.getD s.toNat 0⟩

end Go.Proofs.Ytkpfjmibipblhaa

end
