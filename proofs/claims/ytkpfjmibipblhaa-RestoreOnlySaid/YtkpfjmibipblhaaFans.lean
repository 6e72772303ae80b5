/-
  Fans: FanN, FanS, FanW, Pipe, Search, AirS, Inner, Ref09, in one text. By an AI agent; no person has read it.
-/
import Derived.Test.YtkpfjmibipblhaaChecks
set_option linter.unusedSimpArgs false
set_option linter.unusedVariables false
section
namespace Go.Proofs.Ytkpfjmibipblhaa
open Go.Aw Go
set_option maxRecDepth 20000
attribute [local irreducible] CJ LJ DJ Tri YV Gives seqK blockK loopK retK RV mergeK

def betweenS (a b : XPoint) (q : Int) : XSpan :=
  ⟨a.pres - (a.pres - b.pres) * (q - a.flow) / (b.flow - a.flow) - (if 0 < (a.pres - b.pres) * (q - a.flow) % (b.flow - a.flow) then 1 else 0), a.pres - (a.pres - b.pres) * (q - a.flow) / (b.flow - a.flow)⟩

end Go.Proofs.Ytkpfjmibipblhaa

end
section
namespace Go.Proofs.Ytkpfjmibipblhaa
open Go.Aw Go

structure CurveOk (l : List XPoint) : Prop where
  pt : ∀ (i : Nat) (p : XPoint), l[i]? = some p → -1048576 ≤ p.flow ∧ p.flow ≤ 1048576 ∧ 0 ≤ p.pres ∧ p.pres ≤ 2199023255552
  st : ∀ (i : Nat) (p r : XPoint), l[i]? = some p → l[i + 1]? = some r → p.flow < r.flow ∧ r.pres ≤ p.pres
structure FanOk (f : XFan) : Prop where
  road : 0 ≤ f.road
  len1 : 1 ≤ f.curve.l.length
  len8 : f.curve.l.length ≤ 8
  ok : CurveOk f.curve.l

theorem fanOk_of {f : XFan} (h : fanErr f = 0) : FanOk f := by
  unfold fanErr at h
  split at h
  · cases h
  rename_i h1
  split at h
  · cases h
  rename_i h2
  have hn : (List.range f.curve.l.length).findSome? (pointErr f.curve.l) = none := by
    cases hf : (List.range f.curve.l.length).findSome? (pointErr f.curve.l) with
    | none => rfl
    | some e =>
      rw [hf] at h
      simp only [Option.getD_some] at h
      subst h
      obtain ⟨i, _, hi⟩ := List.exists_of_findSome?_eq_some hf
      unfold pointErr at hi
      split at hi
      · cases hi
      · split at hi
        · cases hi
        · split at hi
          · cases hi
          · split at hi
            · cases hi
            · split at hi <;> cases hi
  have hall : ∀ (i : Nat) (p : XPoint), f.curve.l[i]? = some p → pointErr f.curve.l i = none := fun i p hp => by
    obtain ⟨hi, _⟩ := List.getElem?_eq_some_iff.1 hp
    exact List.findSome?_eq_none_iff.1 hn i (List.mem_range.2 hi)
  have hpt : ∀ (i : Nat) (p : XPoint), f.curve.l[i]? = some p → -1048576 ≤ p.flow ∧ p.flow ≤ 1048576 ∧ 0 ≤ p.pres ∧ p.pres ≤ 2199023255552 := fun i p hp => by
    have := hall i p hp
    by_cases hr : p.flow < -1048576 ∨ 1048576 < p.flow ∨ p.pres < 0 ∨ 2199023255552 < p.pres
    · rw [pointErr_1 hp hr] at this; cases this
    · omega
  refine ⟨by omega, by omega, by omega, hpt, fun i p r hp hr => ?_⟩
  have := hall (i + 1) r hr
  have b := hpt _ _ hr
  by_cases hb : r.flow ≤ p.flow ∨ p.pres < r.pres
  · rw [pointErr_14 hr (by omega) (by omega) (by simpa using hp) hb] at this; cases this
  · omega

def curveGo (p : XPoint) : List XPoint → Int → XSpan
  | [], _ => ⟨p.pres, p.pres⟩
  | r :: rest, q => if q ≤ r.flow then betweenS p r q else curveGo r rest q
def curveS (l : List XPoint) (q : Int) : XSpan :=
  match l with
  | [] => ⟨0, 0⟩
  | p :: rest => if q ≤ p.flow then ⟨p.pres, p.pres⟩ else curveGo p rest q
def negS (s : XSpan) : XSpan := ⟨-s.high, -s.low⟩
def alongS (l : List XPoint) (back : Bool) (q : Int) : XSpan := if back then negS (curveS l (-q)) else curveS l q
def stateS (f : XFan) (s q : Int) : XSpan :=
  if s = 1 then alongS f.curve.l f.back q else if s = 2 then alongS f.curve.l (!f.back) q
  else if s = -1 then ⟨min (min 0 (alongS f.curve.l false q).low) (alongS f.curve.l true q).low, max (max 0 (alongS f.curve.l false q).high) (alongS f.curve.l true q).high⟩
  else ⟨0, 0⟩

theorem between_bounds {a b : XPoint} {q : Int} (hp : 0 ≤ b.pres ∧ b.pres ≤ a.pres ∧ a.pres ≤ 2199023255552) (hf : -1048576 ≤ a.flow ∧ a.flow ≤ q ∧ q ≤ b.flow ∧ a.flow < b.flow ∧ b.flow ≤ 1048576) :
    b.pres ≤ (betweenS a b q).low ∧ (betweenS a b q).low ≤ (betweenS a b q).high ∧ (betweenS a b q).high ≤ a.pres := by
  unfold betweenS
  have d0 : 0 ≤ (a.pres - b.pres) * (q - a.flow) := Int.mul_nonneg (by omega) (by omega)
  have d1 : (a.pres - b.pres) * (q - a.flow) ≤ (a.pres - b.pres) * (b.flow - a.flow) := Int.mul_le_mul_of_nonneg_left (by omega) (by omega)
  generalize (a.pres - b.pres) * (q - a.flow) = N at *
  have hw : 0 < b.flow - a.flow := by omega
  generalize b.flow - a.flow = w at *
  have d2 : 0 ≤ N / w := Int.ediv_nonneg d0 (by omega)
  have d3 : N / w ≤ a.pres - b.pres := Int.ediv_le_of_le_mul hw d1
  have d4 := Int.mul_ediv_add_emod N w
  have d5 : 0 ≤ N % w := Int.emod_nonneg _ (by omega)
  dsimp only
  split
  · rename_i hr
    have : N / w < a.pres - b.pres := by
      rcases Int.lt_or_le (N / w) (a.pres - b.pres) with h | h
      · exact h
      · have e : N / w = a.pres - b.pres := by omega
        rw [e] at d4
        rw [Int.mul_comm] at d4
        omega
    omega
  · omega

theorem curveGo_bounds : ∀ (l : List XPoint) (p : XPoint) (q : Int), CurveOk (p :: l) → p.flow ≤ q →
    0 ≤ (curveGo p l q).low ∧ (curveGo p l q).low ≤ (curveGo p l q).high ∧ (curveGo p l q).high ≤ p.pres
  | [], p, q, h, _ => by have := h.pt 0 p rfl; simp only [curveGo]; omega
  | r :: rest, p, q, h, hq => by
    have h0 := h.pt 0 p rfl
    have h1 := h.pt 1 r rfl
    have h2 := h.st 0 p r rfl rfl
    unfold curveGo
    split
    · have := between_bounds (a := p) (b := r) (q := q) (by omega) (by omega)
      omega
    · have := curveGo_bounds rest r q ⟨fun i => h.pt (i + 1), fun i => h.st (i + 1)⟩ (by omega)
      omega

theorem curveS_bounds {l : List XPoint} (h : CurveOk l) (q : Int) : 0 ≤ (curveS l q).low ∧ (curveS l q).low ≤ (curveS l q).high ∧ (curveS l q).high ≤ 2199023255552 := by
  cases l with
  | nil => simp [curveS]
  | cons p rest =>
    have h0 := h.pt 0 p rfl
    unfold curveS
    dsimp only
    split
    · first | omega | (dsimp only; omega)
    · have := curveGo_bounds rest p q h (by omega)
      omega

theorem floor_eq {a b : Int} (hb : 0 < b) : (if a.tmod b < 0 then a.tdiv b - 1 else a.tdiv b) = a / b := by
  have h1 := Int.mul_tdiv_add_tmod a b
  have h2 : -b < a.tmod b := by have := Int.lt_tmod_of_pos a hb; omega
  have h3 : a.tmod b < b := Int.tmod_lt_of_pos a hb
  split
  · have := (Int.ediv_emod_unique (a := a) (b := b) (q := a.tdiv b - 1) (r := a.tmod b + b) hb).2 ⟨by rw [Int.mul_sub]; omega, by omega, by omega⟩
    exact this.1.symm
  · have := (Int.ediv_emod_unique (a := a) (b := b) (q := a.tdiv b) (r := a.tmod b) hb).2 ⟨by omega, by omega, by omega⟩
    exact this.1.symm

theorem neg_floor {N w : Int} (hw : 0 < w) : (-N) / w = -(N / w) - (if 0 < N % w then 1 else 0) := by
  have h1 := Int.mul_ediv_add_emod N w
  have h2 := Int.emod_nonneg N (show w ≠ 0 by omega)
  have h3 := Int.emod_lt_of_pos N hw
  split
  · have := (Int.ediv_emod_unique (a := -N) (b := w) (q := -(N / w) - 1) (r := w - N % w) hw).2 ⟨by rw [Int.mul_sub, Int.mul_neg]; omega, by omega, by omega⟩
    exact this.1
  · have := (Int.ediv_emod_unique (a := -N) (b := w) (q := -(N / w)) (r := 0) hw).2 ⟨by rw [Int.mul_neg]; omega, by omega, by omega⟩
    rw [this.1]; omega

theorem between_ref {a b : XPoint} {q : Int} (hw : a.flow < b.flow) :
    (⟨a.pres + (b.pres - a.pres) * (q - a.flow) / (b.flow - a.flow), a.pres + -(-((b.pres - a.pres) * (q - a.flow)) / (b.flow - a.flow))⟩ : XSpan) = betweenS a b q := by
  have e : (b.pres - a.pres) * (q - a.flow) = -((a.pres - b.pres) * (q - a.flow)) := by rw [← Int.neg_mul]; congr 1; omega
  rw [e, Int.neg_neg, neg_floor (by omega)]
  unfold betweenS
  congr 1 <;> omega

theorem curve_le_last : ∀ (l : List XPoint) (r pn : XPoint), CurveOk (r :: l) → (r :: l)[l.length]? = some pn → r.flow ≤ pn.flow ∧ (l ≠ [] → r.flow < pn.flow)
  | [], r, pn, _, hn => by simp at hn; subst hn; exact ⟨Int.le_refl _, fun h => absurd rfl h⟩
  | s :: l, r, pn, ok, hn => by
    have hs := ok.st 0 r s rfl rfl
    have := curve_le_last l s pn ⟨fun i => ok.pt (i + 1), fun i => ok.st (i + 1)⟩ (by simpa using hn)
    exact ⟨by omega, fun _ => by omega⟩
theorem curveGo_last : ∀ (l : List XPoint) (p pn : XPoint) (q : Int), CurveOk (p :: l) → (p :: l)[l.length]? = some pn → pn.flow ≤ q → (l = [] ∨ p.flow < q) → curveGo p l q = ⟨pn.pres, pn.pres⟩
  | [], p, pn, q, _, hn, _, _ => by simp at hn; subst hn; rfl
  | r :: rest, p, pn, q, h, hn, hq, _ => by
    have h2 := h.st 0 p r rfl rfl
    have hn' : (r :: rest)[rest.length]? = some pn := by simpa using hn
    have ok' : CurveOk (r :: rest) := ⟨fun i => h.pt (i + 1), fun i => h.st (i + 1)⟩
    have hle := curve_le_last rest r pn ok' hn'
    unfold curveGo
    split
    · rename_i hqr
      have hre : rest = [] := by
        rcases rest with _ | ⟨s, rest⟩
        · rfl
        · have := hle.2 (by simp); omega
      subst hre
      simp at hn'; subst hn'
      have hqe : q = r.flow := by omega
      subst hqe
      unfold betweenS
      have hw : 0 < r.flow - p.flow := by omega
      rw [Int.mul_ediv_cancel _ (by omega), Int.mul_emod_left]
      simp
      omega
    · exact curveGo_last rest r pn q ok' hn' hq (.inr (by omega))

theorem curveS_last {l : List XPoint} (h : CurveOk l) (h1 : 1 ≤ l.length) {pn : XPoint} (hn : l[l.length - 1]? = some pn) (q : Int) (hq : pn.flow ≤ q) : curveS l q = ⟨pn.pres, pn.pres⟩ := by
  cases l with
  | nil => simp at h1
  | cons p rest =>
    have hn' : (p :: rest)[rest.length]? = some pn := by simpa using hn
    unfold curveS
    dsimp only
    split
    · rename_i hp
      have hre : rest = [] := by
        rcases rest with _ | ⟨s, rest⟩
        · rfl
        · exfalso
          have h2 := h.st 0 p s rfl rfl
          have := curve_le_last rest s pn ⟨fun i => h.pt (i + 1), fun i => h.st (i + 1)⟩ (by simpa using hn')
          omega
      subst hre
      simp at hn'; subst hn'; rfl
    · exact curveGo_last rest p pn q h hn' hq (.inr (by omega))

theorem curveGo_at : ∀ (l : List XPoint) (p0 : XPoint) (k : Nat) (p r : XPoint) (q : Int), CurveOk (p0 :: l) → (p0 :: l)[k]? = some p → (p0 :: l)[k + 1]? = some r → p.flow ≤ q → q < r.flow → p0.flow < q → curveGo p0 l q = betweenS p r q
  | [], p0, k, p, r, q, _, _, hr, _, _, _ => by simp at hr
  | s :: rest, p0, 0, p, r, q, h, hp, hr, h1, h2, h3 => by
    simp at hp hr; subst hp; subst hr
    unfold curveGo
    rw [if_pos (by omega)]
  | s :: rest, p0, k + 1, p, r, q, h, hp, hr, h1, h2, h3 => by
    have ok' : CurveOk (s :: rest) := ⟨fun i => h.pt (i + 1), fun i => h.st (i + 1)⟩
    have h4 := h.st 0 p0 s rfl rfl
    have hp' : (s :: rest)[k]? = some p := by simpa using hp
    have hr' : (s :: rest)[k + 1]? = some r := by simpa using hr
    have hr2 := ok'.st k p r hp' hr'
    unfold curveGo
    split
    · rename_i hqs
      -- then the point at k is this one, and the flow is its own
      have mono : ∀ (j : Nat) (x y : XPoint), (s :: rest)[0]? = some x → (s :: rest)[j]? = some y → x.flow + j ≤ y.flow := by
        intro j
        induction j with
        | zero => intro x y hx hy; rw [hx] at hy; cases hy; omega
        | succ j ih =>
          intro x y hx hy
          obtain ⟨hj, _⟩ := List.getElem?_eq_some_iff.1 hy
          obtain ⟨z, hz⟩ := get_some (l := s :: rest) (k := j) (by omega)
          have := ih x z hx hz
          have := ok'.st j z y hz hy
          omega
      have hm := mono k s p rfl hp'
      have hk : k = 0 := by omega
      subst hk
      simp at hp'; subst hp'
      have hqe : q = s.flow := by omega
      subst hqe
      have hpr := ok'.pt 0 s rfl
      unfold betweenS
      have hw : 0 < s.flow - p0.flow := by omega
      rw [Int.mul_ediv_cancel _ (by omega), Int.mul_emod_left, Int.sub_self, Int.mul_zero, Int.zero_ediv, Int.zero_emod]
      simp
      omega
    · exact curveGo_at rest s k p r q ok' hp' hr' h1 h2 (by omega)

theorem curveS_at {l : List XPoint} (h : CurveOk l) {k : Nat} {p r : XPoint} {q : Int} (hp : l[k]? = some p) (hr : l[k + 1]? = some r) (h1 : p.flow ≤ q) (h2 : q < r.flow) : curveS l q = betweenS p r q := by
  cases l with
  | nil => simp at hp
  | cons p0 rest =>
    unfold curveS
    dsimp only
    split
    · rename_i hq
      have mono : ∀ (j : Nat) (y : XPoint), (p0 :: rest)[j]? = some y → p0.flow + j ≤ y.flow := by
        intro j
        induction j with
        | zero => intro y hy; simp at hy; subst hy; omega
        | succ j ih =>
          intro y hy
          obtain ⟨hj, _⟩ := List.getElem?_eq_some_iff.1 hy
          obtain ⟨z, hz⟩ := get_some (l := p0 :: rest) (k := j) (by omega)
          have := ih z hz
          have := h.st j z y hz hy
          omega
      have hm := mono k p hp
      have hk : k = 0 := by omega
      subst hk
      simp at hp; subst hp
      have hqe : q = p0.flow := by omega
      subst hqe
      unfold betweenS
      rw [Int.sub_self, Int.mul_zero, Int.zero_ediv, Int.zero_emod]
      simp
    · exact curveGo_at rest p0 k p r q h hp hr h1 h2 (by omega)
end Go.Proofs.Ytkpfjmibipblhaa

end
section
namespace Go.Proofs.Ytkpfjmibipblhaa
open Go.Aw Go
set_option maxRecDepth 20000
attribute [local irreducible] CJ LJ DJ Tri YV Gives seqK blockK loopK retK RV mergeK

theorem floor_tri (a b : Int) (L : List Blk) (R : List Sl) (ha : -9223372036854775807 ≤ a ∧ a ≤ 9223372036854775807) (hb : 0 < b ∧ b ≤ 9223372036854775807) :
    Tri Try.prog 103 [.int .i64 a, .int .i64 b].toArray L R (fun v L' R' => v = .int .i64 (a / b) ∧ L = L' ∧ R = R') := by
  have hfl := floor_eq (a := a) hb.1
  have hc : -9223372036854775807 ≤ a / b ∧ a / b ≤ 9223372036854775807 := by
    rcases Int.lt_or_le a 0 with h | h
    · have h1 : a / b ≤ 0 := Int.ediv_nonpos_of_nonpos_of_neg (by omega) hb.1
      have h2 : a ≤ a / b := by
        refine Int.le_ediv_of_mul_le hb.1 ?_
        have := Int.mul_le_mul_of_nonpos_left (a := a) (b := b) (c := 1) (by omega) (by omega)
        omega
      omega
    · have h1 := Int.ediv_nonneg h (show 0 ≤ b by omega)
      have h2 := Int.ediv_le_self b h
      omega
  have hd : -9223372036854775807 ≤ a.tdiv b ∧ a.tdiv b ≤ 9223372036854775807 := by
    split at hfl
    · constructor
      · omega
      · have h1 := Int.mul_tdiv_add_tmod a b
        rename_i h
        have : a < 0 := by
          rcases Int.lt_or_le a 0 with h' | h'
          · exact h'
          · have := Int.tmod_nonneg b h'; omega
        have h3 : a / b ≤ 0 := Int.ediv_nonpos_of_nonpos_of_neg (by omega) hb.1
        omega
    · omega
  refine tri_enter 16 Try.call103 Try.func103 rfl rfl rfl ?_
  refine qae ?_
  refine qad ?_
  refine qam ?_
  refine qaa ?_
  refine qaa ?_
  refine qdd ?_
  refine qad ?_
  refine qaw ?_
  refine qaa ?_
  refine qaa ?_
  refine qda ?_
  refine qaj ?_
  refine qaf ?_
  refine q_c (fun hc0 => ?_) (fun hc0 => ?_)
  ·
   rw [if_pos hc0] at hfl
   refine qay ?_
   refine qaa ?_
   refine qa9 ?_
   refine qad ?_
   refine qam ?_
   refine qaa ?_
   refine qad ?_
   refine qa0 ?_
   refine q_i (L' := L) (R' := R) ?_
   exact ⟨by rw [hfl], rfl, rfl⟩
  rw [if_neg hc0] at hfl
  refine qbv ?_
  refine qaa ?_
  refine qad ?_
  refine qa0 ?_
  refine q_i (L' := L) (R' := R) ?_
  exact ⟨by rw [hfl], rfl, rfl⟩

theorem ceil_tri (a b : Int) (L : List Blk) (R : List Sl) (ha : -9223372036854775807 ≤ a ∧ a ≤ 9223372036854775807) (hb : 0 < b ∧ b ≤ 9223372036854775807) (hq : -9223372036854775807 ≤ (-a) / b ∧ (-a) / b ≤ 9223372036854775807) :
    Tri Try.prog 104 [.int .i64 a, .int .i64 b].toArray L R (fun v L' R' => v = .int .i64 (-((-a) / b)) ∧ L = L' ∧ R = R') := by
  refine tri_enter 10 Try.call104 Try.func104 rfl rfl rfl ?_
  refine qae ?_
  refine qad ?_
  refine qam ?_
  refine qaa ?_
  refine qcq ?_
  refine qaa ?_
  refine q_l rfl (floor_tri (-a) b _ _ (by omega) hb) ?_
  refine qcq ?_
  refine qad ?_
  refine qa0 ?_
  refine q_i (L' := L) (R' := R) ?_
  exact ⟨rfl, rfl, rfl⟩


theorem inner_tri (f : XFan) (q : Int) (L : List Blk) (R : List Sl) (hm : InR f.sl R) (hf : FanOk f) (hq : -1048577 ≤ q ∧ q ≤ 1048577) :
    Tri Try.prog 142 [f.val, .int .i64 q].toArray L R (fun v L' R' => v = (curveS f.curve.l q).val ∧ L = L' ∧ R = R') := by
  have hl1 := hf.len1
  have hl8 := hf.len8
  obtain ⟨p0, hp0⟩ := get_some (l := f.curve.l) (k := 0) (by omega)
  obtain ⟨pn, hpn⟩ := get_some (l := f.curve.l) (k := f.curve.l.length - 1) (by omega)
  have hcl := curveS_last hf.ok (by omega) hpn
  have hc0' : q ≤ p0.flow → curveS f.curve.l q = ⟨p0.pres, p0.pres⟩ := fun h => by
    have h' := drop_cons hp0
    simp only [List.drop_zero, Nat.zero_add] at h'
    rw [h']; simp only [curveS, if_pos h]
  refine tri_enter 106 Try.call142 Try.func142 rfl rfl rfl ?_
  refine qae ?_
  refine qax ?_
  intro b2
  refine qaq ?_
  intro b4
  refine qam ?_
  refine qab ?_
  refine qac ?_
  refine qag ?_
  refine qad ?_
  refine qaw ?_
  refine qaa ?_
  refine qab ?_
  refine qac ?_
  refine qdt ?_
  refine qb0 ?_
  refine qa7 ?_
  refine qbx ?_
  refine qaf ?_
  refine q_c (fun hc0 => ?_) (fun hc0 => ?_)
  ·
   refine CJ_seq ?_
   refine CJ_drawn2 tb [] [0, 1, 2, 3, 4, 5, 6, 7, 8, 9, 10] [11] (_) _ mixed (by kernel_rfl) (by repeat (first | exact zs0 _ | exact zs1 _ | apply zs2 | apply zs3 | apply zs4 | apply zs5)) (by (repeat (first | apply List.Sublist.cons (a := Blk.mk b4 _ _) | apply List.Sublist.cons_cons)); exact List.Sublist.refl _) ?_
   refine qan ?_
   refine qau ?_
   refine qd2 ?_
   refine qcv ?_
   refine qci ?_
   refine qan ?_
   refine qau ?_
   refine qd2 ?_
   refine qcv ?_
   refine qci ?_
   refine qcw ?_
   refine qba ?_
   refine qbg ?_
   refine DJ_nil (seqK_normal (CJ_ret (seqK_ret ?_)))
   refine q_r (L' := L) (R' := R) (res1 rfl (rv_cell (row := [_, _]) tb rfl rfl rfl (by repeat (first | exact zi0 | apply zi1 | apply zi2)) (by rfl) (by rfl))) ?_
   exact ⟨by rw [hc0' hc0], rfl, rfl⟩
  refine qbo ?_
  refine qaa ?_
  refine qab ?_
  refine qac ?_
  refine qaa ?_
  refine qa9 ?_
  refine LJ_q (by first | exact yv_index_ro tb rfl rfl rfl rfl (by first | assumption | exact zr (by simp)) (i := f.curve.l.length - 1) (by first | rfl | omega | (simp; omega)) (by omega) | exact yv_index tb rfl rfl rfl rfl (i := f.curve.l.length - 1) (by first | rfl | omega | (simp; omega)) (by omega)) rfl ?_
  refine qb0 ?_
  refine qa7 ?_
  refine qbz ?_
  refine qaf ?_
  refine q_c (fun hc1 => ?_) (fun hc1 => ?_)
  ·
   refine CJ_seq ?_
   refine CJ_drawn2 tb [] [0, 1, 2, 3, 4, 5, 6, 7, 8, 9, 10, 11, 12, 13, 14] [15] (_) _ mixed (by kernel_rfl) (by repeat (first | exact zs0 _ | exact zs1 _ | apply zs2 | apply zs3 | apply zs4 | apply zs5)) (by (repeat (first | apply List.Sublist.cons (a := Blk.mk b4 _ _) | apply List.Sublist.cons_cons)); exact List.Sublist.refl _) ?_
   refine qan ?_
   refine qau ?_
   refine qbf ?_
   refine qcc ?_
   refine qd3 ?_
   refine qcv ?_
   refine qci ?_
   refine qan ?_
   refine qau ?_
   refine qbf ?_
   refine qcc ?_
   refine qd3 ?_
   refine qcv ?_
   refine qci ?_
   refine qcw ?_
   refine qba ?_
   refine qbg ?_
   refine DJ_nil (seqK_normal (CJ_ret (seqK_ret ?_)))
   refine q_r (L' := L) (R' := R) (res1 rfl (rv_cell (row := [_, _]) tb rfl rfl rfl (by repeat (first | exact zi0 | apply zi1 | apply zi2)) (by rfl) (by rfl))) ?_
   exact ⟨by rw [hcl q hc1], rfl, rfl⟩
  refine qbv ?_
  refine qad ?_
  refine LJ_nil (seqK_normal (CJ_seq (CJ_block ?_)))
  refine CJ_forget [(1, Value.int _ _), (2, Value.pointer _), (4, Value.pointer _), (6, Value.int _ _)] (by repeat' (first | exact trivial | refine And.intro rfl ?_)) fun tq0 => ?_
  refine q_s [6, 56, 57, 58, 59, 60, 61, 62, 63, 64, 65, 66] (fun g : {k : Nat // k + 1 < f.curve.l.length ∧ ∃ p, f.curve.l[k]? = some p ∧ p.flow ≤ q} => [(6, .int .i64 ((g.1 : Nat) : Int))]) (fun g => f.curve.l.length - g.1) (⟨0, by rcases Nat.lt_or_ge 1 f.curve.l.length with h | h; exact h; exfalso; rw [show f.curve.l.length - 1 = 0 by omega, hp0] at hpn; cases hpn; omega, p0, hp0, by omega⟩) ?_
  rintro ⟨k, hk, p, hp, hpq⟩ junk
  try dsimp only
  refine CJ_seq (CJ_seq ?_)
  obtain ⟨r, hr⟩ := get_some (l := f.curve.l) (k := k + 1) (by omega)
  refine qay ?_
  refine qab ?_
  refine qac ?_
  refine qaa ?_
  refine qar ?_
  refine LJ_q (by first | exact yv_index_ro tb rfl rfl rfl rfl (by first | assumption | exact zr (by simp)) (i := k + 1) (by first | rfl | omega | (simp; omega)) (by omega) | exact yv_index tb rfl rfl rfl rfl (i := k + 1) (by first | rfl | omega | (simp; omega)) (by omega)) rfl ?_
  refine qb0 ?_
  refine qa7 ?_
  refine qaa ?_
  refine qbx ?_
  refine qaf ?_
  refine q_c (fun hc2 => ?_) (fun hc2 => ?_)
  ·
   refine CJ_skip (seqK_normal (CJ_block (CJ_region ?_)))
   refine qaa ?_
   refine qar ?_
   refine qad ?_
   refine LJ_nil (blockK_normal ?_)
   exact q_k (⟨k + 1, by rcases Nat.lt_or_ge (k + 1 + 1) f.curve.l.length with h | h; exact h; exfalso; rw [show f.curve.l.length - 1 = k + 1 by omega, hr] at hpn; cases hpn; omega, r, hr, by omega⟩)
  have hb1 := hf.ok.pt _ _ hp
  have hb2 := hf.ok.pt _ _ hr
  have hb3 := hf.ok.st k p r hp hr
  have hcr := curveS_at hf.ok hp hr hpq (by omega)
  have d0 : 0 ≤ (p.pres - r.pres) * (q - p.flow) := Int.mul_nonneg (by omega) (by omega)
  have d1 : (p.pres - r.pres) * (q - p.flow) ≤ 2199023255552 * 2097153 := Int.mul_le_mul (by omega) (by omega) (by omega) (by omega)
  have de : (r.pres - p.pres) * (q - p.flow) = -((p.pres - r.pres) * (q - p.flow)) := by rw [← Int.neg_mul]; congr 1; omega
  have d2 : 0 ≤ (p.pres - r.pres) * (q - p.flow) / (r.flow - p.flow) := Int.ediv_nonneg d0 (by omega)
  have d3 : (p.pres - r.pres) * (q - p.flow) / (r.flow - p.flow) ≤ (p.pres - r.pres) * (q - p.flow) := Int.ediv_le_self _ d0
  have d4 := neg_floor (N := (p.pres - r.pres) * (q - p.flow)) (w := r.flow - p.flow) (by omega)
  have d7 : -((p.pres - r.pres) * (q - p.flow)) - 1 ≤ -((p.pres - r.pres) * (q - p.flow)) / (r.flow - p.flow) ∧ -((p.pres - r.pres) * (q - p.flow)) / (r.flow - p.flow) ≤ 0 := by split at d4 <;> omega
  have d5 : -((r.pres - p.pres) * (q - p.flow)) / (r.flow - p.flow) = (p.pres - r.pres) * (q - p.flow) / (r.flow - p.flow) := by rw [de, Int.neg_neg]
  have d6 : (r.pres - p.pres) * (q - p.flow) / (r.flow - p.flow) = -((p.pres - r.pres) * (q - p.flow)) / (r.flow - p.flow) := by rw [de]
  refine qc3 ?_
  refine CJ_drawn tb [0, 1, 2, 3, 4, 5, 6, 7, 8, 9, 10, 11, 12, 13, 14] _ mixed (by kernel_rfl) (List.Sublist.refl _) ?_
  refine qal ?_
  refine qat ?_
  refine qao ?_
  refine qds ?_
  refine qdo ?_
  refine qal ?_
  refine qat ?_
  refine qao ?_
  refine qc2 ?_
  refine qdy ?_
  refine qdo ?_
  refine qbr ?_
  intro b7
  refine qbr ?_
  intro b8
  refine qbg ?_
  refine qbg ?_
  refine qb9 ?_
  refine CJ_drawn tb [0, 1, 2, 3, 4, 5, 6, 7, 8, 9, 10, 11, 12, 13, 14, 15, 16] _ mixed (by kernel_rfl) (List.Sublist.refl _) ?_
  refine qal ?_
  refine qat ?_
  refine qal ?_
  refine qat ?_
  refine qb7 ?_
  refine qao ?_
  refine qal ?_
  refine qat ?_
  refine qb7 ?_
  refine qdh ?_
  refine qal ?_
  refine qat ?_
  refine qal ?_
  refine qat ?_
  refine qb7 ?_
  refine qcg ?_
  refine qcg ?_
  refine qb9 ?_
  refine CJ_drawn2 tb [] [0, 1, 2, 3, 6, 7, 8, 9, 4, 5, 10, 11, 12] [13] (_) _ mixed (by kernel_rfl) (by repeat (first | exact zs0 _ | exact zs1 _ | apply zs2 | apply zs3 | apply zs4 | apply zs5)) (by (repeat (first | apply List.Sublist.cons (a := Blk.mk b4 _ _) | apply List.Sublist.cons_cons)); exact List.Sublist.refl _) ?_
  refine qan ?_
  refine qau ?_
  refine qbf ?_
  refine qbf ?_
  refine qan ?_
  refine qau ?_
  refine qbf ?_
  refine qbf ?_
  refine DJ3_call rfl (floor_tri _ _ _ _ (by omega) (by omega)) rfl rfl ?_
  rintro v L' R' ⟨rfl, rfl, rfl⟩
  refine qas ?_
  refine qcj ?_
  refine DJ3_call rfl (ceil_tri _ _ _ _ (by omega) (by omega) (by omega)) rfl rfl ?_
  rintro v L' R' ⟨rfl, rfl, rfl⟩
  refine qas ?_
  refine qcj ?_
  refine qcw ?_
  refine qba ?_
  refine qbg ?_
  refine DJ_nil (seqK_normal (CJ_ret ?_))
  refine q_r (L' := L) (R' := R) (res1 rfl (rv_cell (row := [_, _]) tb rfl rfl rfl (by repeat (first | exact zi0 | apply zi1 | apply zi2)) (by rfl) (by rfl))) ?_
  exact ⟨by rw [hcr, ← between_ref (by omega)], rfl, rfl⟩

theorem along07_tri (f : XFan) (back : Bool) (q : Int) (L : List Blk) (R : List Sl) (hm : InR f.sl R) (hf : FanOk f) (hq : -1048577 ≤ q ∧ q ≤ 1048577) :
    Tri Try.prog 136 [f.val, .bool back, .int .i64 q].toArray L R (fun v L' R' => v = (alongS f.curve.l back q).val ∧ L = L' ∧ R = R') := by
  have hb1 := curveS_bounds hf.ok (-q)
  refine tri_enter 23 Try.call136 Try.func136 rfl rfl rfl ?_
  refine qae ?_
  refine qax ?_
  intro b3
  refine qaq ?_
  intro b6
  refine qaw ?_
  refine qah ?_
  refine qaf ?_
  refine q_c (fun hc0 => ?_) (fun hc0 => ?_)
  ·
   refine qae ?_
   refine qa8 ?_
   refine qaa ?_
   refine qcq ?_
   refine q_l rfl (inner_tri f (-q) _ _ hm hf (by omega)) ?_
   refine qaq ?_
   intro b7
   refine qak ?_
   refine qam ?_
   refine qab ?_
   refine qac ?_
   refine qcq ?_
   refine qab ?_
   refine qac ?_
   refine qcq ?_
   refine qcd ?_
   refine qak ?_
   refine qbh ?_
   refine q_r (L' := L) (R' := R) (res1 rfl (rv_cell (row := [_, _]) tb rfl rfl rfl (by repeat (first | exact zi0 | apply zi1 | apply zi2)) (by rfl) (by rfl))) ?_
   exact ⟨by simp [alongS, hc0, negS], rfl, rfl⟩
  refine qbv ?_
  refine qa8 ?_
  refine qaa ?_
  refine q_l rfl (inner_tri f q _ _ hm hf hq) ?_
  refine qak ?_
  refine qa0 ?_
  refine q_r (L' := L) (R' := R) (res1 rfl (rv_cell (row := [_, _]) tb rfl rfl rfl (by repeat (first | exact zi0 | apply zi1 | apply zi2)) (by rfl) (by rfl))) ?_
  exact ⟨by simp [alongS, hc0], rfl, rfl⟩

theorem state07_tri (f : XFan) (s q : Int) (L : List Blk) (R : List Sl) (hm : InR f.sl R) (hf : FanOk f) (hq : -1048577 ≤ q ∧ q ≤ 1048577) (hs : -1 ≤ s ∧ s ≤ 2) :
    Tri Try.prog 123 [f.val, .int .i64 s, .int .i64 q].toArray L R (fun v L' R' => v = (stateS f s q).val ∧ L = L' ∧ R = R') := by
  refine tri_enter 45 Try.call123 Try.func123 rfl rfl rfl ?_
  refine qae ?_
  refine qax ?_
  intro b3
  refine qaq ?_
  intro b6
  refine qaw ?_
  refine qaa ?_
  refine LJ_nil (seqK_normal (CJ_block (CJ_seq (CJ_region ?_))))
  refine qbn ?_
  refine qaz ?_
  refine qaf ?_
  refine q_c (fun hc0 => ?_) (fun hc0 => ?_)
  ·
   refine qae ?_
   refine qck ?_
   refine qak ?_
   refine qdb ?_
   refine q_r (L' := L) (R' := R) (res1 rfl (rv_cell (row := [_, _]) tb rfl rfl rfl (by repeat (first | exact zi0 | apply zi1 | apply zi2)) (by rfl) (by rfl))) ?_
   exact ⟨by rw [stateS, if_neg (by omega), if_neg (by omega), if_neg (by omega)], rfl, rfl⟩
  refine qae ?_
  refine qbn ?_
  refine qaz ?_
  refine qaf ?_
  refine q_c (fun hc1 => ?_) (fun hc1 => ?_)
  ·
   refine qae ?_
   refine qa8 ?_
   refine qab ?_
   refine qac ?_
   refine qaa ?_
   refine q_l rfl (along07_tri f f.back q _ _ hm hf hq) ?_
   refine qak ?_
   refine qdb ?_
   refine q_r (L' := L) (R' := R) (res1 rfl (rv_cell (row := [_, _]) tb rfl rfl rfl (by repeat (first | exact zi0 | apply zi1 | apply zi2)) (by rfl) (by rfl))) ?_
   exact ⟨by rw [stateS, if_pos hc1], rfl, rfl⟩
  refine qae ?_
  refine qbn ?_
  refine qaz ?_
  refine qaf ?_
  refine q_c (fun hc2 => ?_) (fun hc2 => ?_)
  ·
   refine qae ?_
   refine qa8 ?_
   refine qab ?_
   refine qac ?_
   refine qb4 ?_
   refine qaa ?_
   refine q_l rfl (along07_tri f (!f.back) q _ _ hm hf hq) ?_
   refine qak ?_
   refine qdb ?_
   refine q_r (L' := L) (R' := R) (res1 rfl (rv_cell (row := [_, _]) tb rfl rfl rfl (by repeat (first | exact zi0 | apply zi1 | apply zi2)) (by rfl) (by rfl))) ?_
   exact ⟨by rw [stateS, if_neg hc1, if_pos hc2], rfl, rfl⟩
  refine CJ_skip (blockK_normal (seqK_normal (CJ_seq ?_)))
  refine CJ_drawn tb [0, 1, 3, 4, 2, 5, 6, 7, 8, 9] _ mixed (by kernel_rfl) (List.Sublist.refl _) ?_
  refine qbc ?_
  refine qao ?_
  refine qbc ?_
  refine qao ?_
  refine q_d rfl (along07_tri f false q _ _ hm hf hq) ?_
  refine q_d rfl (along07_tri f true q _ _ hm hf hq) ?_
  refine qbr ?_
  intro b7
  refine qbr ?_
  intro b8
  refine qbg ?_
  refine qbg ?_
  refine DJ_nil (seqK_normal (CJ_seq (CJ_region ?_)))
  refine qab ?_
  refine qac ?_
  refine qab ?_
  refine qac ?_
  refine LJ_q (yv_min3 rfl rfl rfl) rfl ?_
  refine qab ?_
  refine qac ?_
  refine qab ?_
  refine qac ?_
  refine LJ_q (yv_max3 rfl rfl rfl) rfl ?_
  refine qcd ?_
  refine qak ?_
  refine qa0 ?_
  refine q_r (L' := L) (R' := R) (res1 rfl (rv_cell (row := [_, _]) tb rfl rfl rfl (by repeat (first | exact zi0 | apply zi1 | apply zi2)) (by rfl) (by rfl))) ?_
  exact ⟨by rw [stateS, if_neg hc1, if_neg hc2, if_pos (by omega), Int.min_comm 0, Int.max_comm 0]; simp only [Int.min_assoc, Int.max_assoc, Int.min_comm 0, Int.max_comm 0], rfl, rfl⟩
end Go.Proofs.Ytkpfjmibipblhaa

end
section
namespace Go.Proofs.Ytkpfjmibipblhaa
open Go.Aw Go
set_option maxRecDepth 20000
attribute [local irreducible] CJ LJ DJ Tri YV Gives seqK blockK loopK retK RV mergeK

def dropTo (p : XPipe) (q : Int) : Nat → XSpan
  | 0 => if q < 0 then ⟨-p.road.rest.high * (q * q) - p.road.lift.high, -p.road.rest.low * (q * q) - p.road.lift.low⟩ else ⟨p.road.rest.low * (q * q) - p.road.lift.high, p.road.rest.high * (q * q) - p.road.lift.low⟩
  | k + 1 => ⟨(dropTo p q k).low - (stateS (p.fans.l.getD k default).fan (p.fans.l.getD k default).state q).high, (dropTo p q k).high - (stateS (p.fans.l.getD k default).fan (p.fans.l.getD k default).state q).low⟩
end Go.Proofs.Ytkpfjmibipblhaa

end
section
namespace Go.Proofs.Ytkpfjmibipblhaa
open Go.Aw Go
set_option maxRecDepth 20000
attribute [local irreducible] CJ LJ DJ Tri YV Gives seqK blockK loopK retK RV mergeK

end Go.Proofs.Ytkpfjmibipblhaa

end
section
namespace Go.Proofs.Ytkpfjmibipblhaa
open Go.Aw Go

theorem findSome_zero {α : Type} {f : α → Option Int} {l : List α} (hf : ∀ x e, f x = some e → e ≠ 0) (h : (l.findSome? f).getD 0 = 0) : ∀ x ∈ l, f x = none := by
  have hn : l.findSome? f = none := by
    cases hs : l.findSome? f with
    | none => rfl
    | some e =>
      rw [hs] at h
      obtain ⟨x, _, hx⟩ := List.exists_of_findSome?_eq_some hs
      exact absurd h (hf x e hx)
  exact List.findSome?_eq_none_iff.1 hn

structure RoadOk (n : Nat) (r : XRoad) : Prop where
  fr : 0 ≤ r.fr ∧ r.fr < n
  to : 0 ≤ r.to ∧ r.to < n
  ne : r.fr ≠ r.to
  rest : 1 ≤ r.rest.low ∧ r.rest.low ≤ r.rest.high ∧ r.rest.high ≤ 262144
  lift : -2199023255552 ≤ r.lift.low ∧ r.lift.low ≤ r.lift.high ∧ r.lift.high ≤ 2199023255552

theorem spanB_iff {s : XSpan} {lo hi : Int} : spanB s lo hi = true ↔ lo ≤ s.low ∧ s.low ≤ s.high ∧ s.high ≤ hi := by simp [spanB]

structure MineOk (m : XMine) : Prop where
  places : m.places.l.length ≤ 64
  roads : m.roads.l.length ≤ 128
  road : ∀ (i : Nat) (r : XRoad), m.roads.l[i]? = some r → RoadOk m.places.l.length r

theorem mineOk_of {m : XMine} (h : mineErr m = 0) : MineOk m := by
  unfold mineErr at h
  split at h
  · cases h
  rename_i hlen
  split at h
  · rename_i e he
    subst h
    obtain ⟨x, _, hx⟩ := List.exists_of_findSome?_eq_some he
    unfold placeErr at hx
    split at hx <;> cases hx
  have hall := findSome_zero (f := roadErr m.places.l.length) (fun x e hx he => by
    subst he
    unfold roadErr at hx
    split at hx
    · cases hx
    · split at hx <;> cases hx) h
  refine ⟨by omega, by omega, fun i r hr => ?_⟩
  have := hall r (List.mem_of_getElem? hr)
  unfold roadErr at this
  split at this
  · cases this
  rename_i h1
  split at this
  · cases this
  rename_i h2
  have e1 : spanB r.rest 1 262144 = true := by
    cases hb : spanB r.rest 1 262144 with
    | true => rfl
    | false => exact absurd (.inr (.inr (.inr (.inr (.inl hb))))) h2
  have e2 : spanB r.lift (-2199023255552) 2199023255552 = true := by
    cases hb : spanB r.lift (-2199023255552) 2199023255552 with
    | true => rfl
    | false => exact absurd (.inr (.inr (.inr (.inr (.inr hb))))) h2
  exact ⟨by omega, by omega, by omega, spanB_iff.1 e1, spanB_iff.1 e2⟩

structure DoorOk (d : XDoor) : Prop where
  road : 0 ≤ d.road
  len : 2 ≤ d.rests.l.length ∧ d.rests.l.length ≤ 6
  rest : ∀ (i : Nat) (x : Int), d.rests.l[i]? = some x → 0 ≤ x ∧ x ≤ 262144
  falls : fallsB d.rests.l d.rests.l.length = true

theorem doorsOk_of {l : List XDoor} (h : doorsErr l = 0) : l.length ≤ 16 ∧ ∀ (i : Nat) (d : XDoor), l[i]? = some d → DoorOk d ∧ ¬ pairBad l i d := by
  unfold doorsErr at h
  split at h
  · cases h
  rename_i hlen
  have hre : ∀ (x : Int) (e : Int), restErr x = some e → e = 1 := fun x e he => by
    unfold restErr at he
    split at he <;> cases he
    rfl
  have hall := findSome_zero (f := doorErr l) (fun i e hx he => by
    subst he
    unfold doorErr at hx
    split at hx
    · cases hx
    · split at hx
      · cases hx
      · split at hx
        · cases hx
        · split at hx
          · rename_i e' he'
            obtain ⟨x, _, hx'⟩ := List.exists_of_findSome?_eq_some he'
            have := hre x _ hx'
            cases hx
            cases this
          · split at hx
            · cases hx
            · split at hx <;> cases hx) h
  refine ⟨by omega, fun i d hd => ?_⟩
  obtain ⟨hi, _⟩ := List.getElem?_eq_some_iff.1 hd
  have := hall i (List.mem_range.2 hi)
  rw [doorErr_at hd] at this
  split at this
  · cases this
  rename_i h1
  split at this
  · cases this
  rename_i h2
  split at this
  · cases this
  rename_i h3
  split at this
  · cases this
  rename_i h4
  split at this
  · cases this
  rename_i h5
  refine ⟨⟨by omega, by omega, fun k x hx => ?_, by simpa using h4⟩, h5⟩
  have := List.findSome?_eq_none_iff.1 h3 x (List.mem_of_getElem? hx)
  unfold restErr at this
  split at this
  · cases this
  · omega

structure AirOk (a : XAir) : Prop where
  mine : MineOk a.mine
  nfans : a.fans.l.length ≤ 8
  fan : ∀ (i : Nat) (f : XFan), a.fans.l[i]? = some f → FanOk f ∧ f.road < a.mine.roads.l.length
  ndoors : a.doors.l.length ≤ 16
  door : ∀ (i : Nat) (d : XDoor), a.doors.l[i]? = some d → DoorOk d ∧ d.road < a.mine.roads.l.length

theorem airOk_of {a : XAir} (h : airErr a = 0) : AirOk a := by
  unfold airErr at h
  split at h
  · rename_i h1; exact absurd h h1
  rename_i h1
  split at h
  · cases h
  rename_i h2
  split at h
  · rename_i e he
    subst h
    obtain ⟨x, _, hx⟩ := List.exists_of_findSome?_eq_some he
    unfold fanIn at hx
    split at hx
    · rename_i hne
      exact absurd (Option.some.inj hx) hne
    · split at hx <;> cases hx
  rename_i hfn
  split at h
  · rename_i h3; exact absurd h h3
  rename_i h3
  have hdo := doorsOk_of (by simpa using h3)
  have hdi := findSome_zero (f := doorIn a.mine.roads.l.length) (fun x e hx he => by
    subst he
    unfold doorIn at hx
    split at hx <;> cases hx) h
  refine ⟨mineOk_of (by simpa using h1), by omega, fun i f hf => ?_, hdo.1, fun i d hd => ⟨(hdo.2 i d hd).1, ?_⟩⟩
  · have := List.findSome?_eq_none_iff.1 hfn f (List.mem_of_getElem? hf)
    unfold fanIn at this
    split at this
    · cases this
    rename_i h4
    split at this
    · cases this
    exact ⟨fanOk_of (by simpa using h4), by omega⟩
  · have := hdi d (List.mem_of_getElem? hd)
    unfold doorIn at this
    split at this
    · cases this
    · omega

structure FitOk (a : XAir) (s : XSetting) : Prop where
  lf : s.fans.l.length = a.fans.l.length
  ld : s.doors.l.length = a.doors.l.length
  fan : ∀ (i : Nat) (x : Int), s.fans.l[i]? = some x → -1 ≤ x ∧ x ≤ 2
  door : ∀ (i : Nat) (x : Int) (d : XDoor), s.doors.l[i]? = some x → a.doors.l[i]? = some d → -1 ≤ x ∧ x < d.rests.l.length

end Go.Proofs.Ytkpfjmibipblhaa

end
section
namespace Go.Proofs.Ytkpfjmibipblhaa
open Go.Aw Go
set_option maxRecDepth 20000
attribute [local irreducible] CJ LJ DJ Tri YV Gives seqK blockK loopK retK RV mergeK

def restTo (a : XAir) (s : XSetting) (r : Int) : Nat → XSpan
  | 0 => (a.mine.roads.l.getD r.toNat default).rest
  | k + 1 => if (a.doors.l.getD k default).road = r then ⟨(restTo a s r k).low + (restS (a.doors.l.getD k default) (s.doors.l.getD k 0)).low, (restTo a s r k).high + (restS (a.doors.l.getD k default) (s.doors.l.getD k 0)).high⟩ else restTo a s r k
def baseS (rest lift : XSpan) (q : Int) : XSpan :=
  if q < 0 then ⟨-(rest.high * q * q) - lift.high, -(rest.low * q * q) - lift.low⟩ else ⟨rest.low * q * q - lift.high, rest.high * q * q - lift.low⟩
def innerTo (a : XAir) (s : XSetting) (r q : Int) : Nat → XSpan
  | 0 => baseS (restTo a s r a.doors.l.length) (a.mine.roads.l.getD r.toNat default).lift q
  | k + 1 => if (a.fans.l.getD k default).road = r then ⟨(innerTo a s r q k).low - (stateS (a.fans.l.getD k default) (s.fans.l.getD k 0) q).high, (innerTo a s r q k).high - (stateS (a.fans.l.getD k default) (s.fans.l.getD k 0) q).low⟩ else innerTo a s r q k
def innerS (a : XAir) (s : XSetting) (r q : Int) : XSpan := innerTo a s r q a.fans.l.length

end Go.Proofs.Ytkpfjmibipblhaa

end
section
namespace Go.Proofs.Ytkpfjmibipblhaa
open Go.Aw Go
set_option maxRecDepth 20000
attribute [local irreducible] CJ LJ DJ Tri YV Gives seqK blockK loopK retK RV mergeK

end Go.Proofs.Ytkpfjmibipblhaa

end
