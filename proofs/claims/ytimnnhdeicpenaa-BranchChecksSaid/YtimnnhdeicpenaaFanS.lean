/-
  The curve of a fan, in plain numbers. By an AI agent; no person has read it.
-/
import Derived.Test.YtimnnhdeicpenaaFanN
set_option linter.unusedSimpArgs false
set_option linter.unusedVariables false
namespace Go.Proofs.Ytimnnhdeicpenaa
open Go.Aw Go

structure CurveOk (l : List XPoint) : Prop where
  pt : ∀ (i : Nat) (p : XPoint), l[i]? = some p → -1048576 ≤ p.flow ∧ p.flow ≤ 1048576 ∧ 0 ≤ p.pres ∧ p.pres ≤ 2199023255552
  st : ∀ (i : Nat) (p r : XPoint), l[i]? = some p → l[i + 1]? = some r → p.flow < r.flow ∧ r.pres ≤ p.pres
structure FanOk (f : XFan) : Prop where
  road : 0 ≤ f.road
  len1 : 1 ≤ f.curve.l.length
  len8 : f.curve.l.length ≤ 8
  ok : CurveOk f.curve.l

theorem fanOk_of {f : XFan} (h : fanErr f = 0) : FanOk f := by
  unfold fanErr at h
  split at h
  · cases h
  rename_i h1
  split at h
  · cases h
  rename_i h2
  have hn : (List.range f.curve.l.length).findSome? (pointErr f.curve.l) = none := by
    cases hf : (List.range f.curve.l.length).findSome? (pointErr f.curve.l) with
    | none => rfl
    | some e =>
      rw [hf] at h
      simp only [Option.getD_some] at h
      subst h
      obtain ⟨i, _, hi⟩ := List.exists_of_findSome?_eq_some hf
      unfold pointErr at hi
      split at hi
      · cases hi
      · split at hi
        · cases hi
        · split at hi
          · cases hi
          · split at hi
            · cases hi
            · split at hi <;> cases hi
  have hall : ∀ (i : Nat) (p : XPoint), f.curve.l[i]? = some p → pointErr f.curve.l i = none := fun i p hp => by
    obtain ⟨hi, _⟩ := List.getElem?_eq_some_iff.1 hp
    exact List.findSome?_eq_none_iff.1 hn i (List.mem_range.2 hi)
  have hpt : ∀ (i : Nat) (p : XPoint), f.curve.l[i]? = some p → -1048576 ≤ p.flow ∧ p.flow ≤ 1048576 ∧ 0 ≤ p.pres ∧ p.pres ≤ 2199023255552 := fun i p hp => by
    have := hall i p hp
    by_cases hr : p.flow < -1048576 ∨ 1048576 < p.flow ∨ p.pres < 0 ∨ 2199023255552 < p.pres
    · rw [pointErr_1 hp hr] at this; cases this
    · omega
  refine ⟨by omega, by omega, by omega, hpt, fun i p r hp hr => ?_⟩
  have := hall (i + 1) r hr
  have b := hpt _ _ hr
  by_cases hb : r.flow ≤ p.flow ∨ p.pres < r.pres
  · rw [pointErr_14 hr (by omega) (by omega) (by simpa using hp) hb] at this; cases this
  · omega

def curveGo (p : XPoint) : List XPoint → Int → XSpan
  | [], _ => ⟨p.pres, p.pres⟩
  | r :: rest, q => if q ≤ r.flow then betweenS p r q else curveGo r rest q
/-- P7.2 -/
def curveS (l : List XPoint) (q : Int) : XSpan :=
  match l with
  | [] => ⟨0, 0⟩
  | p :: rest => if q ≤ p.flow then ⟨p.pres, p.pres⟩ else curveGo p rest q
def negS (s : XSpan) : XSpan := ⟨-s.high, -s.low⟩
def alongS (l : List XPoint) (back : Bool) (q : Int) : XSpan := if back then negS (curveS l (-q)) else curveS l q
/-- P7.3 -/
def stateS (f : XFan) (s q : Int) : XSpan :=
  if s = 1 then alongS f.curve.l f.back q else if s = 2 then alongS f.curve.l (!f.back) q
  else if s = -1 then ⟨min (min 0 (alongS f.curve.l false q).low) (alongS f.curve.l true q).low, max (max 0 (alongS f.curve.l false q).high) (alongS f.curve.l true q).high⟩
  else ⟨0, 0⟩

theorem between_bounds {a b : XPoint} {q : Int} (hp : 0 ≤ b.pres ∧ b.pres ≤ a.pres ∧ a.pres ≤ 2199023255552) (hf : -1048576 ≤ a.flow ∧ a.flow ≤ q ∧ q ≤ b.flow ∧ a.flow < b.flow ∧ b.flow ≤ 1048576) :
    b.pres ≤ (betweenS a b q).low ∧ (betweenS a b q).low ≤ (betweenS a b q).high ∧ (betweenS a b q).high ≤ a.pres := by
  unfold betweenS
  have d0 : 0 ≤ (a.pres - b.pres) * (q - a.flow) := Int.mul_nonneg (by omega) (by omega)
  have d1 : (a.pres - b.pres) * (q - a.flow) ≤ (a.pres - b.pres) * (b.flow - a.flow) := Int.mul_le_mul_of_nonneg_left (by omega) (by omega)
  generalize (a.pres - b.pres) * (q - a.flow) = N at *
  have hw : 0 < b.flow - a.flow := by omega
  generalize b.flow - a.flow = w at *
  have d2 : 0 ≤ N / w := Int.ediv_nonneg d0 (by omega)
  have d3 : N / w ≤ a.pres - b.pres := Int.ediv_le_of_le_mul hw d1
  have d4 := Int.mul_ediv_add_emod N w
  have d5 : 0 ≤ N % w := Int.emod_nonneg _ (by omega)
  dsimp only
  split
  · rename_i hr
    have : N / w < a.pres - b.pres := by
      rcases Int.lt_or_le (N / w) (a.pres - b.pres) with h | h
      · exact h
      · have e : N / w = a.pres - b.pres := by omega
        rw [e] at d4
        rw [Int.mul_comm] at d4
        omega
    omega
  · omega

theorem curveGo_bounds : ∀ (l : List XPoint) (p : XPoint) (q : Int), CurveOk (p :: l) → p.flow ≤ q →
    0 ≤ (curveGo p l q).low ∧ (curveGo p l q).low ≤ (curveGo p l q).high ∧ (curveGo p l q).high ≤ p.pres
  | [], p, q, h, _ => by have := h.pt 0 p rfl; simp only [curveGo]; omega
  | r :: rest, p, q, h, hq => by
    have h0 := h.pt 0 p rfl
    have h1 := h.pt 1 r rfl
    have h2 := h.st 0 p r rfl rfl
    unfold curveGo
    split
    · have := between_bounds (a := p) (b := r) (q := q) (by omega) (by omega)
      omega
    · have := curveGo_bounds rest r q ⟨fun i => h.pt (i + 1), fun i => h.st (i + 1)⟩ (by omega)
      omega

theorem curveS_bounds {l : List XPoint} (h : CurveOk l) (q : Int) : 0 ≤ (curveS l q).low ∧ (curveS l q).low ≤ (curveS l q).high ∧ (curveS l q).high ≤ 2199023255552 := by
  cases l with
  | nil => simp [curveS]
  | cons p rest =>
    have h0 := h.pt 0 p rfl
    unfold curveS
    dsimp only
    split
    · first | omega | (dsimp only; omega)
    · have := curveGo_bounds rest p q h (by omega)
      omega

theorem alongS_bounds {l : List XPoint} (h : CurveOk l) (back : Bool) (q : Int) : -2199023255552 ≤ (alongS l back q).low ∧ (alongS l back q).low ≤ (alongS l back q).high ∧ (alongS l back q).high ≤ 2199023255552 := by
  have h1 := curveS_bounds h q
  have h2 := curveS_bounds h (-q)
  unfold alongS negS
  split <;> first | omega | (dsimp only; omega)

theorem stateS_bounds {f : XFan} (h : FanOk f) (s q : Int) : -2199023255552 ≤ (stateS f s q).low ∧ (stateS f s q).low ≤ (stateS f s q).high ∧ (stateS f s q).high ≤ 2199023255552 := by
  have h1 := alongS_bounds h.ok f.back q
  have h2 := alongS_bounds h.ok (!f.back) q
  have h3 := alongS_bounds h.ok false q
  have h4 := alongS_bounds h.ok true q
  unfold stateS
  split
  · omega
  · split
    · omega
    · split <;> first | omega | (dsimp only; omega)

theorem floor_eq {a b : Int} (hb : 0 < b) : (if a.tmod b < 0 then a.tdiv b - 1 else a.tdiv b) = a / b := by
  have h1 := Int.mul_tdiv_add_tmod a b
  have h2 : -b < a.tmod b := by have := Int.lt_tmod_of_pos a hb; omega
  have h3 : a.tmod b < b := Int.tmod_lt_of_pos a hb
  split
  · have := (Int.ediv_emod_unique (a := a) (b := b) (q := a.tdiv b - 1) (r := a.tmod b + b) hb).2 ⟨by rw [Int.mul_sub]; omega, by omega, by omega⟩
    exact this.1.symm
  · have := (Int.ediv_emod_unique (a := a) (b := b) (q := a.tdiv b) (r := a.tmod b) hb).2 ⟨by omega, by omega, by omega⟩
    exact this.1.symm

theorem neg_floor {N w : Int} (hw : 0 < w) : (-N) / w = -(N / w) - (if 0 < N % w then 1 else 0) := by
  have h1 := Int.mul_ediv_add_emod N w
  have h2 := Int.emod_nonneg N (show w ≠ 0 by omega)
  have h3 := Int.emod_lt_of_pos N hw
  split
  · have := (Int.ediv_emod_unique (a := -N) (b := w) (q := -(N / w) - 1) (r := w - N % w) hw).2 ⟨by rw [Int.mul_sub, Int.mul_neg]; omega, by omega, by omega⟩
    exact this.1
  · have := (Int.ediv_emod_unique (a := -N) (b := w) (q := -(N / w)) (r := 0) hw).2 ⟨by rw [Int.mul_neg]; omega, by omega, by omega⟩
    rw [this.1]; omega

theorem between_ref {a b : XPoint} {q : Int} (hw : a.flow < b.flow) :
    (⟨a.pres + (b.pres - a.pres) * (q - a.flow) / (b.flow - a.flow), a.pres + -(-((b.pres - a.pres) * (q - a.flow)) / (b.flow - a.flow))⟩ : XSpan) = betweenS a b q := by
  have e : (b.pres - a.pres) * (q - a.flow) = -((a.pres - b.pres) * (q - a.flow)) := by rw [← Int.neg_mul]; congr 1; omega
  rw [e, Int.neg_neg, neg_floor (by omega)]
  unfold betweenS
  congr 1 <;> omega

theorem curve_le_last : ∀ (l : List XPoint) (r pn : XPoint), CurveOk (r :: l) → (r :: l)[l.length]? = some pn → r.flow ≤ pn.flow ∧ (l ≠ [] → r.flow < pn.flow)
  | [], r, pn, _, hn => by simp at hn; subst hn; exact ⟨Int.le_refl _, fun h => absurd rfl h⟩
  | s :: l, r, pn, ok, hn => by
    have hs := ok.st 0 r s rfl rfl
    have := curve_le_last l s pn ⟨fun i => ok.pt (i + 1), fun i => ok.st (i + 1)⟩ (by simpa using hn)
    exact ⟨by omega, fun _ => by omega⟩
theorem curveGo_last : ∀ (l : List XPoint) (p pn : XPoint) (q : Int), CurveOk (p :: l) → (p :: l)[l.length]? = some pn → pn.flow ≤ q → (l = [] ∨ p.flow < q) → curveGo p l q = ⟨pn.pres, pn.pres⟩
  | [], p, pn, q, _, hn, _, _ => by simp at hn; subst hn; rfl
  | r :: rest, p, pn, q, h, hn, hq, _ => by
    have h2 := h.st 0 p r rfl rfl
    have hn' : (r :: rest)[rest.length]? = some pn := by simpa using hn
    have ok' : CurveOk (r :: rest) := ⟨fun i => h.pt (i + 1), fun i => h.st (i + 1)⟩
    have hle := curve_le_last rest r pn ok' hn'
    unfold curveGo
    split
    · rename_i hqr
      have hre : rest = [] := by
        rcases rest with _ | ⟨s, rest⟩
        · rfl
        · have := hle.2 (by simp); omega
      subst hre
      simp at hn'; subst hn'
      have hqe : q = r.flow := by omega
      subst hqe
      unfold betweenS
      have hw : 0 < r.flow - p.flow := by omega
      rw [Int.mul_ediv_cancel _ (by omega), Int.mul_emod_left]
      simp
      omega
    · exact curveGo_last rest r pn q ok' hn' hq (.inr (by omega))

theorem curveS_last {l : List XPoint} (h : CurveOk l) (h1 : 1 ≤ l.length) {pn : XPoint} (hn : l[l.length - 1]? = some pn) (q : Int) (hq : pn.flow ≤ q) : curveS l q = ⟨pn.pres, pn.pres⟩ := by
  cases l with
  | nil => simp at h1
  | cons p rest =>
    have hn' : (p :: rest)[rest.length]? = some pn := by simpa using hn
    unfold curveS
    dsimp only
    split
    · rename_i hp
      have hre : rest = [] := by
        rcases rest with _ | ⟨s, rest⟩
        · rfl
        · exfalso
          have h2 := h.st 0 p s rfl rfl
          have := curve_le_last rest s pn ⟨fun i => h.pt (i + 1), fun i => h.st (i + 1)⟩ (by simpa using hn')
          omega
      subst hre
      simp at hn'; subst hn'; rfl
    · exact curveGo_last rest p pn q h hn' hq (.inr (by omega))

theorem curveGo_at : ∀ (l : List XPoint) (p0 : XPoint) (k : Nat) (p r : XPoint) (q : Int), CurveOk (p0 :: l) → (p0 :: l)[k]? = some p → (p0 :: l)[k + 1]? = some r → p.flow ≤ q → q < r.flow → p0.flow < q → curveGo p0 l q = betweenS p r q
  | [], p0, k, p, r, q, _, _, hr, _, _, _ => by simp at hr
  | s :: rest, p0, 0, p, r, q, h, hp, hr, h1, h2, h3 => by
    simp at hp hr; subst hp; subst hr
    unfold curveGo
    rw [if_pos (by omega)]
  | s :: rest, p0, k + 1, p, r, q, h, hp, hr, h1, h2, h3 => by
    have ok' : CurveOk (s :: rest) := ⟨fun i => h.pt (i + 1), fun i => h.st (i + 1)⟩
    have h4 := h.st 0 p0 s rfl rfl
    have hp' : (s :: rest)[k]? = some p := by simpa using hp
    have hr' : (s :: rest)[k + 1]? = some r := by simpa using hr
    have hr2 := ok'.st k p r hp' hr'
    unfold curveGo
    split
    · rename_i hqs
      -- then the point at k is this one, and the flow is its own
      have mono : ∀ (j : Nat) (x y : XPoint), (s :: rest)[0]? = some x → (s :: rest)[j]? = some y → x.flow + j ≤ y.flow := by
        intro j
        induction j with
        | zero => intro x y hx hy; rw [hx] at hy; cases hy; omega
        | succ j ih =>
          intro x y hx hy
          obtain ⟨hj, _⟩ := List.getElem?_eq_some_iff.1 hy
          obtain ⟨z, hz⟩ := get_some (l := s :: rest) (k := j) (by omega)
          have := ih x z hx hz
          have := ok'.st j z y hz hy
          omega
      have hm := mono k s p rfl hp'
      have hk : k = 0 := by omega
      subst hk
      simp at hp'; subst hp'
      have hqe : q = s.flow := by omega
      subst hqe
      have hpr := ok'.pt 0 s rfl
      unfold betweenS
      have hw : 0 < s.flow - p0.flow := by omega
      rw [Int.mul_ediv_cancel _ (by omega), Int.mul_emod_left, Int.sub_self, Int.mul_zero, Int.zero_ediv, Int.zero_emod]
      simp
      omega
    · exact curveGo_at rest s k p r q ok' hp' hr' h1 h2 (by omega)

theorem curveS_at {l : List XPoint} (h : CurveOk l) {k : Nat} {p r : XPoint} {q : Int} (hp : l[k]? = some p) (hr : l[k + 1]? = some r) (h1 : p.flow ≤ q) (h2 : q < r.flow) : curveS l q = betweenS p r q := by
  cases l with
  | nil => simp at hp
  | cons p0 rest =>
    unfold curveS
    dsimp only
    split
    · rename_i hq
      have mono : ∀ (j : Nat) (y : XPoint), (p0 :: rest)[j]? = some y → p0.flow + j ≤ y.flow := by
        intro j
        induction j with
        | zero => intro y hy; simp at hy; subst hy; omega
        | succ j ih =>
          intro y hy
          obtain ⟨hj, _⟩ := List.getElem?_eq_some_iff.1 hy
          obtain ⟨z, hz⟩ := get_some (l := p0 :: rest) (k := j) (by omega)
          have := ih z hz
          have := h.st j z y hz hy
          omega
      have hm := mono k p hp
      have hk : k = 0 := by omega
      subst hk
      simp at hp; subst hp
      have hqe : q = p0.flow := by omega
      subst hqe
      unfold betweenS
      rw [Int.sub_self, Int.mul_zero, Int.zero_ediv, Int.zero_emod]
      simp
    · exact curveGo_at rest p0 k p r q h hp hr h1 h2 (by omega)
end Go.Proofs.Ytimnnhdeicpenaa
