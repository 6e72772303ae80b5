/-
  Flows: RefFits, PipeOf, Mono, Spec, Codes, in one text. By an AI agent; no person has read it.
-/
import Derived.Test.YtdnhinkamcfpkaaFans
set_option linter.unusedSimpArgs false
set_option linter.unusedVariables false
section
namespace Go.Proofs.Ytdnhinkamcfpkaa
open Go.Aw Go
set_option maxRecDepth 20000
attribute [local irreducible] CJ LJ DJ Tri YV Gives seqK blockK loopK retK RV mergeK

def presBad (p : Int) : Option Int := if p < -70368744177664 ∨ 70368744177664 < p then some 1 else none
def flowBad (q : Int) : Option Int := if q < -1048576 ∨ 1048576 < q then some 1 else none
/-- what leaves the places by the first k roads -/
def netTo (a : XAir) (x : XState) : Nat → List Int
  | 0 => List.replicate x.pres.l.length 0
  | k + 1 =>
    let l1 := (netTo a x k).set (a.mine.roads.l.getD k default).fr.toNat ((netTo a x k).getD (a.mine.roads.l.getD k default).fr.toNat 0 + x.flows.l.getD k 0)
    l1.set (a.mine.roads.l.getD k default).to.toNat (l1.getD (a.mine.roads.l.getD k default).to.toNat 0 - x.flows.l.getD k 0)
def roadUnfit (a : XAir) (s : XSetting) (x : XState) (i : Nat) : Option Int :=
  let r := a.mine.roads.l.getD i default
  let d := x.pres.l.getD r.fr.toNat 0 - x.pres.l.getD r.to.toNat 0
  if (r.closed = true ∧ x.flows.l.getD i 0 ≠ 0) ∨ (r.closed = false ∧ (d < (innerS a s i (x.flows.l.getD i 0)).low ∨ (innerS a s i (x.flows.l.getD i 0)).high < d)) then some 10 else none
def placeUnfit (a : XAir) (x : XState) (net : List Int) (i : Nat) : Option Int :=
  if ((a.mine.places.l.getD i default).surface = true ∧ x.pres.l.getD i 0 ≠ 0) ∨ ((a.mine.places.l.getD i default).surface = false ∧ net.getD i 0 ≠ 0) then some 10 else none
/-- P9.4 -/
def fitsS (a : XAir) (s : XSetting) (x : XState) : Int :=
  if airErr a ≠ 0 then airErr a else if fitB a s = false then 21
  else if x.pres.l.length ≠ a.mine.places.l.length ∨ x.flows.l.length ≠ a.mine.roads.l.length then 11
  else match x.pres.l.findSome? presBad with
    | some e => e
    | none => match x.flows.l.findSome? flowBad with
      | some e => e
      | none => match (List.range x.flows.l.length).findSome? (roadUnfit a s x) with
        | some e => e
        | none => ((List.range x.pres.l.length).findSome? (placeUnfit a x (netTo a x x.flows.l.length))).getD 0

theorem netTo_length (a : XAir) (x : XState) : ∀ k, (netTo a x k).length = x.pres.l.length
  | 0 => by simp [netTo]
  | k + 1 => by simp only [netTo, List.length_set]; exact netTo_length a x k

theorem set_bounds {l : List Int} {i : Nat} {v B : Int} (hl : ∀ (j : Nat) (y : Int), l[j]? = some y → -B ≤ y ∧ y ≤ B) (hv : -B ≤ v ∧ v ≤ B) : ∀ (j : Nat) (y : Int), (l.set i v)[j]? = some y → -B ≤ y ∧ y ≤ B := by
  intro j y hy
  rw [List.getElem?_set] at hy
  split at hy
  · split at hy
    · cases hy; exact hv
    · cases hy
  · exact hl j y hy

theorem netTo_bounds {a : XAir} {x : XState} (hf : ∀ (i : Nat) (q : Int), x.flows.l[i]? = some q → -1048576 ≤ q ∧ q ≤ 1048576) : ∀ k, k ≤ x.flows.l.length → ∀ (j : Nat) (y : Int), (netTo a x k)[j]? = some y → -(2097152 * (k : Int)) ≤ y ∧ y ≤ 2097152 * (k : Int)
  | 0, _, j, y, hy => by
    simp only [netTo, List.getElem?_replicate] at hy
    split at hy
    · cases hy; omega
    · cases hy
  | k + 1, hk, j, y, hy => by
    have ih := netTo_bounds (a := a) hf k (by omega)
    have hq := hf k _ (get_D 0 (by omega))
    have gd : ∀ (l : List Int) (B : Int) (i : Nat), 0 ≤ B → (∀ (j : Nat) (y : Int), l[j]? = some y → -B ≤ y ∧ y ≤ B) → -B ≤ l.getD i 0 ∧ l.getD i 0 ≤ B := by
      intro l B i hB h
      rcases Nat.lt_or_ge i l.length with h' | h'
      · exact h i _ (get_D 0 h')
      · rw [List.getD_eq_getElem?_getD, List.getElem?_eq_none h']; simp; omega
    have ih1 : ∀ (j : Nat) (y : Int), (netTo a x k)[j]? = some y → -(2097152 * (k : Int) + 1048576) ≤ y ∧ y ≤ 2097152 * (k : Int) + 1048576 := fun j y h => by have := ih j y h; omega
    have h0 := gd (netTo a x k) (2097152 * (k : Int)) (a.mine.roads.l.getD k default).fr.toNat (by omega) ih
    have s1 := set_bounds (i := (a.mine.roads.l.getD k default).fr.toNat) (v := (netTo a x k).getD (a.mine.roads.l.getD k default).fr.toNat 0 + x.flows.l.getD k 0) ih1 (by omega)
    have h1 := gd _ _ (a.mine.roads.l.getD k default).to.toNat (by omega) s1
    have s1' : ∀ (j : Nat) (y : Int), ((netTo a x k).set (a.mine.roads.l.getD k default).fr.toNat ((netTo a x k).getD (a.mine.roads.l.getD k default).fr.toNat 0 + x.flows.l.getD k 0))[j]? = some y → -(2097152 * (k : Int) + 2097152) ≤ y ∧ y ≤ 2097152 * (k : Int) + 2097152 := fun j y h => by have := s1 j y h; omega
    have s2 := set_bounds (i := (a.mine.roads.l.getD k default).to.toNat) (v := ((netTo a x k).set (a.mine.roads.l.getD k default).fr.toNat ((netTo a x k).getD (a.mine.roads.l.getD k default).fr.toNat 0 + x.flows.l.getD k 0)).getD (a.mine.roads.l.getD k default).to.toNat 0 - x.flows.l.getD k 0) s1' (by omega)
    have := s2 j y hy
    push_cast
    omega

theorem fitsS_at {a : XAir} {s : XSetting} {x : XState} (h0 : airErr a = 0) (h1 : fitB a s = true) (h2 : ¬ (x.pres.l.length ≠ a.mine.places.l.length ∨ x.flows.l.length ≠ a.mine.roads.l.length)) :
    fitsS a s x = match x.pres.l.findSome? presBad with
    | some e => e
    | none => match x.flows.l.findSome? flowBad with
      | some e => e
      | none => match (List.range x.flows.l.length).findSome? (roadUnfit a s x) with
        | some e => e
        | none => ((List.range x.pres.l.length).findSome? (placeUnfit a x (netTo a x x.flows.l.length))).getD 0 := by
  rw [fitsS, if_neg (by simp [h0]), if_neg (by simp [h1]), if_neg h2]

end Go.Proofs.Ytdnhinkamcfpkaa

end
section
namespace Go.Proofs.Ytdnhinkamcfpkaa
open Go.Aw Go

/-- the fans of a road that do not stand, among the first k ones -/
def blowsTo (a : XAir) (s : XSetting) (r : Int) : Nat → List XBlow
  | 0 => []
  | k + 1 => if s.fans.l.getD k 0 ≠ 0 ∧ (a.fans.l.getD k default).road = r then blowsTo a s r k ++ [⟨a.fans.l.getD k default, s.fans.l.getD k 0⟩] else blowsTo a s r k

structure PipeIs (a : XAir) (s : XSetting) (r : Int) (p : XPipe) : Prop where
  road : p.road = { a.mine.roads.l.getD r.toNat default with rest := restTo a s r a.doors.l.length }
  num : p.num = r
  fans : p.fans.l = blowsTo a s r a.fans.l.length

def subS (q : Int) (s : XSpan) (b : XBlow) : XSpan := ⟨s.low - (stateS b.fan b.state q).high, s.high - (stateS b.fan b.state q).low⟩

theorem dropTo_fold (p : XPipe) (q : Int) : ∀ k, k ≤ p.fans.l.length → dropTo p q k = (p.fans.l.take k).foldl (subS q) (dropTo p q 0)
  | 0, _ => by simp
  | k + 1, hk => by
    have hx := get_D (l := p.fans.l) (k := k) default (by omega)
    have e : p.fans.l.take (k + 1) = p.fans.l.take k ++ [p.fans.l.getD k default] := by
      rw [List.take_add_one, hx]; rfl
    rw [e, List.foldl_append, ← dropTo_fold p q k (by omega)]
    rfl

theorem stateS_0 (f : XFan) (q : Int) : stateS f 0 q = ⟨0, 0⟩ := by
  rw [stateS, if_neg (by decide), if_neg (by decide), if_neg (by decide)]

theorem innerTo_fold (a : XAir) (s : XSetting) (r q : Int) : ∀ k, innerTo a s r q k = (blowsTo a s r k).foldl (subS q) (innerTo a s r q 0)
  | 0 => rfl
  | k + 1 => by
    have ih := innerTo_fold a s r q k
    rw [innerTo.eq_2, blowsTo.eq_2]
    by_cases hr : (a.fans.l.getD k default).road = r
    · by_cases h0 : s.fans.l.getD k 0 = 0
      · rw [if_pos hr, if_neg (fun h => h.1 h0), h0, stateS_0, ← ih]
        simp only [Int.sub_zero]
      · rw [if_pos hr, if_pos ⟨h0, hr⟩, List.foldl_append, ← ih]
        rfl
    · rw [if_neg hr, if_neg (fun h => hr h.2), ← ih]

theorem dropP_eq {a : XAir} {s : XSetting} {r : Int} {p : XPipe} (h : PipeIs a s r p) (q : Int) : dropP p q = innerS a s r q := by
  have e0 : dropTo p q 0 = innerTo a s r q 0 := by
    by_cases hq : q < 0
    · rw [dropTo_neg hq, innerTo_neg hq, h.road, Int.neg_mul, Int.neg_mul, Int.mul_assoc, Int.mul_assoc]
    · rw [dropTo_pos hq, innerTo_pos hq, h.road, Int.mul_assoc, Int.mul_assoc]
  rw [dropP, dropTo_fold p q _ (Nat.le_refl _), List.take_length, e0, h.fans, innerS, innerTo_fold a s r q a.fans.l.length]

theorem blowsTo_mem {a : XAir} {s : XSetting} {r : Int} : ∀ (k : Nat), k ≤ a.fans.l.length → ∀ b ∈ blowsTo a s r k, ∃ i : Nat, a.fans.l[i]? = some b.fan
  | 0, _, b, hb => by simp [blowsTo] at hb
  | k + 1, hk, b, hb => by
    rw [blowsTo] at hb
    split at hb
    · rcases List.mem_append.1 hb with h | h
      · exact blowsTo_mem k (by omega) b h
      · rw [List.mem_singleton.1 h]; exact ⟨k, get_D default (by omega)⟩
    · exact blowsTo_mem k (by omega) b hb

theorem blowsTo_length {a : XAir} {s : XSetting} {r : Int} : ∀ (k : Nat), (blowsTo a s r k).length ≤ k
  | 0 => by simp [blowsTo]
  | k + 1 => by
    have := blowsTo_length (a := a) (s := s) (r := r) k
    rw [blowsTo]
    split
    · simp; omega
    · omega

theorem pipeOk_of {a : XAir} {s : XSetting} {r : Int} {p : XPipe} (ha : AirOk a) (hr : 0 ≤ r ∧ r < a.mine.roads.l.length) (h : PipeIs a s r p) : PipeOk p := by
  have hro := ha.mine.road r.toNat _ (get_D default (by omega))
  have hrb := restTo_bounds (s := s) ha hr a.doors.l.length (Nat.le_refl _)
  have hnd := ha.ndoors
  have hnf := ha.nfans
  have hl := blowsTo_length (a := a) (s := s) (r := r) a.fans.l.length
  refine ⟨?_, ?_, ?_, fun i b hb => ?_⟩
  · rw [h.road]; dsimp only; omega
  · rw [h.road]; exact hro.lift
  · rw [h.fans]; omega
  · rw [h.fans] at hb
    obtain ⟨j, hj⟩ := blowsTo_mem a.fans.l.length (Nat.le_refl _) b (List.mem_of_getElem? hb)
    exact (ha.fan j _ hj).1

/-! ### The searches find what rises -/

/-- f rises strictly on the numbers that the searches look at -/
def Rises (f : Int → Int) : Prop := ∀ x y : Int, -1048577 ≤ x → x < y → y ≤ 1048577 → f x < f y

theorem lowS_spec {f : Int → Int} {pr : Int} : ∀ (n : Nat) (lo hi : Int), (hi - lo).toNat = n → lo ≤ hi → lo ≤ lowS f pr lo hi ∧ lowS f pr lo hi ≤ hi
  | n, lo, hi, hn, hle => by
    by_cases h : lo < hi
    · have he := half_eq (x := hi - lo + 1) (by omega)
      by_cases hf : f (lo + (hi - lo + 1).tdiv 2) ≤ pr
      · rw [lowS_le h hf]
        have := lowS_spec (f := f) (pr := pr) _ (lo + (hi - lo + 1).tdiv 2) hi rfl (by omega)
        omega
      · rw [lowS_gt h hf]
        have := lowS_spec (f := f) (pr := pr) _ lo (lo + (hi - lo + 1).tdiv 2 - 1) rfl (by omega)
        omega
    · rw [lowS_end h]; omega
termination_by n => n
decreasing_by all_goals (have := half_eq (x := hi - lo + 1) (by omega); omega)
end Go.Proofs.Ytdnhinkamcfpkaa

end
section
namespace Go.Proofs.Ytdnhinkamcfpkaa
open Go.Aw Go

def LeS (s t : XSpan) : Prop := s.low ≤ t.low ∧ s.high ≤ t.high

theorem between_low {a b : XPoint} {q : Int} (hw : a.flow < b.flow) : (betweenS a b q).low = a.pres + (-((a.pres - b.pres) * (q - a.flow))) / (b.flow - a.flow) := by
  rw [neg_floor (by omega)]; unfold betweenS; dsimp only; omega

theorem between_mono {a b : XPoint} {q q' : Int} (hp : b.pres ≤ a.pres) (hw : a.flow < b.flow) (h : q ≤ q') : LeS (betweenS a b q') (betweenS a b q) := by
  have hm : (a.pres - b.pres) * (q - a.flow) ≤ (a.pres - b.pres) * (q' - a.flow) := Int.mul_le_mul_of_nonneg_left (by omega) (by omega)
  constructor
  · rw [between_low hw, between_low hw]
    have := Int.ediv_le_ediv (a := -((a.pres - b.pres) * (q' - a.flow))) (b := -((a.pres - b.pres) * (q - a.flow))) (c := b.flow - a.flow) (by omega) (by omega)
    omega
  · have := Int.ediv_le_ediv (a := (a.pres - b.pres) * (q - a.flow)) (b := (a.pres - b.pres) * (q' - a.flow)) (c := b.flow - a.flow) (by omega) hm
    unfold betweenS; dsimp only; omega

theorem curveGo_mono : ∀ (l : List XPoint) (p : XPoint) (q q' : Int), CurveOk (p :: l) → p.flow ≤ q → q ≤ q' → LeS (curveGo p l q') (curveGo p l q)
  | [], p, q, q', _, _, _ => ⟨Int.le_refl _, Int.le_refl _⟩
  | r :: rest, p, q, q', h, hq, hqq => by
    have h0 := h.pt 0 p rfl
    have h1 := h.pt 1 r rfl
    have h2 := h.st 0 p r rfl rfl
    have ok' : CurveOk (r :: rest) := ⟨fun i => h.pt (i + 1), fun i => h.st (i + 1)⟩
    unfold curveGo
    by_cases c1 : q ≤ r.flow
    · by_cases c2 : q' ≤ r.flow
      · rw [if_pos c1, if_pos c2]; exact between_mono h2.2 h2.1 hqq
      · rw [if_pos c1, if_neg c2]
        have b1 := between_bounds (a := p) (b := r) (q := q) (by omega) (by omega)
        have b2 := curveGo_bounds rest r q' ok' (by omega)
        exact ⟨by omega, by omega⟩
    · rw [if_neg c1, if_neg (by omega)]
      exact curveGo_mono rest r q q' ok' (by omega) hqq

theorem curveS_mono {l : List XPoint} (h : CurveOk l) {q q' : Int} (hqq : q ≤ q') : LeS (curveS l q') (curveS l q) := by
  cases l with
  | nil => exact ⟨Int.le_refl _, Int.le_refl _⟩
  | cons p rest =>
    unfold curveS
    dsimp only
    by_cases c1 : q ≤ p.flow
    · by_cases c2 : q' ≤ p.flow
      · rw [if_pos c1, if_pos c2]; exact ⟨Int.le_refl _, Int.le_refl _⟩
      · rw [if_pos c1, if_neg c2]
        have b2 := curveGo_bounds rest p q' h (by omega)
        exact ⟨by dsimp only; omega, by dsimp only; omega⟩
    · rw [if_neg c1, if_neg (by omega)]
      exact curveGo_mono rest p q q' h (by omega) hqq

theorem alongS_mono {l : List XPoint} (h : CurveOk l) (back : Bool) {q q' : Int} (hqq : q ≤ q') : LeS (alongS l back q') (alongS l back q) := by
  unfold alongS
  cases back with
  | false => exact curveS_mono h hqq
  | true =>
    have := curveS_mono h (q := -q') (q' := -q) (by omega)
    exact ⟨by simp only [if_true, negS]; have := this.2; omega, by simp only [if_true, negS]; have := this.1; omega⟩

theorem stateS_mono {f : XFan} (h : CurveOk f.curve.l) (s : Int) {q q' : Int} (hqq : q ≤ q') : LeS (stateS f s q') (stateS f s q) := by
  have m1 := alongS_mono h f.back hqq
  have m2 := alongS_mono h (!f.back) hqq
  have m3 := alongS_mono h false hqq
  have m4 := alongS_mono h true hqq
  unfold LeS at *
  unfold stateS
  split
  · exact m1
  · split
    · exact m2
    · split
      · dsimp only; omega
      · exact ⟨Int.le_refl _, Int.le_refl _⟩

def LtS (s t : XSpan) : Prop := s.low < t.low ∧ s.high < t.high

theorem sq_lt {r x y : Int} (hr : 0 < r) (hx : 0 ≤ x) (h : x < y) : r * x * x < r * y * y := by
  have h1 : r * x ≤ r * y := Int.mul_le_mul_of_nonneg_left (by omega) (by omega)
  have h0 : 0 ≤ r * x := Int.mul_nonneg (by omega) hx
  have h2 : r * x * x ≤ r * x * y := Int.mul_le_mul_of_nonneg_left (by omega) h0
  have h3 : r * x < r * y := Int.mul_lt_mul_of_pos_left h hr
  have h4 : r * x * y < r * y * y := Int.mul_lt_mul_of_pos_right h3 (by omega)
  omega

theorem baseS_mono {rest lift : XSpan} (hr : 1 ≤ rest.low ∧ rest.low ≤ rest.high) {q q' : Int} (h : q < q') : LtS (baseS rest lift q) (baseS rest lift q') := by
  unfold baseS LtS
  have neg : ∀ (r x : Int), r * x * x = r * (-x) * (-x) := fun r x => by rw [Int.mul_neg (r * -x), Int.mul_neg r, Int.neg_mul, Int.neg_neg]
  by_cases c1 : q < 0
  · by_cases c2 : q' < 0
    · rw [if_pos c1, if_pos c2]
      have a1 := sq_lt (r := rest.high) (x := -q') (y := -q) (by omega) (by omega) (by omega)
      have a2 := sq_lt (r := rest.low) (x := -q') (y := -q) (by omega) (by omega) (by omega)
      rw [← neg, ← neg] at a1 a2
      dsimp only; omega
    · rw [if_pos c1, if_neg c2]
      have a1 := sq_lt (r := rest.high) (x := 0) (y := -q) (by omega) (by omega) (by omega)
      have a2 := sq_lt (r := rest.low) (x := 0) (y := -q) (by omega) (by omega) (by omega)
      rw [← neg] at a1 a2
      have b1 : 0 ≤ rest.low * q' * q' := Int.mul_nonneg (Int.mul_nonneg (by omega) (by omega)) (by omega)
      have b2 : 0 ≤ rest.high * q' * q' := Int.mul_nonneg (Int.mul_nonneg (by omega) (by omega)) (by omega)
      simp only [Int.mul_zero] at a1 a2
      dsimp only; omega
  · rw [if_neg c1, if_neg (by omega)]
    have a1 := sq_lt (r := rest.high) (x := q) (y := q') (by omega) (by omega) h
    have a2 := sq_lt (r := rest.low) (x := q) (y := q') (by omega) (by omega) h
    dsimp only; omega

theorem innerTo_mono {a : XAir} {s : XSetting} (ha : AirOk a) {r : Int} (hr : 0 ≤ r ∧ r < a.mine.roads.l.length) {q q' : Int} (h : q < q') : ∀ k, k ≤ a.fans.l.length → LtS (innerTo a s r q k) (innerTo a s r q' k)
  | 0, _ => by
    have hb := restTo_bounds (s := s) ha hr a.doors.l.length (Nat.le_refl _)
    exact baseS_mono ⟨hb.1, hb.2.1⟩ h
  | k + 1, hk => by
    have ih := innerTo_mono (s := s) ha hr h k (by omega)
    have m := stateS_mono (ha.fan k _ (get_D default (by omega))).1.ok (s.fans.l.getD k 0) (show q ≤ q' by omega)
    unfold LtS LeS at *
    rw [innerTo.eq_2, innerTo.eq_2]
    split
    · dsimp only; omega
    · exact ih

theorem innerS_mono {a : XAir} {s : XSetting} (ha : AirOk a) {r : Int} (hr : 0 ≤ r ∧ r < a.mine.roads.l.length) {q q' : Int} (h : q < q') : LtS (innerS a s r q) (innerS a s r q') := innerTo_mono ha hr h _ (Nat.le_refl _)
end Go.Proofs.Ytdnhinkamcfpkaa

end
section
namespace Go.Proofs.Ytdnhinkamcfpkaa
open Go.Aw Go

theorem Rises.le {f : Int → Int} (h : Rises f) {x y : Int} (h1 : -1048577 ≤ x) (h2 : x ≤ y) (h3 : y ≤ 1048577) : f x ≤ f y := by
  rcases Int.lt_or_eq_of_le h2 with h' | h'
  · exact Int.le_of_lt (h x y h1 h' h3)
  · rw [h']; exact Int.le_refl _

theorem lowS_all {f : Int → Int} {pr : Int} (hf : Rises f) : ∀ (n : Nat) (lo hi : Int), (hi - lo).toNat = n → -1048577 ≤ lo → lo ≤ hi → hi ≤ 1048577 →
    lo ≤ lowS f pr lo hi ∧ lowS f pr lo hi ≤ hi ∧ (∀ x, lo < x → x ≤ lowS f pr lo hi → f x ≤ pr) ∧ (∀ x, lowS f pr lo hi < x → x ≤ hi → pr < f x)
  | n, lo, hi, hn, h1, hle, h2 => by
    by_cases h : lo < hi
    · have he := half_eq (x := hi - lo + 1) (by omega)
      by_cases hc : f (lo + (hi - lo + 1).tdiv 2) ≤ pr
      · rw [lowS_le h hc]
        obtain ⟨a1, a2, a3, a4⟩ := lowS_all (pr := pr) hf _ (lo + (hi - lo + 1).tdiv 2) hi rfl (by omega) (by omega) h2
        refine ⟨by omega, a2, fun x hx1 hx2 => ?_, a4⟩
        rcases Int.lt_or_le (lo + (hi - lo + 1).tdiv 2) x with hx | hx
        · exact a3 x hx hx2
        · exact Int.le_trans (hf.le (by omega) hx (by omega)) hc
      · rw [lowS_gt h hc]
        obtain ⟨a1, a2, a3, a4⟩ := lowS_all (pr := pr) hf _ lo (lo + (hi - lo + 1).tdiv 2 - 1) rfl h1 (by omega) (by omega)
        refine ⟨a1, by omega, a3, fun x hx1 hx2 => ?_⟩
        rcases Int.lt_or_le (lo + (hi - lo + 1).tdiv 2 - 1) x with hx | hx
        · have := hf.le (x := lo + (hi - lo + 1).tdiv 2) (y := x) (by omega) (by omega) (by omega)
          omega
        · exact a4 x hx1 hx
    · rw [lowS_end h]
      exact ⟨by omega, by omega, fun x _ _ => by omega, fun x _ _ => by omega⟩
termination_by n => n
decreasing_by all_goals (have := half_eq (x := hi - lo + 1) (by omega); omega)

theorem highS_all {f : Int → Int} {pr : Int} (hf : Rises f) : ∀ (n : Nat) (lo hi : Int), (hi - lo).toNat = n → -1048577 ≤ lo → lo ≤ hi → hi ≤ 1048577 →
    lo ≤ highS f pr lo hi ∧ highS f pr lo hi ≤ hi ∧ (∀ x, lo ≤ x → x < highS f pr lo hi → f x < pr) ∧ (∀ x, highS f pr lo hi ≤ x → x < hi → pr ≤ f x)
  | n, lo, hi, hn, h1, hle, h2 => by
    by_cases h : lo < hi
    · have he := half_eq (x := hi - lo) (by omega)
      by_cases hc : pr ≤ f (lo + (hi - lo).tdiv 2)
      · rw [highS_ge h hc]
        obtain ⟨a1, a2, a3, a4⟩ := highS_all (pr := pr) hf _ lo (lo + (hi - lo).tdiv 2) rfl h1 (by omega) (by omega)
        refine ⟨a1, by omega, a3, fun x hx1 hx2 => ?_⟩
        rcases Int.lt_or_le x (lo + (hi - lo).tdiv 2) with hx | hx
        · exact a4 x hx1 hx
        · exact Int.le_trans hc (hf.le (by omega) hx (by omega))
      · rw [highS_lt h hc]
        obtain ⟨a1, a2, a3, a4⟩ := highS_all (pr := pr) hf _ (lo + (hi - lo).tdiv 2 + 1) hi rfl (by omega) (by omega) h2
        refine ⟨by omega, a2, fun x hx1 hx2 => ?_, a4⟩
        rcases Int.lt_or_le x (lo + (hi - lo).tdiv 2 + 1) with hx | hx
        · have := hf.le (x := x) (y := lo + (hi - lo).tdiv 2) (by omega) (by omega) (by omega)
          omega
        · exact a3 x hx hx2
    · rw [highS_end h]
      exact ⟨by omega, by omega, fun x _ _ => by omega, fun x _ _ => by omega⟩
termination_by n => n
decreasing_by all_goals (have := half_eq (x := hi - lo) (by omega); omega)

theorem rises_low {a : XAir} {s : XSetting} (ha : AirOk a) {r : Int} (hr : 0 ≤ r ∧ r < a.mine.roads.l.length) : Rises fun q => (innerS a s r q).low := fun _ _ _ h _ => (innerS_mono ha hr h).1
theorem rises_high {a : XAir} {s : XSetting} (ha : AirOk a) {r : Int} (hr : 0 ≤ r ∧ r < a.mine.roads.l.length) : Rises fun q => (innerS a s r q).high := fun _ _ _ h _ => (innerS_mono ha hr h).2
end Go.Proofs.Ytdnhinkamcfpkaa

end
section
namespace Go.Proofs.Ytdnhinkamcfpkaa
open Go.Aw Go
set_option maxRecDepth 20000
attribute [local irreducible] CJ LJ DJ Tri YV Gives seqK blockK loopK retK RV mergeK

def bcell (n : Int) : List Value := [.int .u8 n]
abbrev bsl (x : Arr Int) : Sl := x.sl 1 bcell []
/-- the codes' own block -/
abbrev cblk (c : Nat) (x : Arr Int) (k : Nat) : Blk := ⟨c, [x.val, .int .i64 (k : Int)], 80⟩
structure CodesR (x : Arr Int) (R : List Sl) : Prop where
  sl : InR (bsl x) R
  byte : ∀ (i : Nat) (b : Int), x.l[i]? = some b → 0 ≤ b ∧ b ≤ 255

theorem next_tri (c : Nat) (x : Arr Int) (k : Nat) (n : Int) (R : List Sl) (hx : CodesR x R) (hk : k ≤ x.l.length) (hn : n ≤ 1000000) :
    Tri Try.prog 37 [.pointer (some ⟨c, 0, none⟩), .int .i64 n].toArray [cblk c x k] R
      (fun v L' R' => ∃ (r : Int) (k' : Nat), v = .int .i64 r ∧ 0 ≤ r ∧ (1 ≤ n → r < n) ∧ (n < 1 → r = 0) ∧ k' ≤ x.l.length ∧ [cblk c x k'] = L' ∧ R = R') := by
  have hsl := hx.sl
  refine Tri_len Try.call37 hsl fun hxn => ?_
  refine tri_enter 77 Try.call37 Try.func37 rfl rfl rfl ?_
  refine qae ?_
  refine qad ?_
  refine qco ?_
  refine CJ_drawn tb [0, 1, 2, 3, 4, 5, 6, 7, 8, 9, 10, 11, 12, 13] _ mixed (by kernel_rfl) (List.Sublist.refl _) ?_
  refine qao ?_
  refine DJ_q (yv_lss rfl rfl) rfl rfl rfl ?_
  refine qb2 ?_
  refine DJ_case (k := 8) (show _ = Value.bool _ from rfl) (fun hg2 => ?_) (fun hg2 => ?_)
  ·
   replace hg2 := qb hg2
   refine qap ?_
   refine qap ?_
   refine qap ?_
   refine qap ?_
   refine qap ?_
   refine qap ?_
   refine qap ?_
   refine qap ?_
   refine qap ?_
   refine qap ?_
   refine qbp ?_
   refine qbu ?_
   refine CJ_cond_true rfl ?_
   refine qae ?_
   refine qad ?_
   refine qbh ?_
   refine q_i (L' := [cblk c x k]) (R' := R) ?_
   exact ⟨0, k, rfl, by omega, fun _ => by omega, fun _ => rfl, hk, rfl, rfl⟩
  ·
   replace hg2 := qb hg2
   refine qb8 ?_
   refine qcb ?_
   refine qal ?_
   refine qat ?_
   refine qb8 ?_
   refine qcb ?_
   refine qal ?_
   refine qat ?_
   refine DJ_q (yv_len tb rfl rfl rfl) rfl rfl rfl ?_
   refine DJ_q (yv_geq rfl rfl) rfl rfl rfl ?_
   refine qbp ?_
   refine qbu ?_
   refine q_c (fun hc0 => ?_) (fun hc0 => ?_)
   ·
    refine qae ?_
    refine qad ?_
    refine qbh ?_
    refine q_i (L' := [cblk c x k]) (R' := R) ?_
    exact ⟨0, k, rfl, by omega, fun _ => by omega, fun _ => rfl, hk, rfl, rfl⟩
   ·
    have hb := get_D (l := x.l) (k := k) 0 (by omega)
    have hbb := hx.byte _ _ hb
    refine qbv ?_
    refine qa6 ?_
    refine LJ_q (yv_nilCheck rfl) rfl ?_
    refine qab ?_
    refine qac ?_
    refine qar ?_
    refine LJ_q (yv_nilCheck rfl) rfl ?_
    refine qab ?_
    refine qcn ?_
    refine qa4 ?_
    refine CJ_drawn tb [0, 1, 2, 3, 4, 5, 6, 7, 8, 9, 10, 11, 12] _ mixed (by kernel_rfl) (List.Sublist.refl _) ?_
    refine qb8 ?_
    refine qcb ?_
    refine qal ?_
    refine qat ?_
    refine qb8 ?_
    refine qcb ?_
    refine qal ?_
    refine qat ?_
    refine qb7 ?_
    refine qds ?_
    refine qbl ?_
    refine qdm ?_
    refine qcg ?_
    refine DJ_nil (seqK_normal (CJ_seq (CJ_seq ?_)))
    refine CJ_drawn tb [0, 1, 2, 3, 4, 5, 6, 7, 8, 9, 10, 11, 12, 13] _ mixed (by kernel_rfl) (List.Sublist.refl _) ?_
    refine qao ?_
    refine DJ_q (yv_gtr rfl rfl) rfl rfl rfl ?_
    refine qb2 ?_
    refine DJ_case (k := 41) (show _ = Value.bool _ from rfl) (fun hg2 => ?_) (fun hg2 => ?_)
    ·
     replace hg2 := qb hg2
     refine qb8 ?_
     refine qcb ?_
     refine qal ?_
     refine qat ?_
     refine qb8 ?_
     refine qcb ?_
     refine qal ?_
     refine qat ?_
     refine DJ_q (yv_len tb rfl rfl rfl) rfl rfl rfl ?_
     refine DJ_q (yv_lss rfl rfl) rfl rfl rfl ?_
     refine qbp ?_
     refine qbu ?_
     refine q_c (fun hc1 => ?_) (fun hc1 => ?_)
     ·
      obtain ⟨kk, hkk⟩ : ∃ kk, kk = k + 2 := ⟨_, rfl⟩
      have hb2 := get_D (l := x.l) (k := k + 1) 0 (by omega)
      have hbb2 := hx.byte _ _ hb2
      refine CJ_seq ?_
      refine CJ_drawn tb [0, 1, 2, 3, 4, 5, 6, 7, 8, 9, 10, 11, 12, 13, 14] _ mixed (by kernel_rfl) (List.Sublist.refl _) ?_
      refine qao ?_
      refine qdh ?_
      refine qb8 ?_
      refine qcb ?_
      refine qal ?_
      refine qat ?_
      refine qb8 ?_
      refine qcb ?_
      refine qal ?_
      refine qat ?_
      refine qdy ?_
      refine qbl ?_
      refine qdm ?_
      refine qc2 ?_
      refine qcg ?_
      refine DJ_nil (seqK_normal (CJ_region ?_))
      refine qa6 ?_
      refine LJ_q (yv_nilCheck rfl) rfl ?_
      refine qab ?_
      refine qac ?_
      refine qar ?_
      refine LJ_q (yv_nilCheck rfl) rfl ?_
      refine qab ?_
      refine qcn ?_
      refine qam ?_
      refine qaa ?_
      refine qaa ?_
      refine qda ?_
      refine qad ?_
      refine qa0 ?_
      have htm := fun y (h : 0 ≤ y) => And.intro (Int.tmod_nonneg n h) (Int.tmod_lt_of_pos y (show 0 < n by omega))
      refine retK_ret (L' := [cblk c x kk]) (R' := R) (res1 rfl (rv_tmp (show _ = Value.int _ _ from rfl))) ?hp ?hL ?hR
      case hp => exact ⟨_, kk, rfl, (htm _ (by omega)).1, fun _ => (htm _ (by omega)).2, fun _ => by omega, by omega, rfl, rfl⟩
      case hL => subst hkk; exact (by repeat (first | exact zs0 _ | exact zs1 _ | apply zs2 | apply zs3 | apply zs4 | apply zs5))
      case hR => exact allR_self _
     ·
      obtain ⟨kk, hkk⟩ : ∃ kk, kk = k + 1 := ⟨_, rfl⟩
      refine qbv ?_
      refine qaa ?_
      refine qaa ?_
      refine qda ?_
      refine qad ?_
      refine qa0 ?_
      have htm := fun y (h : 0 ≤ y) => And.intro (Int.tmod_nonneg n h) (Int.tmod_lt_of_pos y (show 0 < n by omega))
      refine retK_ret (L' := [cblk c x kk]) (R' := R) (res1 rfl (rv_tmp (show _ = Value.int _ _ from rfl))) ?hp ?hL ?hR
      case hp => exact ⟨_, kk, rfl, (htm _ (by omega)).1, fun _ => (htm _ (by omega)).2, fun _ => by omega, by omega, rfl, rfl⟩
      case hL => subst hkk; exact (by repeat (first | exact zs0 _ | exact zs1 _ | apply zs2 | apply zs3 | apply zs4 | apply zs5))
      case hR => exact allR_self _
    ·
     replace hg2 := qb hg2
     obtain ⟨kk, hkk⟩ : ∃ kk, kk = k + 1 := ⟨_, rfl⟩
     refine qap ?_
     refine qap ?_
     refine qap ?_
     refine qap ?_
     refine qap ?_
     refine qap ?_
     refine qap ?_
     refine qap ?_
     refine qap ?_
     refine qap ?_
     refine qbp ?_
     refine qbu ?_
     refine CJ_cond_false rfl ?_
     refine qbv ?_
     refine qaa ?_
     refine qaa ?_
     refine qda ?_
     refine qad ?_
     refine qa0 ?_
     have htm := fun y (h : 0 ≤ y) => And.intro (Int.tmod_nonneg n h) (Int.tmod_lt_of_pos y (show 0 < n by omega))
     refine retK_ret (L' := [cblk c x kk]) (R' := R) (res1 rfl (rv_tmp (show _ = Value.int _ _ from rfl))) ?hp ?hL ?hR
     case hp => exact ⟨_, kk, rfl, (htm _ (by omega)).1, fun _ => (htm _ (by omega)).2, fun _ => by omega, by omega, rfl, rfl⟩
     case hL => subst hkk; exact (by repeat (first | exact zs0 _ | exact zs1 _ | apply zs2 | apply zs3 | apply zs4 | apply zs5))
     case hR => exact allR_self _

theorem one_tri (c : Nat) (x : Arr Int) (k : Nat) (n : Int) (R : List Sl) (hx : CodesR x R) (hk : k ≤ x.l.length) (hn : -1000000 ≤ n ∧ n ≤ 1000000) :
    Tri Try.prog 36 [.pointer (some ⟨c, 0, none⟩), .int .i64 n].toArray [cblk c x k] R
      (fun v L' R' => ∃ (b : Bool) (k' : Nat), v = .bool b ∧ k' ≤ x.l.length ∧ [cblk c x k'] = L' ∧ R = R') := by
  refine tri_enter 11 Try.call36 Try.func36 rfl rfl rfl ?_
  refine qae ?_
  refine qaz ?_
  refine qam ?_
  refine qa6 ?_
  refine qaa ?_
  refine LJ_call rfl (next_tri c x k n _ hx hk (by omega)) rfl ?_
  rintro v L' R' ⟨r, k', rfl, h1, h2, h3, hk', rfl, rfl⟩
  refine qaa ?_
  refine qa9 ?_
  refine qbn ?_
  refine qaz ?_
  refine qa0 ?_
  refine q_b (L' := [cblk c x k']) (R' := R) ?_
  exact ⟨_, k', rfl, hk', rfl, rfl⟩

theorem range_tri (c : Nat) (x : Arr Int) (k : Nat) (lo hi : Int) (R : List Sl) (hx : CodesR x R) (hk : k ≤ x.l.length) (hl : -400000 ≤ lo ∧ lo ≤ hi ∧ hi ≤ 400000) :
    Tri Try.prog 38 [.pointer (some ⟨c, 0, none⟩), .int .i64 lo, .int .i64 hi].toArray [cblk c x k] R
      (fun v L' R' => ∃ (r : Int) (k' : Nat), v = .int .i64 r ∧ lo ≤ r ∧ r ≤ hi ∧ k' ≤ x.l.length ∧ [cblk c x k'] = L' ∧ R = R') := by
  refine tri_enter 15 Try.call38 Try.func38 rfl rfl rfl ?_
  refine qae ?_
  refine qad ?_
  refine qam ?_
  refine qaa ?_
  refine qa6 ?_
  refine qaa ?_
  refine qaa ?_
  refine qa9 ?_
  refine qar ?_
  refine LJ_call rfl (next_tri c x k (hi - lo + 1) _ hx hk (by omega)) rfl ?_
  rintro v L' R' ⟨r, k', rfl, h1, h2, h3, hk', rfl, rfl⟩
  have h4 := h2 (by omega)
  refine qar ?_
  refine qad ?_
  refine qa0 ?_
  refine q_i (L' := [cblk c x k']) (R' := R) ?_
  exact ⟨_, k', rfl, by omega, by omega, hk', rfl, rfl⟩

abbrev ccells (x : Arr Int) (k : Nat) : List Value := [x.val, .int .i64 (k : Int)]

theorem next1 {c : Nat} {x : Arr Int} {k : Nat} {n : Int} {L : List Blk} {F : List Value → List Blk} {R : List Sl} (hu : USeg c (ccells x k) 80 L F) (hx : CodesR x R) (hk : k ≤ x.l.length) (hn : n ≤ 1000000) :
    Tri Try.prog 37 [.pointer (some ⟨c, 0, none⟩), .int .i64 n].toArray L R
      (fun v L' R' => ∃ (r : Int) (k' : Nat), v = .int .i64 r ∧ 0 ≤ r ∧ (1 ≤ n → r < n) ∧ (n < 1 → r = 0) ∧ k' ≤ x.l.length ∧ F (ccells x k') = L' ∧ R = R') :=
  (Tri.at1 (Post' := fun v cs' R' => ∃ (r : Int) (k' : Nat), v = .int .i64 r ∧ 0 ≤ r ∧ (1 ≤ n → r < n) ∧ (n < 1 → r = 0) ∧ k' ≤ x.l.length ∧ cs' = ccells x k' ∧ R = R') hu (next_tri c x k n R hx hk hn)
    (fun v L' R' ⟨r, k', h1, h2, h3, h4, h5, h6, h7⟩ => ⟨_, h6, r, k', h1, h2, h3, h4, h5, rfl, h7⟩)).mono
    (fun v L' R' ⟨cs', h0, r, k', h1, h2, h3, h4, h5, h6, h7⟩ => ⟨r, k', h1, h2, h3, h4, h5, by rw [← h6]; exact h0, h7⟩)
theorem one1 {c : Nat} {x : Arr Int} {k : Nat} {n : Int} {L : List Blk} {F : List Value → List Blk} {R : List Sl} (hu : USeg c (ccells x k) 80 L F) (hx : CodesR x R) (hk : k ≤ x.l.length) (hn : -1000000 ≤ n ∧ n ≤ 1000000) :
    Tri Try.prog 36 [.pointer (some ⟨c, 0, none⟩), .int .i64 n].toArray L R
      (fun v L' R' => ∃ (b : Bool) (k' : Nat), v = .bool b ∧ k' ≤ x.l.length ∧ F (ccells x k') = L' ∧ R = R') :=
  (Tri.at1 (Post' := fun v cs' R' => ∃ (b : Bool) (k' : Nat), v = .bool b ∧ k' ≤ x.l.length ∧ cs' = ccells x k' ∧ R = R') hu (one_tri c x k n R hx hk hn)
    (fun v L' R' ⟨b, k', h1, h5, h6, h7⟩ => ⟨_, h6, b, k', h1, h5, rfl, h7⟩)).mono
    (fun v L' R' ⟨cs', h0, b, k', h1, h5, h6, h7⟩ => ⟨b, k', h1, h5, by rw [← h6]; exact h0, h7⟩)
theorem range1 {c : Nat} {x : Arr Int} {k : Nat} {lo hi : Int} {L : List Blk} {F : List Value → List Blk} {R : List Sl} (hu : USeg c (ccells x k) 80 L F) (hx : CodesR x R) (hk : k ≤ x.l.length) (hl : -400000 ≤ lo ∧ lo ≤ hi ∧ hi ≤ 400000) :
    Tri Try.prog 38 [.pointer (some ⟨c, 0, none⟩), .int .i64 lo, .int .i64 hi].toArray L R
      (fun v L' R' => ∃ (r : Int) (k' : Nat), v = .int .i64 r ∧ lo ≤ r ∧ r ≤ hi ∧ k' ≤ x.l.length ∧ F (ccells x k') = L' ∧ R = R') :=
  (Tri.at1 (Post' := fun v cs' R' => ∃ (r : Int) (k' : Nat), v = .int .i64 r ∧ lo ≤ r ∧ r ≤ hi ∧ k' ≤ x.l.length ∧ cs' = ccells x k' ∧ R = R') hu (range_tri c x k lo hi R hx hk hl)
    (fun v L' R' ⟨r, k', h1, h2, h3, h5, h6, h7⟩ => ⟨_, h6, r, k', h1, h2, h3, h5, rfl, h7⟩)).mono
    (fun v L' R' ⟨cs', h0, r, k', h1, h2, h3, h5, h6, h7⟩ => ⟨r, k', h1, h2, h3, h5, by rw [← h6]; exact h0, h7⟩)
end Go.Proofs.Ytdnhinkamcfpkaa

end
