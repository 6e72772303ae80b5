/-
  An air turned round: raising becomes lowering. By an AI agent; no person has read it.
-/
import Derived.Test.YtjjfpglgonpciaaRelP
set_option linter.unusedSimpArgs false
set_option linter.unusedVariables false
namespace Go.Proofs.Ytjjfpglgonpciaa
open Go.Aw Go

def turnR (r : XRoad) : XRoad := { r with lift := ⟨-r.lift.high, -r.lift.low⟩ }
def turnF (f : XFan) : XFan := { f with back := !f.back }
structure Turned (a b : XAir) : Prop where
  places : b.mine.places.l = a.mine.places.l
  rlen : b.mine.roads.l.length = a.mine.roads.l.length
  road : ∀ k : Nat, k < a.mine.roads.l.length → b.mine.roads.l.getD k default = turnR (a.mine.roads.l.getD k default)
  flen : b.fans.l.length = a.fans.l.length
  fan : ∀ k : Nat, k < a.fans.l.length → b.fans.l.getD k default = turnF (a.fans.l.getD k default)
  doors : b.doors.l = a.doors.l

theorem negS_negS (x : XSpan) : negS (negS x) = x := by
  simp only [negS, Int.neg_neg]
theorem alongS_turn (l : List XPoint) (b : Bool) (q : Int) : alongS l (!b) q = negS (alongS l b (-q)) := by
  cases b with
  | true => simp only [alongS, Bool.not_true, Bool.false_eq_true, if_false, if_true, negS_negS, Int.neg_neg]
  | false => simp only [alongS, Bool.not_false, Bool.false_eq_true, if_false, if_true]
theorem stateS_turn (f : XFan) (s q : Int) : stateS (turnF f) s q = negS (stateS f s (-q)) := by
  have e1 := alongS_turn f.curve.l false q
  have e2 := alongS_turn f.curve.l true q
  have e3 := alongS_turn f.curve.l f.back q
  have e4 := alongS_turn f.curve.l (!f.back) q
  simp only [Bool.not_false, Bool.not_true] at e1 e2
  unfold stateS
  simp only [turnF]
  split
  · exact e3
  · split
    · exact e4
    · split
      · rw [e1, e2]
        simp only [negS, XSpan.mk.injEq]
        constructor <;> omega
      · rfl
theorem baseS_turn (r l : XSpan) (q : Int) : baseS r ⟨-l.high, -l.low⟩ q = negS (baseS r l (-q)) := by
  have e : ∀ x : Int, x * -q * -q = x * q * q := fun x => by rw [Int.mul_neg, Int.mul_neg, Int.neg_mul, Int.neg_neg]
  unfold baseS
  rcases Int.lt_trichotomy q 0 with h | h | h
  · rw [if_pos h, if_neg (by omega)]
    simp only [negS, e, XSpan.mk.injEq]
    constructor <;> omega
  · subst h
    simp only [negS, Int.mul_zero, Int.neg_zero, Int.lt_irrefl, if_false, XSpan.mk.injEq]
    constructor <;> omega
  · rw [if_neg (by omega), if_pos (by omega)]
    simp only [negS, e, XSpan.mk.injEq]
    constructor <;> omega
section
variable {a b : XAir} {s : XSetting} (h : Turned a b)
include h
theorem Turned.rest {k : Nat} (hk : k < a.mine.roads.l.length) : ∀ n, restTo b s (k : Int) n = restTo a s (k : Int) n
  | 0 => by rw [restTo, restTo, Int.toNat_natCast, h.road k hk]; rfl
  | n + 1 => by rw [restTo, restTo, h.doors, Turned.rest hk n]
theorem Turned.innerN {k : Nat} (hk : k < a.mine.roads.l.length) (q : Int) : ∀ n, n ≤ a.fans.l.length → innerTo b s (k : Int) q n = negS (innerTo a s (k : Int) (-q) n)
  | 0, _ => by
    rw [innerTo.eq_1, innerTo.eq_1, h.doors, h.rest hk, Int.toNat_natCast, h.road k hk]
    exact baseS_turn _ _ q
  | n + 1, hn => by
    rw [innerTo_succ, innerTo_succ, h.fan n (by omega), stateS_turn, Turned.innerN hk q n (by omega)]
    have : (turnF (a.fans.l.getD n default)).road = (a.fans.l.getD n default).road := rfl
    rw [this]
    split
    · simp only [negS, XSpan.mk.injEq]
      constructor <;> omega
    · rfl
theorem Turned.inner {k : Nat} (hk : k < a.mine.roads.l.length) (q : Int) : innerS b s (k : Int) q = negS (innerS a s (k : Int) (-q)) := by
  rw [innerS, innerS, h.flen]
  exact h.innerN hk q _ (Nat.le_refl _)
theorem Turned.flowH (ha : AirOk a) (hb : AirOk b) {k : Nat} (hk : k < a.mine.roads.l.length) (p : Int) : flowHigh (innerS b s (k : Int)) p = -(flowLow (innerS a s (k : Int)) (-p)) := by
  have h1 := flowLow_is (s := s) ha (r := (k : Int)) (by omega) (-p)
  have h2 := flowHigh_is (s := s) hb (r := (k : Int)) (by have := h.rlen; omega) p
  have h3 : HighIs (innerS b s (k : Int)) p (-(flowLow (innerS a s (k : Int)) (-p))) := by
    generalize flowLow (innerS a s (k : Int)) (-p) = z at *
    have hb := h1.bnd
    refine ⟨by omega, fun x x1 x2 => ?_, fun x x1 x2 => ?_⟩
    · have := h1.gt (-x) (by omega) (by omega)
      rw [h.inner hk]
      simp only [negS]
      omega
    · have := h1.le (-x) (by omega) (by omega)
      rw [h.inner hk]
      simp only [negS]
      omega
  have := high_within (fun q _ _ => Int.le_refl _) h2 h3
  have := high_within (fun q _ _ => Int.le_refl _) h3 h2
  omega
theorem Turned.flowL (ha : AirOk a) (hb : AirOk b) {k : Nat} (hk : k < a.mine.roads.l.length) (p : Int) : flowLow (innerS b s (k : Int)) p = -(flowHigh (innerS a s (k : Int)) (-p)) := by
  have h1 := flowHigh_is (s := s) ha (r := (k : Int)) (by omega) (-p)
  have h2 := flowLow_is (s := s) hb (r := (k : Int)) (by have := h.rlen; omega) p
  have h3 : LowIs (innerS b s (k : Int)) p (-(flowHigh (innerS a s (k : Int)) (-p))) := by
    generalize flowHigh (innerS a s (k : Int)) (-p) = z at *
    have hb := h1.bnd
    refine ⟨by omega, fun x x1 x2 => ?_, fun x x1 x2 => ?_⟩
    · have := h1.ge (-x) (by omega) (by omega)
      rw [h.inner hk]
      simp only [negS]
      omega
    · have := h1.lt (-x) (by omega) (by omega)
      rw [h.inner hk]
      simp only [negS]
      omega
  have := low_within (fun q _ _ => Int.le_refl _) h2 h3
  have := low_within (fun q _ _ => Int.le_refl _) h3 h2
  omega
end
abbrev negL (l : List Int) : List Int := l.map fun x => -x
theorem negL_getD (l : List Int) (k : Nat) : (negL l).getD k 0 = -(l.getD k 0) := by
  rw [List.getD_eq_getElem?_getD, List.getElem?_map, List.getD_eq_getElem?_getD]
  cases l[k]? <;> rfl
theorem negL_set (l : List Int) (k : Nat) (v : Int) : (negL l).set k (-v) = negL (l.set k v) := by
  rw [negL, negL, List.map_set]
theorem negL_inj {l m : List Int} (h : negL l = negL m) : l = m := by
  have := congrArg (List.map fun x : Int => -x) h
  simpa [negL, List.map_map, Function.comp_def] using this
section
variable {a b : XAir} {s : XSetting} (h : Turned a b) (ha : AirOk a) (hb : AirOk b)
include h ha hb
theorem Turned.sum (l : List Int) (v : Int) : ∀ n, n ≤ a.mine.roads.l.length → sumN flowHigh flowLow b s (negL l) v n = -(sumN flowLow flowHigh a s l v n)
  | 0, _ => rfl
  | n + 1, hn => by
    have ed : diffN b (negL l) n = -(diffN a l n) := by
      rw [diffN, diffN, h.road n (by omega), negL_getD, negL_getD]
      simp only [turnR]
      omega
    have ec : (b.mine.roads.l.getD n default).closed = (a.mine.roads.l.getD n default).closed := by rw [h.road n (by omega)]; rfl
    have ef : (b.mine.roads.l.getD n default).fr = (a.mine.roads.l.getD n default).fr := by rw [h.road n (by omega)]; rfl
    have et : (b.mine.roads.l.getD n default).to = (a.mine.roads.l.getD n default).to := by rw [h.road n (by omega)]; rfl
    rw [sumN, sumN, Turned.sum l v n (by omega), termN, termN, ed, h.flowH ha hb (show n < _ by omega), h.flowL ha hb (show n < _ by omega), Int.neg_neg, ec, ef, et]
    by_cases h1 : (a.mine.roads.l.getD n default).closed = true
    · simp only [if_pos h1]; omega
    · simp only [if_neg h1]
      by_cases h2 : (a.mine.roads.l.getD n default).fr = v
      · simp only [if_pos h2]; omega
      · simp only [if_neg h2]
        by_cases h3 : (a.mine.roads.l.getD n default).to = v
        · simp only [if_pos h3]; omega
        · simp only [if_neg h3]; omega
theorem Turned.net (l : List Int) (v : Int) : highN b s (negL l) v = -(lowN a s l v) := by
  rw [highN, lowN, h.rlen]
  exact h.sum ha hb l v _ (Nat.le_refl _)
theorem Turned.next (l : List Int) (k : Nat) : nextAt b s false (negL l) k = (nextAt a s true l k).map fun x => -x := by
  have e : ∀ x, testG b s false (negL l) (k : Int) (-x) = testG a s true l (k : Int) x := fun x => by
    rw [testG, if_neg (by decide), testG, if_pos rfl]
    show decide _ = decide _
    rw [Int.toNat_natCast, negL_set, h.net ha hb]
    exact decide_eq_decide.2 ⟨fun h => by omega, fun h => by omega⟩
  have er : room false (-(l.getD k 0)) = room true (l.getD k 0) := by
    show -(l.getD k 0) + 70368744177664 = 70368744177664 - l.getD k 0
    omega
  rw [nextAt, nextAt, nextS, nextS, negL_getD, er, Option.map_map]
  have es : ∀ m : Nat, -(l.getD k 0) + sgn false * (m : Int) = -(l.getD k 0 + sgn true * (m : Int)) := fun m => by
    show -(l.getD k 0) + -1 * (m : Int) = -(l.getD k 0 + 1 * (m : Int))
    omega
  simp only [es, e]
  rfl
theorem Turned.sweep (A : List Bool) (l : List Int) : ∀ n, sweepTo b s A false (negL l) n = (sweepTo a s A true l n).map negL
  | 0 => rfl
  | n + 1 => by
    have ef : fixB b A n = fixB a A n := by rw [fixB, fixB, h.places]
    rw [sweepTo, sweepTo, Turned.sweep A l n, ef]
    cases sweepTo a s A true l n with
    | none => rfl
    | some m =>
      simp only [Option.map_some, Option.bind_some]
      split
      · rfl
      · rw [h.next ha hb m n]
        cases nextAt a s true m n with
        | none => rfl
        | some v =>
          simp only [Option.map_some, Option.some.injEq]
          exact negL_set m n v
theorem Turned.rounds (A : List Bool) : ∀ n l, roundsS b s A false n (negL l) = (roundsS a s A true n l).map negL
  | 0, _ => rfl
  | n + 1, l => by
    rw [roundsS, roundsS, h.places, h.sweep ha hb A l]
    cases sweepTo a s A true l a.mine.places.l.length with
    | none => rfl
    | some m =>
      simp only [Option.map_some]
      by_cases e : m = l
      · subst e; simp
      · rw [if_neg (fun e' => e (negL_inj e')), if_neg e]
        exact Turned.rounds A n m
/-- P12.1: with all turned round, raising is lowering -/
theorem Turned.relax {A : List Bool} {l : List Int} (h1 : StartOk a s l A) (h2 : airErr b = 0) (h3 : fitB b s = true) : relaxS b s A false (negL l) = ((relaxS a s A true l).1, negL (relaxS a s A true l).2) := by
  have hs : StartOk b s (negL l) A := by
    refine ⟨h2, h3, by rw [h.places]; simpa [negL] using h1.hl, fun p hp => ?_, fun i hi hf => ?_⟩
    · obtain ⟨x, hx, rfl⟩ := List.mem_map.1 hp
      have := h1.hp x hx
      omega
    · rw [h.places] at hi
      rw [negL_getD, h1.fix i hi (by rw [fixB, h.places] at hf; exact hf)]; rfl
  rw [relaxS, relaxS, if_neg (by rw [startErr_iff.2 hs]; decide), if_neg (by rw [startErr_iff.2 h1]; decide), h.rounds ha hb A 200 l]
  cases roundsS a s A true 200 l with
  | none => rfl
  | some m => rfl
end
end Go.Proofs.Ytjjfpglgonpciaa
