/-
  Statements about chapter 10: what they share. By an AI agent; no person has read it.
-/
import Derived.Test.YtjjfpglgonpciaaNets
import Derived.Test.YtjjfpglgonpciaaFits
set_option linter.unusedSimpArgs false
set_option linter.unusedVariables false
namespace Go.Proofs.Ytjjfpglgonpciaa
open Go.Aw Go
set_option maxRecDepth 20000
attribute [local irreducible] CJ LJ DJ Tri YV Gives seqK blockK loopK retK RV mergeK OwL.L

def awake10Road : XRoad := ⟨1, 0, 1, 1, false, false, ⟨1, 1⟩, ⟨-100, -100⟩⟩
abbrev awake10 (b b' : Nat) : XAir := ⟨⟨⟨some ⟨b, 0, none⟩, 2, [⟨0, true⟩, ⟨0, false⟩]⟩, ⟨some ⟨b', 0, none⟩, 1, [awake10Road]⟩⟩, ⟨none, 0, []⟩, ⟨none, 0, []⟩⟩
abbrev noSet10 : XSetting := ⟨⟨none, 0, []⟩, ⟨none, 0, []⟩⟩
theorem awake10_right (b b' : Nat) : rightB (awake10 b b') noSet10 = true := by rfl
theorem awake10_inner (b b' : Nat) (q : Int) : innerS (awake10 b b') noSet10 0 q = if q < 0 then ⟨-(1 * q * q) - -100, -(1 * q * q) - -100⟩ else ⟨1 * q * q - -100, 1 * q * q - -100⟩ := by rfl
theorem awake10_low (b b' : Nat) (p : Int) : LowIs (innerS (awake10 b b') noSet10 0) p (flowLow (innerS (awake10 b b') noSet10 0) p) :=
  flowLow_is (right_of (awake10_right b b')).1 ⟨by decide, by show (0 : Int) < 1; decide⟩ p
theorem awake10_high (b b' : Nat) (p : Int) : HighIs (innerS (awake10 b b') noSet10 0) p (flowHigh (innerS (awake10 b b') noSet10 0) p) :=
  flowHigh_is (right_of (awake10_right b b')).1 ⟨by decide, by show (0 : Int) < 1; decide⟩ p
theorem awake10_m10 (b b' : Nat) : innerS (awake10 b b') noSet10 0 (-10) = ⟨0, 0⟩ := by rfl
theorem awake10_m9 (b b' : Nat) : innerS (awake10 b b') noSet10 0 (-9) = ⟨19, 19⟩ := by rfl
theorem awake10_m11 (b b' : Nat) : innerS (awake10 b b') noSet10 0 (-11) = ⟨-21, -21⟩ := by rfl
theorem awake10_0 (b b' : Nat) : innerS (awake10 b b') noSet10 0 0 = ⟨100, 100⟩ := by rfl
theorem awake10_len (b b' : Nat) : (awake10 b b').mine.roads.l.length = 1 := rfl
theorem awake10_road (b b' : Nat) : (awake10 b b').mine.roads.l.getD 0 default = awake10Road := rfl
theorem awake10_diff (b b' : Nat) (x : Int) : diffN (awake10 b b') [0, x] 0 = x := by
  rw [diffN, awake10_road]
  show x - 0 = x
  exact Int.sub_zero x
theorem awake10_sum (F G : (Int → XSpan) → Int → Int) (b b' : Nat) (x : Int) : sumN F G (awake10 b b') noSet10 [0, x] 1 1 = F (innerS (awake10 b b') noSet10 0) x := by
  rw [sumN, sumN, Int.zero_add, termN, awake10_road, if_neg (show ¬ awake10Road.closed = true from by decide), if_pos (show awake10Road.fr = 1 from rfl), awake10_diff]
  rfl
theorem awake10_lowN (b b' : Nat) (x : Int) : lowN (awake10 b b') noSet10 [0, x] 1 = flowLow (innerS (awake10 b b') noSet10 0) x := by
  rw [lowN, awake10_len, awake10_sum]
theorem awake10_highN (b b' : Nat) (x : Int) : highN (awake10 b b') noSet10 [0, x] 1 = flowHigh (innerS (awake10 b b') noSet10 0) x := by
  rw [highN, awake10_len, awake10_sum]
theorem awake10_net (b b' : Nat) : netS (awake10 b b') noSet10 [0, 0] 1 = ⟨-10, -10⟩ := by
  rw [netS, if_pos (by rfl), awake10_lowN, awake10_highN]
  have h1 := awake10_low b b' 0
  have h2 := awake10_high b b' 0
  have e10 := awake10_m10 b b'
  have e9 := awake10_m9 b b'
  have e11 := awake10_m11 b b'
  have l1 : flowLow (innerS (awake10 b b') noSet10 0) 0 = -10 := by
    generalize flowLow (innerS (awake10 b b') noSet10 0) 0 = z at *
    rcases Int.lt_trichotomy z (-10) with h | h | h
    · have := h1.gt (-10) h (by omega); rw [e10] at this; dsimp only at this; omega
    · exact h
    · have := h1.le (-9) (by omega) (by omega); rw [e9] at this; dsimp only at this; omega
  have l2 : flowHigh (innerS (awake10 b b') noSet10 0) 0 = -10 := by
    generalize flowHigh (innerS (awake10 b b') noSet10 0) 0 = z at *
    rcases Int.lt_trichotomy z (-10) with h | h | h
    · have := h2.ge (-11) (by omega) (by omega); rw [e11] at this; dsimp only at this; omega
    · exact h
    · have := h2.lt (-10) (by omega) h; rw [e10] at this; dsimp only at this; omega
  rw [l1, l2]
theorem awake10_g (b b' : Nat) (x : Int) : 0 ≤ flowLow (innerS (awake10 b b') noSet10 0) x ↔ 100 ≤ x := by
  have h1 := awake10_low b b' x
  have e0 := awake10_0 b b'
  generalize flowLow (innerS (awake10 b b') noSet10 0) x = z at *
  constructor
  · intro h
    have := h1.le 0 (by omega) h
    rw [e0] at this; exact this
  · intro h
    rcases Int.lt_or_le z 0 with h' | h'
    · have := h1.gt 0 h' (by omega)
      rw [e0] at this; dsimp only at this; omega
    · exact h'
theorem awake10_least (b b' : Nat) {z : Int} {ok : Bool} (h : LeastS (awake10 b b') noSet10 [0, 0] 1 z ok) : z = 100 ∧ ok = true := by
  rw [LeastS, if_pos (by rfl)] at h
  have e : ∀ x, lowG (awake10 b b') noSet10 [0, 0] 1 x = decide (100 ≤ x) := fun x => by
    have h : ([0, 0] : List Int).set (1 : Int).toNat x = [0, x] := rfl
    rw [lowG, h, awake10_lowN]
    exact decide_eq_decide.2 (awake10_g b b' x)
  have h0 : ([0, 0] : List Int).getD (1 : Int).toNat 0 = 0 := by rfl
  rw [h0] at h
  exact h.unique ⟨fun _ => ⟨100, by decide, by decide, by decide, by rw [e]; decide, fun j h1 h2 => by
    rw [e, decide_eq_false_iff_not]
    simp only [sgn]; simp; omega⟩, fun h => by cases h⟩

/-- pressures near those of a made state -/
structure Around (np : Nat) (l : List Int) : Prop where
  len : l.length = np
  val : ∀ p ∈ l, -7000 ≤ p ∧ p ≤ 7000
structure AroundTo (np : Nat) (i : Nat) (l : List Int) : Prop where
  len : l.length = np
  val : ∀ (j : Nat) (p : Int), l[j]? = some p → (-7000 ≤ p ∧ p ≤ 7000) ∧ (i ≤ j → -4000 ≤ p ∧ p ≤ 4000)
theorem AroundTo.next {np i : Nat} {l : List Int} (h : AroundTo np i l) {v : Int} (hv : -7000 ≤ v ∧ v ≤ 7000) : AroundTo np (i + 1) (l.set i v) := by
  refine ⟨by simp [h.len], fun j q hq => ?_⟩
  rw [List.getElem?_set] at hq
  split at hq
  · rename_i e
    split at hq
    · cases hq; exact ⟨hv, fun hj => by omega⟩
    · cases hq
  · exact ⟨(h.val j q hq).1, fun hj => (h.val j q hq).2 (by omega)⟩
theorem AroundTo.stay {np i : Nat} {l : List Int} (h : AroundTo np i l) : AroundTo np (i + 1) l := ⟨h.len, fun j q hq => ⟨(h.val j q hq).1, fun hj => (h.val j q hq).2 (by omega)⟩⟩
theorem AroundTo.done {np i : Nat} {l : List Int} (h : AroundTo np i l) : Around np l := ⟨h.len, fun p hp => by obtain ⟨j, hj⟩ := List.mem_iff_getElem?.1 hp; exact (h.val j p hj).1⟩
theorem Around.pres {np : Nat} {l : List Int} (h : Around np l) : PresOk l := fun p hp => by have := h.val p hp; omega

end Go.Proofs.Ytjjfpglgonpciaa
