/-
  Statements about chapter 10: what they share. By an AI agent; no person has read it.
-/
import Derived.Test.YtjjfpglgonpciaaNets
import Derived.Test.YtjjfpglgonpciaaFits
set_option linter.unusedSimpArgs false
set_option linter.unusedVariables false
namespace Go.Proofs.Ytjjfpglgonpciaa
open Go.Aw Go
set_option maxRecDepth 20000
attribute [local irreducible] CJ LJ DJ Tri YV Gives seqK blockK loopK retK RV mergeK OwL.L

def awake10Road : XRoad := ⟨1, 0, 1, 1, false, false, ⟨1, 1⟩, ⟨-100, -100⟩⟩
abbrev awake10 (b b' : Nat) : XAir := ⟨⟨⟨some ⟨b, 0, none⟩, 2, [⟨0, true⟩, ⟨0, false⟩]⟩, ⟨some ⟨b', 0, none⟩, 1, [awake10Road]⟩⟩, ⟨none, 0, []⟩, ⟨none, 0, []⟩⟩
abbrev noSet10 : XSetting := ⟨⟨none, 0, []⟩, ⟨none, 0, []⟩⟩
theorem awake10_right (b b' : Nat) : rightB (awake10 b b') noSet10 = true := by rfl
theorem awake10_low (b b' : Nat) (p : Int) : LowIs (innerS (awake10 b b') noSet10 0) p (flowLow (innerS (awake10 b b') noSet10 0) p) :=
  flowLow_is (right_of (awake10_right b b')).1 ⟨by decide, by show (0 : Int) < 1; decide⟩ p
theorem awake10_high (b b' : Nat) (p : Int) : HighIs (innerS (awake10 b b') noSet10 0) p (flowHigh (innerS (awake10 b b') noSet10 0) p) :=
  flowHigh_is (right_of (awake10_right b b')).1 ⟨by decide, by show (0 : Int) < 1; decide⟩ p
theorem awake10_0 (b b' : Nat) : innerS (awake10 b b') noSet10 0 0 = ⟨100, 100⟩ := by rfl
theorem awake10_len (b b' : Nat) : (awake10 b b').mine.roads.l.length = 1 := rfl
theorem awake10_road (b b' : Nat) : (awake10 b b').mine.roads.l.getD 0 default = awake10Road := rfl
theorem awake10_diff (b b' : Nat) (x : Int) : diffN (awake10 b b') [0, x] 0 = x := by
  rw [diffN, awake10_road]
  show x - 0 = x
  exact Int.sub_zero x
theorem awake10_sum (F G : (Int → XSpan) → Int → Int) (b b' : Nat) (x : Int) : sumN F G (awake10 b b') noSet10 [0, x] 1 1 = F (innerS (awake10 b b') noSet10 0) x := by
  rw [sumN, sumN, Int.zero_add, termN, awake10_road, if_neg (show ¬ awake10Road.closed = true from by decide), if_pos (show awake10Road.fr = 1 from rfl), awake10_diff]
  rfl
theorem awake10_lowN (b b' : Nat) (x : Int) : lowN (awake10 b b') noSet10 [0, x] 1 = flowLow (innerS (awake10 b b') noSet10 0) x := by
  rw [lowN, awake10_len, awake10_sum]
theorem awake10_highN (b b' : Nat) (x : Int) : highN (awake10 b b') noSet10 [0, x] 1 = flowHigh (innerS (awake10 b b') noSet10 0) x := by
  rw [highN, awake10_len, awake10_sum]
theorem awake10_g (b b' : Nat) (x : Int) : 0 ≤ flowLow (innerS (awake10 b b') noSet10 0) x ↔ 100 ≤ x := by
  have h1 := awake10_low b b' x
  have e0 := awake10_0 b b'
  generalize flowLow (innerS (awake10 b b') noSet10 0) x = z at *
  constructor
  · intro h
    have := h1.le 0 (by omega) h
    rw [e0] at this; exact this
  · intro h
    rcases Int.lt_or_le z 0 with h' | h'
    · have := h1.gt 0 h' (by omega)
      rw [e0] at this; dsimp only at this; omega
    · exact h'
/-- pressures near those of a made state -/
structure Around (np : Nat) (l : List Int) : Prop where
  len : l.length = np
  val : ∀ p ∈ l, -7000 ≤ p ∧ p ≤ 7000
structure AroundTo (np : Nat) (i : Nat) (l : List Int) : Prop where
  len : l.length = np
  val : ∀ (j : Nat) (p : Int), l[j]? = some p → (-7000 ≤ p ∧ p ≤ 7000) ∧ (i ≤ j → -4000 ≤ p ∧ p ≤ 4000)
end Go.Proofs.Ytjjfpglgonpciaa
