/-
  Conditions of which less is known, and zones behind a step. Plain. By an AI agent; no person has read it.
-/
import Derived.Test.YtlgjgigciapkfaaApp0
set_option linter.unusedSimpArgs false
set_option linter.unusedVariables false
namespace Go.Proofs.Ytlgjgigciapkfaa
open Go.Aw Go
def Wd (x y : XSpan) : Prop := x.low ≤ x.high ∧ y.low ≤ x.low ∧ x.high ≤ y.high
theorem above_wd {x y : XSpan} {n : Int} (h : Wd x y) : (aboveS y n = 1 → aboveS x n = 1) ∧ (aboveS y n = -1 → aboveS x n = -1) := by
  obtain ⟨h1, h2, h3⟩ := h
  rw [aboveS, aboveS]
  constructor <;> intro h <;> (repeat' split at h) <;> (first | (cases h; done) | skip) <;> (repeat' split) <;> omega
theorem stopped_wd {x y : XSpan} (h : Wd x y) : (stoppedS y = 1 → stoppedS x = 1) ∧ (stoppedS y = -1 → stoppedS x = -1) := by
  obtain ⟨h1, h2, h3⟩ := h
  rw [stoppedS, stoppedS]
  constructor <;> intro h <;> (repeat' split at h) <;> (first | (cases h; done) | skip) <;> (repeat' split) <;> omega
theorem fed_wd {x y : XSpan} {n : Int} (h : Wd x y) : (fedS y n = 1 → fedS x n = 1) ∧ (fedS y n = -1 → fedS x n = -1) := by
  obtain ⟨h1, h2, h3⟩ := h
  rw [fedS, fedS]
  constructor <;> intro h <;> (repeat' split at h) <;> (first | (cases h; done) | skip) <;> (repeat' split) <;> omega
theorem step_wd {l : XLevel} {w : XWatch} {x y : XSpan} {t : Int} (h : Wd x y) (ho : (stepTo l w x t).over = true) : (stepTo l w y t).over = true := by
  have h1 := (above_wd (n := l.cut) h).2
  obtain ⟨_, _, h3⟩ := h
  rw [stepTo] at ho ⊢
  by_cases hy : aboveS y l.cut ≠ -1
  · rw [if_pos hy]
  · have hy' : aboveS y l.cut = -1 := by omega
    rw [if_neg hy]
    rw [if_neg (by rw [h1 hy']; decide)] at ho
    split
    · rename_i h4; rw [if_pos h4] at ho; exact ho
    · rename_i h4
      rw [if_neg h4] at ho
      split
      · rfl
      · rw [if_neg (by omega)] at ho
        exact ho
def KW (x y : XSpan) : Prop := x = y ∨ (Wd x y ∧ x ≠ nothingS ∧ y ≠ nothingS)
structure MLoose (m m' : XMeas) : Prop where
  sensor : m'.sensor = m.sensor
  time : m'.time = m.time
  span : m' = m ∨ (Wd m.span m'.span ∧ (-1000000000 ≤ m'.span.low ∧ m'.span.high ≤ 1000000000))
theorem at_loose {s : XSens} {m m' : XMeas} {t : Int} (h : MLoose m m') : KW (atS s m t) (atS s m' t) := by
  obtain ⟨h1, h2, h3⟩ := h
  rcases h3 with rfl | ⟨⟨a1, a2, a3⟩, b1, b2⟩
  · exact .inl rfl
  have hn : m.span ≠ nothingS := fun e => by rw [e] at a1 a2 a3; simp only [nothingS] at a1 a2 a3; omega
  have hn' : m'.span ≠ nothingS := fun e => by rw [e] at a2 a3 b1; simp only [nothingS] at a2 a3 b1; omega
  by_cases hg : goneS s m t
  · have hg' : goneS s m' t := by
      rw [goneS] at hg ⊢
      rcases hg with e | e | e | e | e
      · exact .inl e
      · exact .inr (.inl (by omega))
      · exact absurd e hn
      · exact .inr (.inr (.inr (.inl (by omega))))
      · exact .inr (.inr (.inr (.inr (by omega))))
    rw [atS, if_pos hg, atS, if_pos hg']
    exact .inl rfl
  · have hg' : ¬ goneS s m' t := fun hh => by
      refine hg ?_
      rw [goneS] at hh ⊢
      rcases hh with e | e | e | e | e
      · exact .inl e
      · exact .inr (.inl (by omega))
      · exact absurd e hn'
      · exact .inr (.inr (.inr (.inl (by omega))))
      · exact .inr (.inr (.inr (.inr (by omega))))
    have hb := more_bounds hg
    have em : moreS s m' t = moreS s m t := by rw [moreS, moreS, h2]
    rw [atS, if_neg hg, atS, if_neg hg']
    refine .inr ?_
    split
    · exact ⟨⟨a1, a2, a3⟩, hn, hn'⟩
    split
    · rw [wideS, wideS, em, Wd]
      dsimp only
      refine ⟨by omega, fun e => ?_, fun e => ?_⟩ <;> (rw [span_eq] at e; simp only [nothingS] at e; omega)
    · rw [wideS, wideS, em, Wd]
      dsimp only
      refine ⟨by omega, fun e => ?_, fun e => ?_⟩ <;> (rw [span_eq] at e; simp only [nothingS] at e; omega)
theorem known_loose {S : List XSens} {m m' : List XMeas} {n t : Int} (hl : m'.length = m.length) (h : ∀ i : Nat, i < m.length → MLoose (m.getD i default) (m'.getD i default)) : KW (knownS S m n t) (knownS S m' n t) := by
  rw [knownS, knownS, hl]
  by_cases hc : (0 ≤ n ∧ n < S.length) ∧ n < m.length
  · have hi := h n.toNat (by omega)
    by_cases hs : (m.getD n.toNat default).sensor = n
    · rw [if_pos ⟨hc.1, hc.2, hs⟩, if_pos ⟨hc.1, hc.2, hi.sensor.trans hs⟩]
      exact at_loose hi
    · rw [if_neg (fun h => hs h.2.2), if_neg (fun h => hs (hi.sensor.symm.trans h.2.2))]
      exact .inl rfl
  · rw [if_neg (fun h => hc ⟨h.1, h.2.1⟩), if_neg (fun h => hc ⟨h.1, h.2.1⟩)]
    exact .inl rfl
section
variable {S : List XSens} {m m' : List XMeas} {fl fl' : List XSpan} {c : XCond} {w : XWatch} {t : Int} (hl : m'.length = m.length) (h : ∀ i : Nat, i < m.length → MLoose (m.getD i default) (m'.getD i default)) (hfl : fl'.length = fl.length) (hf : ∀ i : Nat, i < fl.length → Wd (fl.getD i default) (fl'.getD i default))
include hl h
theorem valueW_loose (ho : (valueW S m c w t).over = true) : (valueW S m' c w t).over = true := by
  rw [valueW] at ho ⊢
  split
  · rename_i h1
    rw [if_pos h1] at ho
    rcases known_loose (S := S) (n := c.target) (t := t) hl h with e | ⟨e, _, _⟩
    · rw [← e]; exact ho
    · exact step_wd e ho
  · rename_i h1
    rw [if_neg h1] at ho
    exact ho
include hfl hf
theorem valueV_loose : (valueV S m' fl' c w t = 1 → valueV S m fl c w t = 1) ∧ (valueV S m' fl' c w t = -1 → valueV S m fl c w t = -1) := by
  rw [valueV, valueV]
  split
  · rw [fedAt, fedAt, hfl]
    dsimp only
    split
    · have := fed_wd (n := c.value) (hf c.target.toNat (by omega))
      constructor <;> intro h
      · have := this.2 (by omega); omega
      · have := this.1 (by omega); omega
    · exact ⟨fun h => h, fun h => h⟩
  rcases known_loose (S := S) (n := c.target) (t := t) hl h with e | ⟨e, e1, e2⟩
  · rw [← e]; exact ⟨fun h => h, fun h => h⟩
  split
  · have := above_wd (n := c.value) e
    constructor <;> intro h
    · have := this.2 (by omega); omega
    · have := this.1 (by omega); omega
  split
  · exact stopped_wd e
  split
  · first | exact ⟨fun h => h, fun h => h⟩ | (rw [if_neg e1, if_neg e2]; exact ⟨fun h => h, fun h => h⟩)
  have ha := above_wd (n := c.level.cut) e
  have hs := step_wd (l := c.level) (w := w) (t := t) e
  constructor
  · intro h
    split at h
    · cases h
    split at h
    · rename_i h1 h2
      have h3 := ha.1 h2
      have h4 : (stepTo c.level w (knownS S m c.target t) t).over = true := by rw [stepTo, if_pos (by rw [h3]; decide)]
      rw [if_neg (by rw [h4]; decide), if_pos h3]
    · cases h
  · intro h
    split at h
    · rename_i h1
      rw [if_pos]
      cases hh : (stepTo c.level w (knownS S m c.target t) t).over with
      | false => rfl
      | true => rw [hs hh] at h1; cases h1
    split at h
    · cases h
    · cases h
end
theorem nowTo_mem {s : XSite} {v : List Int} {c : List XCut} {i : Int} : ∀ n, i ∈ nowTo s v c n ↔ ∃ k : Nat, k < n ∧ i = (k : Int) ∧ evalS (s.zones.l.getD k default).rule.l v ≠ -1 ∧ (c.getD k default).off = false
  | 0 => by rw [nowTo]; simp
  | n + 1 => by
    have ih := nowTo_mem (s := s) (v := v) (c := c) (i := i) n
    rw [nowTo]
    constructor
    · intro hi
      split at hi
      · rename_i hc
        rcases List.mem_append.1 hi with hi | hi
        · obtain ⟨k, k1, k2⟩ := ih.1 hi
          exact ⟨k, by omega, k2⟩
        · exact ⟨n, by omega, List.mem_singleton.1 hi, hc⟩
      · obtain ⟨k, k1, k2⟩ := ih.1 hi
        exact ⟨k, by omega, k2⟩
    · rintro ⟨k, k1, k2, k3⟩
      rcases Nat.lt_or_ge k n with hk | hk
      · split
        · exact List.mem_append_left _ (ih.2 ⟨k, hk, k2, k3⟩)
        · exact ih.2 ⟨k, hk, k2, k3⟩
      · obtain rfl : k = n := by omega
        rw [if_pos k3]
        exact List.mem_append_right _ (List.mem_singleton.2 k2)
end Go.Proofs.Ytlgjgigciapkfaa
