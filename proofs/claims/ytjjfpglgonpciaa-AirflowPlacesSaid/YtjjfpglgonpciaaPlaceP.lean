/-
  What is known of the flows of a place below ground can be balanced. By an AI agent; no person has read it.
-/
import Derived.Test.YtjjfpglgonpciaaAnal
import Derived.Test.YtjjfpglgonpciaaRelP
set_option linter.unusedSimpArgs false
set_option linter.unusedVariables false
namespace Go.Proofs.Ytjjfpglgonpciaa
open Go.Aw Go

def netQ (rs : List XRoad) (l : List XSpan) (i : Int) : Nat → XSpan
  | 0 => ⟨0, 0⟩
  | k + 1 =>
    let x := netQ rs l i k
    let y : XSpan := if (rs.getD k default).fr = i then ⟨x.low + (l.getD k default).low, x.high + (l.getD k default).high⟩ else x
    if (rs.getD k default).to = i then ⟨y.low - (l.getD k default).high, y.high - (l.getD k default).low⟩ else y
def SpanB (l : List XSpan) : Prop := ∀ k : Nat, (-1125899906842624 ≤ (l.getD k default).low ∧ (l.getD k default).low ≤ 1125899906842624) ∧ (-1125899906842624 ≤ (l.getD k default).high ∧ (l.getD k default).high ≤ 1125899906842624)
theorem netQ_bnd {rs : List XRoad} {l : List XSpan} {i : Int} (h : SpanB l) : ∀ k : Nat, (-(2251799813685248 * (k : Int)) ≤ (netQ rs l i k).low ∧ (netQ rs l i k).low ≤ 2251799813685248 * (k : Int)) ∧ (-(2251799813685248 * (k : Int)) ≤ (netQ rs l i k).high ∧ (netQ rs l i k).high ≤ 2251799813685248 * (k : Int))
  | 0 => by simp [netQ]
  | k + 1 => by
    have ih := netQ_bnd (rs := rs) (i := i) h k
    have hk := h k
    rw [netQ]
    split <;> split <;> (try dsimp only) <;> omega
/-- nothing is known of the roads at place i -/
theorem netQ_blind {rs : List XRoad} {l : List XSpan} {i : Int} {n : Nat} (h : ∀ k : Nat, k < n → ((rs.getD k default).fr = i ∨ (rs.getD k default).to = i) → l.getD k default = ⟨0, 0⟩ ∨ l.getD k default = nothingS) : ∀ k, k ≤ n → (netQ rs l i k).low ≤ 0 ∧ 0 ≤ (netQ rs l i k).high
  | 0, _ => by simp [netQ]
  | k + 1, hk => by
    have ih := netQ_blind h k (by omega)
    have h1 := h k (by omega)
    rw [netQ]
    split <;> split <;> (try dsimp only) <;> (try (rcases h1 (by first | exact .inl (by assumption) | exact .inr (by assumption)) with e | e <;> rw [e] <;> simp only [nothingS] <;> omega)) <;> omega
theorem flowLow_high {a : XAir} {s : XSetting} (ha : AirOk a) {k : Nat} (hk : k < a.mine.roads.l.length) {p p' : Int} (h : p ≤ p') : flowLow (innerS a s k) p ≤ flowHigh (innerS a s k) p' :=
  Int.le_trans (flowLow_mono ha (r := (k : Int)) (by omega) h) (flow_le ha (r := (k : Int)) (by omega) p')
theorem netQ_air {a : XAir} {s : XSetting} {b : XBounds} {A : List Bool} {i : Nat} (ha : AirOk a) (hA : AiryIs a.mine A) (hi : A.getD i false = true) (hle : ∀ j : Nat, b.low.l.getD j 0 ≤ b.high.l.getD j 0) :
    ∀ k, k ≤ a.mine.roads.l.length → (netQ a.mine.roads.l ((List.range a.mine.roads.l.length).map (roadFlow a s b A)) (i : Int) k).low ≤ sumN flowHigh flowLow a s b.low.l (i : Int) k ∧
      sumN flowLow flowHigh a s b.high.l (i : Int) k ≤ (netQ a.mine.roads.l ((List.range a.mine.roads.l.length).map (roadFlow a s b A)) (i : Int) k).high
  | 0, _ => by simp [netQ, sumN]
  | k + 1, hk => by
    have ih := netQ_air (s := s) (b := b) ha hA hi hle k (by omega)
    have hl : ((List.range a.mine.roads.l.length).map (roadFlow a s b A)).getD k default = roadFlow a s b A k := by
      rw [List.getD_eq_getElem?_getD, List.getElem?_map, List.getElem?_range (by omega)]; rfl
    have hg := get_D (l := a.mine.roads.l) (k := k) default (by omega)
    have hro := ha.mine.road _ _ hg
    have hne := hro.ne
    have hr1 := hro.fr
    have hr2 := hro.to
    rw [netQ, sumN, sumN, termN, termN]
    rw [hl]
    obtain ⟨r, hr⟩ : ∃ r, r = a.mine.roads.l.getD k default := ⟨_, rfl⟩
    by_cases hc : r.closed = true
    · have hf : roadFlow a s b A k = ⟨0, 0⟩ := by rw [roadFlow, ← hr, if_pos hc]
      rw [hf, ← hr, if_pos hc, if_pos hc]
      split <;> split <;> (try dsimp only) <;> omega
    · have hst : Step a.mine r.fr.toNat r.to.toNat := ⟨r, by rw [hr]; exact List.mem_of_getElem? hg, by simpa using hc, .inl ⟨by rw [← hr] at hr1; omega, by rw [← hr] at hr2; omega⟩⟩
      rw [← hr] at hr1 hr2 hne ⊢
      rw [if_neg hc, if_neg hc, diffN, diffN, ← hr]
      by_cases h1 : r.fr = (i : Int)
      · have h2 : ¬ r.to = (i : Int) := by omega
        have hAf : A.getD r.fr.toNat false = true := by rw [show r.fr.toNat = i by omega]; exact hi
        have hf : roadFlow a s b A k = ⟨flowLow (innerS a s k) (b.low.l.getD r.fr.toNat 0 - b.high.l.getD r.to.toNat 0), flowHigh (innerS a s k) (b.high.l.getD r.fr.toNat 0 - b.low.l.getD r.to.toNat 0)⟩ := by rw [roadFlow, ← hr, if_neg hc, if_pos hAf]
        have l1 := hle r.to.toNat
        have g1 := flowLow_high (s := s) ha (k := k) (by omega) (p := b.low.l.getD r.fr.toNat 0 - b.high.l.getD r.to.toNat 0) (p' := b.low.l.getD r.fr.toNat 0 - b.low.l.getD r.to.toNat 0) (by omega)
        have g2 := flowLow_high (s := s) ha (k := k) (by omega) (p := b.high.l.getD r.fr.toNat 0 - b.high.l.getD r.to.toNat 0) (p' := b.high.l.getD r.fr.toNat 0 - b.low.l.getD r.to.toNat 0) (by omega)
        rw [hf, if_pos h1, if_neg h2, if_pos h1, if_pos h1]
        dsimp only
        omega
      · rw [if_neg h1, if_neg h1, if_neg h1]
        by_cases h2 : r.to = (i : Int)
        · have hAt : A.getD r.to.toNat false = true := by rw [show r.to.toNat = i by omega]; exact hi
          have hAf : A.getD r.fr.toNat false = true := hA.step ha.mine hAt hst.symm
          have hf : roadFlow a s b A k = ⟨flowLow (innerS a s k) (b.low.l.getD r.fr.toNat 0 - b.high.l.getD r.to.toNat 0), flowHigh (innerS a s k) (b.high.l.getD r.fr.toNat 0 - b.low.l.getD r.to.toNat 0)⟩ := by rw [roadFlow, ← hr, if_neg hc, if_pos hAf]
          have l1 := hle r.fr.toNat
          have g1 := flowLow_high (s := s) ha (k := k) (by omega) (p := b.low.l.getD r.fr.toNat 0 - b.low.l.getD r.to.toNat 0) (p' := b.high.l.getD r.fr.toNat 0 - b.low.l.getD r.to.toNat 0) (by omega)
          have g2 := flowLow_high (s := s) ha (k := k) (by omega) (p := b.low.l.getD r.fr.toNat 0 - b.high.l.getD r.to.toNat 0) (p' := b.high.l.getD r.fr.toNat 0 - b.high.l.getD r.to.toNat 0) (by omega)
          rw [hf, if_pos h2, if_pos h2, if_pos h2]
          dsimp only
          omega
        · rw [if_neg h2, if_neg h2, if_neg h2]
          omega

theorem roadFlow_bnd {a : XAir} {s : XSetting} {b : XBounds} {A : List Bool} (ha : AirOk a) {k : Nat} (hk : k < a.mine.roads.l.length) :
    (-1125899906842624 ≤ (roadFlow a s b A k).low ∧ (roadFlow a s b A k).low ≤ 1125899906842624) ∧ (-1125899906842624 ≤ (roadFlow a s b A k).high ∧ (roadFlow a s b A k).high ≤ 1125899906842624) := by
  rw [roadFlow]
  split
  · dsimp only; omega
  split
  · have h1 := fun p => (ends_low (s := s) ha).bnd k hk p
    have h2 := fun p => (ends_high (s := s) ha).bnd k hk p
    dsimp only
    exact ⟨⟨by have := h1 (b.low.l.getD (a.mine.roads.l.getD k default).fr.toNat 0 - b.high.l.getD (a.mine.roads.l.getD k default).to.toNat 0); omega, by have := h1 (b.low.l.getD (a.mine.roads.l.getD k default).fr.toNat 0 - b.high.l.getD (a.mine.roads.l.getD k default).to.toNat 0); omega⟩,
      ⟨by have := h2 (b.high.l.getD (a.mine.roads.l.getD k default).fr.toNat 0 - b.low.l.getD (a.mine.roads.l.getD k default).to.toNat 0); omega, by have := h2 (b.high.l.getD (a.mine.roads.l.getD k default).fr.toNat 0 - b.low.l.getD (a.mine.roads.l.getD k default).to.toNat 0); omega⟩⟩
  · simp only [nothingS]; omega
theorem blindF_cases (a : XAir) (k : Nat) : blindF a k = ⟨0, 0⟩ ∨ blindF a k = nothingS := by
  rw [blindF]; split
  · exact .inl rfl
  · exact .inr rfl
/-- what a made air gives -/
theorem ana_ok {a : XAir} {s : XSetting} {A : List Bool} (h0 : airErr a = 0) (hf : fitB a s = true) (hA : AiryIs a.mine A) :
    (anaS a s A).1 = 0 ∧ ((Accept a s (foundB a s A) A ∧ (∀ i : Nat, (foundB a s A).low.l.getD i 0 ≤ (foundB a s A).high.l.getD i 0) ∧ (anaS a s A).2 = (List.range a.mine.roads.l.length).map (roadFlow a s (foundB a s A) A)) ∨ (anaS a s A).2 = (List.range a.mine.roads.l.length).map (blindF a)) := by
  have hfn : ¬ fitB a s = false := by rw [hf]; decide
  rw [anaS, if_neg (by rw [h0]; decide), if_neg hfn]
  rcases solve_facts (A := A) h0 hf with h | h
  · have hac : Accept a s (foundB a s A) A := h.2.accept rfl rfl
    rw [if_pos h.1, boundFlows, if_pos (accept_iff.2 hac)]
    exact ⟨rfl, .inl ⟨hac, h.2.le, rfl⟩⟩
  · rw [if_neg (by rw [h]; decide)]
    exact ⟨rfl, .inr rfl⟩
theorem ana_len {a : XAir} {s : XSetting} {A : List Bool} (h0 : airErr a = 0) (hf : fitB a s = true) (hA : AiryIs a.mine A) : (anaS a s A).2.length = a.mine.roads.l.length := by
  rcases (ana_ok h0 hf hA).2 with ⟨_, _, e⟩ | e <;> rw [e] <;> simp
theorem ana_bnd {a : XAir} {s : XSetting} {A : List Bool} (h0 : airErr a = 0) (hf : fitB a s = true) (hA : AiryIs a.mine A) : SpanB (anaS a s A).2 := fun k => by
  have hl := ana_len h0 hf hA
  have ha := airOk_of h0
  rcases Nat.lt_or_ge k a.mine.roads.l.length with hk | hk
  · rcases (ana_ok h0 hf hA).2 with ⟨_, _, e⟩ | e
    · rw [e, List.getD_eq_getElem?_getD, List.getElem?_map, List.getElem?_range hk]
      exact roadFlow_bnd ha hk
    · rw [e, List.getD_eq_getElem?_getD, List.getElem?_map, List.getElem?_range hk]
      show (-1125899906842624 ≤ (blindF a k).low ∧ (blindF a k).low ≤ 1125899906842624) ∧ (-1125899906842624 ≤ (blindF a k).high ∧ (blindF a k).high ≤ 1125899906842624)
      rcases blindF_cases a k with e | e <;> rw [e] <;> simp [nothingS]
  · rw [List.getD_eq_getElem?_getD, List.getElem?_eq_none (by omega)]
    exact ⟨⟨by decide, by decide⟩, by decide, by decide⟩
theorem ana_net {a : XAir} {s : XSetting} {A : List Bool} (h0 : airErr a = 0) (hf : fitB a s = true) (hA : AiryIs a.mine A) {i : Nat} (hi : i < a.mine.places.l.length) (hs : (a.mine.places.l.getD i default).surface = false) :
    (netQ a.mine.roads.l (anaS a s A).2 (i : Int) a.mine.roads.l.length).low ≤ 0 ∧ 0 ≤ (netQ a.mine.roads.l (anaS a s A).2 (i : Int) a.mine.roads.l.length).high := by
  have ha := airOk_of h0
  rcases (ana_ok h0 hf hA).2 with ⟨hac, hle, e⟩ | e
  · rw [e]
    cases hAi : A.getD i false with
    | true =>
      have h1 := netQ_air (s := s) ha hA hAi hle _ (Nat.le_refl _)
      have h2 := hac.net i hi (by rw [hAi, hs]; decide)
      rw [lowN, highN] at h2
      omega
    | false =>
      refine netQ_blind (n := a.mine.roads.l.length) (fun k hk hh => ?_) _ (Nat.le_refl _)
      rw [List.getD_eq_getElem?_getD, List.getElem?_map, List.getElem?_range hk]
      show roadFlow a s (foundB a s A) A k = _ ∨ roadFlow a s (foundB a s A) A k = _
      have hg := get_D (l := a.mine.roads.l) (k := k) default hk
      have hro := ha.mine.road _ _ hg
      have hr1 := hro.fr
      have hr2 := hro.to
      rw [roadFlow]
      by_cases hc : (a.mine.roads.l.getD k default).closed = true
      · rw [if_pos hc]; exact .inl rfl
      · have hst : Step a.mine (a.mine.roads.l.getD k default).fr.toNat (a.mine.roads.l.getD k default).to.toNat := ⟨_, List.mem_of_getElem? hg, by simpa using hc, .inl ⟨by omega, by omega⟩⟩
        rw [if_neg hc, if_neg]
        · exact .inr rfl
        · intro hAf
          rcases hh with h | h
          · rw [h] at hAf; simp only [Int.toNat_natCast] at hAf; rw [hAi] at hAf; cases hAf
          · have := hA.step ha.mine hAf hst
            rw [h] at this; simp only [Int.toNat_natCast] at this; rw [hAi] at this; cases this
  · rw [e]
    refine netQ_blind (n := a.mine.roads.l.length) (fun k hk hh => ?_) _ (Nat.le_refl _)
    rw [List.getD_eq_getElem?_getD, List.getElem?_map, List.getElem?_range hk]
    exact blindF_cases a k
end Go.Proofs.Ytjjfpglgonpciaa
