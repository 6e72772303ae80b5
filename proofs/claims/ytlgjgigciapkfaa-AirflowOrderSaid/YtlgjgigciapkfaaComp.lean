/-
  Bounds that are accepted hold the state that fits: the law of comparison. By an AI agent; no person has read it.
-/
import Derived.Test.YtlgjgigciapkfaaCflowR
set_option linter.unusedSimpArgs false
set_option linter.unusedVariables false
namespace Go.Proofs.Ytlgjgigciapkfaa
open Go.Aw Go

/-- P11.1, taken apart -/
structure Accept (a : XAir) (s : XSetting) (b : XBounds) (A : List Bool) : Prop where
  ck : CheckOk a s b
  fix : ∀ i : Nat, i < a.mine.places.l.length → (!(A.getD i false) || (a.mine.places.l.getD i default).surface) = true → b.low.l.getD i 0 = 0 ∧ b.high.l.getD i 0 = 0
  net : ∀ i : Nat, i < a.mine.places.l.length → ¬ (!(A.getD i false) || (a.mine.places.l.getD i default).surface) = true → 0 ≤ lowN a s b.high.l (i : Int) ∧ highN a s b.low.l (i : Int) ≤ 0
theorem checkS_right {a : XAir} {s : XSetting} {b : XBounds} {A : List Bool} (h : CheckOk a s b) : checkS a s b A = ((List.range a.mine.places.l.length).findSome? (nodeBad a s b A)).getD 0 := by
  have h1 := h.hl
  have h2 := h.hh
  rw [checkS, if_neg (by rw [h.h0]; decide), if_neg (by rw [h.hf]; decide), if_neg (by omega), if_neg (by rw [presOk_none h.pl, presOk_none h.ph]; simp)]
theorem nodeBad_cases (a : XAir) (s : XSetting) (b : XBounds) (A : List Bool) (i : Nat) : nodeBad a s b A i = none ∨ nodeBad a s b A i = some 12 := by
  unfold nodeBad
  split
  · split
    · exact .inr rfl
    · exact .inl rfl
  · split
    · exact .inr rfl
    · exact .inl rfl
theorem accept_iff {a : XAir} {s : XSetting} {b : XBounds} {A : List Bool} : checkS a s b A = 0 ↔ Accept a s b A := by
  have node : ∀ i, nodeBad a s b A i = none ↔ ((!(A.getD i false) || (a.mine.places.l.getD i default).surface) = true → b.low.l.getD i 0 = 0 ∧ b.high.l.getD i 0 = 0) ∧ (¬ (!(A.getD i false) || (a.mine.places.l.getD i default).surface) = true → 0 ≤ lowN a s b.high.l (i : Int) ∧ highN a s b.low.l (i : Int) ≤ 0) := fun i => by
    unfold nodeBad
    by_cases h1 : (!(A.getD i false) || (a.mine.places.l.getD i default).surface) = true
    · rw [if_pos h1]
      refine ⟨fun h => ⟨fun _ => ?_, fun h' => absurd h1 h'⟩, fun h => if_neg (by have := h.1 h1; omega)⟩
      split at h
      · cases h
      · omega
    · rw [if_neg h1]
      refine ⟨fun h => ⟨fun h' => absurd h' h1, fun _ => ?_⟩, fun h => if_neg (by have := h.2 h1; omega)⟩
      split at h
      · cases h
      · omega
  constructor
  · intro h
    have hC := checkS_ok h
    rw [checkS_right hC] at h
    have hn : (List.range a.mine.places.l.length).findSome? (nodeBad a s b A) = none := by
      cases e : (List.range a.mine.places.l.length).findSome? (nodeBad a s b A) with
      | none => rfl
      | some v =>
        obtain ⟨i, _, hi⟩ := List.exists_of_findSome?_eq_some e
        rcases nodeBad_cases a s b A i with h1 | h1
        · rw [h1] at hi; cases hi
        · rw [h1] at hi; cases hi; rw [e] at h; cases h
    rw [List.findSome?_eq_none_iff] at hn
    exact ⟨hC, fun i hi => ((node i).1 (hn i (List.mem_range.2 hi))).1, fun i hi => ((node i).1 (hn i (List.mem_range.2 hi))).2⟩
  · intro h
    rw [checkS_right h.ck, List.findSome?_eq_none_iff.2 (fun i hi => (node i).2 ⟨h.fix i (List.mem_range.1 hi), h.net i (List.mem_range.1 hi)⟩)]
    rfl

end Go.Proofs.Ytlgjgigciapkfaa
