/-
  A state that fits, taken apart; its flows lie inside the flows of the roads. By an AI agent; no person has read it.
-/
import Derived.Test.YtimnnhdeicpenaaFlowM
set_option linter.unusedSimpArgs false
set_option linter.unusedVariables false
namespace Go.Proofs.Ytimnnhdeicpenaa
open Go.Aw Go

structure FitsF (a : XAir) (s : XSetting) (x : XState) : Prop where
  plen : x.pres.l.length = a.mine.places.l.length
  flen : x.flows.l.length = a.mine.roads.l.length
  pres : ∀ p ∈ x.pres.l, -70368744177664 ≤ p ∧ p ≤ 70368744177664
  flow : ∀ q ∈ x.flows.l, -1048576 ≤ q ∧ q ≤ 1048576
  road : ∀ i, i < a.mine.roads.l.length → roadUnfit a s x i = none
  place : ∀ i, i < a.mine.places.l.length → placeUnfit a x (netTo a x x.flows.l.length) i = none

theorem fitsF_of {a : XAir} {s : XSetting} {x : XState} (h0 : airErr a = 0) (h1 : fitB a s = true) (h : fitsS a s x = 0) : FitsF a s x := by
  by_cases hl : x.pres.l.length ≠ a.mine.places.l.length ∨ x.flows.l.length ≠ a.mine.roads.l.length
  · rw [fitsS, if_neg (by simp [h0]), if_neg (by simp [h1]), if_pos hl] at h
    cases h
  · rw [fitsS_at h0 h1 hl] at h
    have hp : x.pres.l.findSome? presBad = none := by
      cases e : x.pres.l.findSome? presBad with
      | none => rfl
      | some v =>
        rw [e] at h
        obtain ⟨p, _, hp⟩ := List.exists_of_findSome?_eq_some e
        unfold presBad at hp
        split at hp
        · cases hp; cases h
        · cases hp
    rw [hp] at h
    dsimp only at h
    have hq : x.flows.l.findSome? flowBad = none := by
      cases e : x.flows.l.findSome? flowBad with
      | none => rfl
      | some v =>
        rw [e] at h
        obtain ⟨p, _, hp⟩ := List.exists_of_findSome?_eq_some e
        unfold flowBad at hp
        split at hp
        · cases hp; cases h
        · cases hp
    rw [hq] at h
    dsimp only at h
    have hr : (List.range x.flows.l.length).findSome? (roadUnfit a s x) = none := by
      cases e : (List.range x.flows.l.length).findSome? (roadUnfit a s x) with
      | none => rfl
      | some v =>
        rw [e] at h
        obtain ⟨p, _, hp⟩ := List.exists_of_findSome?_eq_some e
        unfold roadUnfit at hp
        dsimp only at hp
        split at hp
        · cases hp; cases h
        · cases hp
    rw [hr] at h
    dsimp only at h
    have hk : (List.range x.pres.l.length).findSome? (placeUnfit a x (netTo a x x.flows.l.length)) = none := by
      cases e : (List.range x.pres.l.length).findSome? (placeUnfit a x (netTo a x x.flows.l.length)) with
      | none => rfl
      | some v =>
        rw [e] at h
        obtain ⟨p, _, hp⟩ := List.exists_of_findSome?_eq_some e
        unfold placeUnfit at hp
        split at hp
        · cases hp; cases h
        · cases hp
    refine ⟨by omega, by omega, fun p hm => ?_, fun q hm => ?_, fun i hi => ?_, fun i hi => ?_⟩
    · have := List.findSome?_eq_none_iff.1 hp p hm
      unfold presBad at this
      split at this
      · cases this
      · omega
    · have := List.findSome?_eq_none_iff.1 hq q hm
      unfold flowBad at this
      split at this
      · cases this
      · omega
    · exact List.findSome?_eq_none_iff.1 hr i (List.mem_range.2 (by omega))
    · exact List.findSome?_eq_none_iff.1 hk i (List.mem_range.2 (by omega))

theorem FitsF.shut {a : XAir} {s : XSetting} {x : XState} (h : FitsF a s x) {i : Nat} (hi : i < a.mine.roads.l.length) (hc : (a.mine.roads.l.getD i default).closed = true) : x.flows.l.getD i 0 = 0 := by
  have := h.road i hi
  unfold roadUnfit at this
  dsimp only at this
  split at this
  · cases this
  · rename_i hn
    rcases Int.decEq (x.flows.l.getD i 0) 0 with h0 | h0
    · exact absurd (.inl ⟨hc, h0⟩) hn
    · exact h0
theorem FitsF.fit {a : XAir} {s : XSetting} {x : XState} (h : FitsF a s x) {i : Nat} (hi : i < a.mine.roads.l.length) (hc : (a.mine.roads.l.getD i default).closed = false) :
    (innerS a s i (x.flows.l.getD i 0)).low ≤ x.pres.l.getD (a.mine.roads.l.getD i default).fr.toNat 0 - x.pres.l.getD (a.mine.roads.l.getD i default).to.toNat 0 ∧ x.pres.l.getD (a.mine.roads.l.getD i default).fr.toNat 0 - x.pres.l.getD (a.mine.roads.l.getD i default).to.toNat 0 ≤ (innerS a s i (x.flows.l.getD i 0)).high := by
  have := h.road i hi
  unfold roadUnfit at this
  dsimp only at this
  split at this
  · cases this
  · rename_i hn
    refine ⟨Int.not_lt.1 fun h1 => hn (.inr ⟨hc, .inl h1⟩), Int.not_lt.1 fun h1 => hn (.inr ⟨hc, .inr h1⟩)⟩
theorem FitsF.inside {a : XAir} {s : XSetting} {x : XState} (h : FitsF a s x) (ha : AirOk a) {i : Nat} (hi : i < a.mine.roads.l.length) (hc : (a.mine.roads.l.getD i default).closed = false) {d : Int}
    (hd : d = x.pres.l.getD (a.mine.roads.l.getD i default).fr.toNat 0 - x.pres.l.getD (a.mine.roads.l.getD i default).to.toNat 0) :
    flowLow (innerS a s i) d ≤ x.flows.l.getD i 0 ∧ x.flows.l.getD i 0 ≤ flowHigh (innerS a s i) d := by
  have hf := h.fit hi hc
  rw [← hd] at hf
  have hr : (0 : Int) ≤ (i : Int) ∧ (i : Int) < a.mine.roads.l.length := by omega
  have hfl := h.flen
  have hq := h.flow _ (List.mem_of_getElem? (get_D (l := x.flows.l) (k := i) 0 (by omega)))
  have h1 := flowLow_is (s := s) ha hr d
  have h2 := flowHigh_is (s := s) ha hr d
  generalize flowLow (innerS a s i) d = l at *
  generalize flowHigh (innerS a s i) d = u at *
  generalize x.flows.l.getD i 0 = q at *
  have b1 := h1.bnd
  have b2 := h2.bnd
  refine ⟨Int.not_lt.1 fun hl => ?_, Int.not_lt.1 fun hl => ?_⟩
  · have k1 := h1.le l (by omega) (Int.le_refl _)
    have k2 := (innerS_mono (s := s) ha hr hl).2
    omega
  · have k1 := h2.ge u (Int.le_refl _) (by omega)
    have k2 := (innerS_mono (s := s) ha hr hl).1
    omega
end Go.Proofs.Ytimnnhdeicpenaa
