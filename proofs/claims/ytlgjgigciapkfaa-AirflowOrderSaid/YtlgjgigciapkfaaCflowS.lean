/-
  The state of certify.Flows' loop, in plain numbers. By an AI agent; no person has read it.
-/
import Derived.Test.YtlgjgigciapkfaaCflowR
set_option linter.unusedSimpArgs false
set_option linter.unusedVariables false
namespace Go.Proofs.Ytlgjgigciapkfaa
open Go.Aw Go

structure FlowTo (a : XAir) (s : XSetting) (b : XBounds) (A : List Bool) (n : XNet) (k : Nat) (l : List XSpan) : Prop where
  len : l.length = a.mine.roads.l.length
  don : ∀ (j : Nat) (p : XPipe), j < k → n.pipes.l[j]? = some p → l[p.num.toNat]? = some (roadFlow a s b A p.num.toNat)
  non : ∀ i : Nat, i < a.mine.roads.l.length → (∀ (j : Nat) (p : XPipe), j < k → n.pipes.l[j]? = some p → p.num.toNat ≠ i) → l[i]? = some ⟨0, 0⟩
theorem FlowTo.zero (a : XAir) (s : XSetting) (b : XBounds) (A : List Bool) (n : XNet) : FlowTo a s b A n 0 (List.replicate a.mine.roads.l.length ⟨0, 0⟩) :=
  ⟨by simp, fun j p hj => by omega, fun i hi _ => by rw [List.getElem?_replicate, if_pos hi]⟩
theorem FlowTo.next {a : XAir} {s : XSetting} {b : XBounds} {A : List Bool} {n : XNet} {k : Nat} {l : List XSpan} (h : FlowTo a s b A n k l) {p : XPipe} (hp : n.pipes.l[k]? = some p) (hr : p.num.toNat < a.mine.roads.l.length) {x : XSpan} (hx : x = roadFlow a s b A p.num.toNat) : FlowTo a s b A n (k + 1) (l.set p.num.toNat x) := by
  have hl := h.len
  subst hx
  refine ⟨by simp [hl], fun j q hj hq => ?_, fun i hi hn => ?_⟩
  · rw [List.getElem?_set]
    split
    · rename_i e; rw [if_pos (by omega), e]
    · rename_i e
      rcases Nat.lt_or_ge j k with h1 | h1
      · exact h.don j q h1 hq
      · obtain rfl : j = k := by omega
        rw [hp] at hq
        cases hq
        exact absurd rfl e
  · rw [List.getElem?_set_ne (hn k p (by omega) hp)]
    exact h.non i hi fun j q hj hq => hn j q (by omega) hq
theorem FlowTo.done {a : XAir} {s : XSetting} {b : XBounds} {A : List Bool} {n : XNet} {l : List XSpan} (h : FlowTo a s b A n n.pipes.l.length l) (hn : NetIs a s n) : l = (List.range a.mine.roads.l.length).map (roadFlow a s b A) := by
  have hl := h.len
  refine List.ext_getElem? fun i => ?_
  rcases Nat.lt_or_ge i a.mine.roads.l.length with hi | hi
  · rw [List.getElem?_map, List.getElem?_range hi]
    show _ = some (roadFlow a s b A i)
    cases hc : (a.mine.roads.l.getD i default).closed with
    | true =>
      rw [roadFlow, if_pos hc]
      refine h.non i hi fun j p hj hp e => ?_
      have := (hn.open (List.mem_of_getElem? hp)).2
      rw [e, hc] at this
      cases this
    | false =>
      obtain ⟨j, p, hj, hp⟩ := hn.find (r := (i : Int)) (by omega) (by rw [Int.toNat_natCast]; exact hc)
      have := h.don j p (List.getElem?_eq_some_iff.1 hj).1 hj
      rw [hp, Int.toNat_natCast] at this
      exact this
  · rw [List.getElem?_eq_none (by omega), List.getElem?_eq_none (by simp; omega)]
end Go.Proofs.Ytlgjgigciapkfaa
