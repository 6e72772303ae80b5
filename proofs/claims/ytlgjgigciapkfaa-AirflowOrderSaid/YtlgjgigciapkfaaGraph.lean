/-
  Places that open roads connect. By an AI agent; no person has read it.
-/
import Derived.Test.YtlgjgigciapkfaaChecks
import Derived.Test.YtlgjgigciapkfaaFans
set_option linter.unusedSimpArgs false
set_option linter.unusedVariables false
namespace Go.Proofs.Ytlgjgigciapkfaa
open Go.Aw Go

def blc (b : Bool) : List Value := [.bool b]
theorem blc_len (b : Bool) : (blc b).length = 1 := rfl
/-- an open road leads from u to v, or from v to u -/
def Step (m : XMine) (u v : Nat) : Prop := ∃ r ∈ m.roads.l, r.closed = false ∧ ((r.fr = (u : Int) ∧ r.to = (v : Int)) ∨ (r.fr = (v : Int) ∧ r.to = (u : Int)))
inductive Conn (m : XMine) (u : Nat) : Nat → Prop
  | refl : Conn m u u
  | tail {v w : Nat} (h : Conn m u v) (k : Step m v w) : Conn m u w
theorem Step.symm {m : XMine} {u v : Nat} (h : Step m u v) : Step m v u := by
  obtain ⟨r, hr, hc, h1 | h1⟩ := h
  · exact ⟨r, hr, hc, .inr h1⟩
  · exact ⟨r, hr, hc, .inl h1⟩
theorem Conn.trans {m : XMine} {u v w : Nat} (h : Conn m u v) (k : Conn m v w) : Conn m u w := by
  induction k with
  | refl => exact h
  | tail _ s ih => exact ih.tail s
theorem Conn.symm {m : XMine} {u v : Nat} (h : Conn m u v) : Conn m v u := by
  induction h with
  | refl => exact .refl
  | tail _ s ih => exact (Conn.refl.tail s.symm).trans ih
/-- what is closed under steps holds all that is connected -/
theorem Conn.closed {m : XMine} {P : Nat → Prop} (hP : ∀ u v, P u → Step m u v → P v) {u v : Nat} (h : Conn m u v) (hu : P u) : P v := by
  induction h with
  | refl => exact hu
  | tail _ s ih => exact hP _ _ ih s
theorem Step.lt {m : XMine} (hm : MineOk m) {u v : Nat} (h : Step m u v) : u < m.places.l.length ∧ v < m.places.l.length := by
  obtain ⟨r, hr, _, h1⟩ := h
  obtain ⟨i, hi⟩ := List.mem_iff_getElem?.1 hr
  have hro := hm.road i r hi
  have h2 := hro.fr
  have h3 := hro.to
  rcases h1 with h1 | h1 <;> omega
/-- which places are connected with some of the given ones -/
structure FromIs (m : XMine) (seen l : List Bool) : Prop where
  len : l.length = seen.length
  iff : ∀ i : Nat, i < seen.length → (l.getD i false = true ↔ ∃ j : Nat, j < seen.length ∧ seen.getD j false = true ∧ Conn m j i)
theorem FromIs.unique {m : XMine} {seen l l' : List Bool} (h : FromIs m seen l) (h' : FromIs m seen l') : l = l' := by
  have e1 := h.len
  have e2 := h'.len
  refine List.ext_getElem (by omega) fun i h1 h2 => ?_
  have a1 := h.iff i (by omega)
  have a2 := h'.iff i (by omega)
  rw [← a2] at a1
  have g1 := get_D (l := l) (k := i) false h1
  have g2 := get_D (l := l') (k := i) false h2
  rw [List.getElem?_eq_getElem h1] at g1
  rw [List.getElem?_eq_getElem h2] at g2
  rw [Option.some.inj g1, Option.some.inj g2]
  cases e : l.getD i false <;> cases e' : l'.getD i false <;> simp_all
def surf (m : XMine) : List Bool := m.places.l.map XPlace.surface
/-- P1.4: which places are connected with the surface -/
abbrev AiryIs (m : XMine) (l : List Bool) : Prop := FromIs m (surf m) l

/-! the reference's rounds -/
/-- between the given ones and all that are connected with them -/
structure FromTo (m : XMine) (seen l : List Bool) : Prop where
  len : l.length = seen.length
  sub : ∀ i : Nat, seen.getD i false = true → l.getD i false = true
  conn : ∀ i : Nat, l.getD i false = true → ∃ j : Nat, j < seen.length ∧ seen.getD j false = true ∧ Conn m j i
theorem getD_setB {l : List Bool} {k i : Nat} {v : Bool} (hk : k < l.length) : (l.set k v).getD i false = if i = k then v else l.getD i false := by
  rw [List.getD_eq_getElem?_getD, List.getElem?_set, List.getD_eq_getElem?_getD]
  split
  · rename_i h; subst h; simp [hk]
  · rename_i h; rw [if_neg (fun e => h e.symm)]
end Go.Proofs.Ytlgjgigciapkfaa
