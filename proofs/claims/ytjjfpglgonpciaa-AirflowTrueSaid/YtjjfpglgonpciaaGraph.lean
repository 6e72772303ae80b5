/-
  Places that open roads connect. By an AI agent; no person has read it.
-/
import Derived.Test.YtjjfpglgonpciaaChecks
import Derived.Test.YtjjfpglgonpciaaFans
set_option linter.unusedSimpArgs false
set_option linter.unusedVariables false
namespace Go.Proofs.Ytjjfpglgonpciaa
open Go.Aw Go

def blc (b : Bool) : List Value := [.bool b]
theorem blc_len (b : Bool) : (blc b).length = 1 := rfl
abbrev blsl (x : Arr Bool) : Sl := x.sl 1 blc []
/-- an open road leads from u to v, or from v to u -/
def Step (m : XMine) (u v : Nat) : Prop := ∃ r ∈ m.roads.l, r.closed = false ∧ ((r.fr = (u : Int) ∧ r.to = (v : Int)) ∨ (r.fr = (v : Int) ∧ r.to = (u : Int)))
inductive Conn (m : XMine) (u : Nat) : Nat → Prop
  | refl : Conn m u u
  | tail {v w : Nat} (h : Conn m u v) (k : Step m v w) : Conn m u w
theorem Step.symm {m : XMine} {u v : Nat} (h : Step m u v) : Step m v u := by
  obtain ⟨r, hr, hc, h1 | h1⟩ := h
  · exact ⟨r, hr, hc, .inr h1⟩
  · exact ⟨r, hr, hc, .inl h1⟩
theorem Conn.trans {m : XMine} {u v w : Nat} (h : Conn m u v) (k : Conn m v w) : Conn m u w := by
  induction k with
  | refl => exact h
  | tail _ s ih => exact ih.tail s
theorem Conn.symm {m : XMine} {u v : Nat} (h : Conn m u v) : Conn m v u := by
  induction h with
  | refl => exact .refl
  | tail _ s ih => exact (Conn.refl.tail s.symm).trans ih
/-- what is closed under steps holds all that is connected -/
theorem Conn.closed {m : XMine} {P : Nat → Prop} (hP : ∀ u v, P u → Step m u v → P v) {u v : Nat} (h : Conn m u v) (hu : P u) : P v := by
  induction h with
  | refl => exact hu
  | tail _ s ih => exact hP _ _ ih s
theorem Step.lt {m : XMine} (hm : MineOk m) {u v : Nat} (h : Step m u v) : u < m.places.l.length ∧ v < m.places.l.length := by
  obtain ⟨r, hr, _, h1⟩ := h
  obtain ⟨i, hi⟩ := List.mem_iff_getElem?.1 hr
  have hro := hm.road i r hi
  have h2 := hro.fr
  have h3 := hro.to
  rcases h1 with h1 | h1 <;> omega
/-- which places are connected with some of the given ones -/
structure FromIs (m : XMine) (seen l : List Bool) : Prop where
  len : l.length = seen.length
  iff : ∀ i : Nat, i < seen.length → (l.getD i false = true ↔ ∃ j : Nat, j < seen.length ∧ seen.getD j false = true ∧ Conn m j i)
theorem FromIs.unique {m : XMine} {seen l l' : List Bool} (h : FromIs m seen l) (h' : FromIs m seen l') : l = l' := by
  have e1 := h.len
  have e2 := h'.len
  refine List.ext_getElem (by omega) fun i h1 h2 => ?_
  have a1 := h.iff i (by omega)
  have a2 := h'.iff i (by omega)
  rw [← a2] at a1
  have g1 := get_D (l := l) (k := i) false h1
  have g2 := get_D (l := l') (k := i) false h2
  rw [List.getElem?_eq_getElem h1] at g1
  rw [List.getElem?_eq_getElem h2] at g2
  rw [Option.some.inj g1, Option.some.inj g2]
  cases e : l.getD i false <;> cases e' : l'.getD i false <;> simp_all
def surf (m : XMine) : List Bool := m.places.l.map XPlace.surface
/-- P1.4: which places are connected with the surface -/
abbrev AiryIs (m : XMine) (l : List Bool) : Prop := FromIs m (surf m) l

/-! the reference's rounds -/
/-- between the given ones and all that are connected with them -/
structure FromTo (m : XMine) (seen l : List Bool) : Prop where
  len : l.length = seen.length
  sub : ∀ i : Nat, seen.getD i false = true → l.getD i false = true
  conn : ∀ i : Nat, l.getD i false = true → ∃ j : Nat, j < seen.length ∧ seen.getD j false = true ∧ Conn m j i
theorem getD_setB {l : List Bool} {k i : Nat} {v : Bool} (hk : k < l.length) : (l.set k v).getD i false = if i = k then v else l.getD i false := by
  rw [List.getD_eq_getElem?_getD, List.getElem?_set, List.getD_eq_getElem?_getD]
  split
  · rename_i h; subst h; simp [hk]
  · rename_i h; rw [if_neg (fun e => h e.symm)]
theorem getD_lt {l : List Bool} {i : Nat} (h : l.getD i false = true) : i < l.length := by
  rcases Nat.lt_or_ge i l.length with h' | h'
  · exact h'
  · rw [List.getD_eq_getElem?_getD, List.getElem?_eq_none h'] at h; cases h
theorem FromTo.init {m : XMine} {seen : List Bool} : FromTo m seen seen := ⟨rfl, fun _ h => h, fun i h => ⟨i, getD_lt h, h, .refl⟩⟩
theorem FromTo.next {m : XMine} {seen l : List Bool} (h : FromTo m seen l) {u v : Nat} (hs : Step m u v) (hu : u < l.length) (hv : v < l.length) (hne : l.getD u false ≠ l.getD v false) : FromTo m seen ((l.set u true).set v true) := by
  have e1 : ∀ i, ((l.set u true).set v true).getD i false = if i = v then true else if i = u then true else l.getD i false := fun i => by
    rw [getD_setB (by simpa using hv), getD_setB hu]
  refine ⟨by simp [h.len], fun i hi => ?_, fun i hi => ?_⟩
  · rw [e1]
    split
    · rfl
    · split
      · rfl
      · exact h.sub i hi
  · rw [e1] at hi
    have both : ∃ j : Nat, j < seen.length ∧ seen.getD j false = true ∧ Conn m j u ∧ Conn m j v := by
      cases e : l.getD u false with
      | true =>
        obtain ⟨j, j1, j2, j3⟩ := h.conn u e
        exact ⟨j, j1, j2, j3, j3.tail hs⟩
      | false =>
        have e2 : l.getD v false = true := by
          cases e3 : l.getD v false with
          | true => rfl
          | false => rw [e, e3] at hne; exact absurd rfl hne
        obtain ⟨j, j1, j2, j3⟩ := h.conn v e2
        exact ⟨j, j1, j2, j3.tail hs.symm, j3⟩
    obtain ⟨j, j1, j2, j3, j4⟩ := both
    by_cases hiv : i = v
    · rw [hiv]; exact ⟨j, j1, j2, j4⟩
    · rw [if_neg hiv] at hi
      by_cases hiu : i = u
      · rw [hiu]; exact ⟨j, j1, j2, j3⟩
      · rw [if_neg hiu] at hi
        exact h.conn i hi
/-- all open roads agree: that is all -/
theorem FromTo.done {m : XMine} {seen l : List Bool} (h : FromTo m seen l) (hr : ∀ r ∈ m.roads.l, r.closed = false → l.getD r.fr.toNat false = l.getD r.to.toNat false) : FromIs m seen l := by
  refine ⟨h.len, fun i hi => ⟨h.conn i, fun ⟨j, j1, j2, j3⟩ => ?_⟩⟩
  refine Conn.closed (P := fun x => l.getD x false = true) (fun u v hu hs => ?_) j3 (h.sub j j2)
  obtain ⟨r, hr1, hc, h1 | h1⟩ := hs
  · have := hr r hr1 hc
    rw [h1.1, h1.2, Int.toNat_natCast, Int.toNat_natCast] at this
    rw [← this]; exact hu
  · have := hr r hr1 hc
    rw [h1.1, h1.2, Int.toNat_natCast, Int.toNat_natCast] at this
    rw [this]; exact hu
def nFalse (l : List Bool) : Nat := l.countP (fun b => !b)
theorem nFalse_set {l : List Bool} {i : Nat} (hi : i < l.length) (h : l.getD i false = false) : nFalse (l.set i true) + 1 = nFalse l := by
  unfold nFalse
  have hg : l[i] = false := by
    have := get_D (l := l) (k := i) false hi
    rw [List.getElem?_eq_getElem hi, h] at this
    exact Option.some.inj this
  rw [List.countP_set hi, hg]
  have : 0 < List.countP (fun b => !b) l := List.countP_pos_iff.2 ⟨l[i], List.getElem_mem hi, by rw [hg]; rfl⟩
  simp
  omega
theorem nFalse_set_le {l : List Bool} {i : Nat} (hi : i < l.length) : nFalse (l.set i true) ≤ nFalse l := by
  unfold nFalse
  rw [List.countP_set hi]
  cases hg : l[i] with
  | true => simp
  | false => simp
theorem nFalse_two {l : List Bool} {u v : Nat} (hu : u < l.length) (hv : v < l.length) (hne : l.getD u false ≠ l.getD v false) : nFalse ((l.set u true).set v true) < nFalse l := by
  cases e : l.getD u false with
  | false =>
    have h1 := nFalse_set hu e
    have h2 := nFalse_set_le (l := l.set u true) (i := v) (by simpa using hv)
    omega
  | true =>
    have e2 : l.getD v false = false := by
      cases e3 : l.getD v false with
      | false => rfl
      | true => rw [e, e3] at hne; exact absurd rfl hne
    have huv : v ≠ u := fun h => by rw [h, e] at e2; cases e2
    have h1 := nFalse_set_le (l := l) (i := u) hu
    have h2 := nFalse_set (l := l.set u true) (i := v) (by simpa using hv) (by rw [getD_setB hu, if_neg huv]; exact e2)
    omega
end Go.Proofs.Ytjjfpglgonpciaa
