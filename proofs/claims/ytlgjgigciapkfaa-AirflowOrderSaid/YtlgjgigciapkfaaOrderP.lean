/-
  The order of measurements does not matter: plain law. By an AI agent; no person has read it.
-/
import Derived.Test.YtlgjgigciapkfaaNarrow
set_option linter.unusedSimpArgs false
set_option linter.unusedVariables false
namespace Go.Proofs.Ytlgjgigciapkfaa
open Go.Aw Go

def rel13 (n : Nat) (S : List XSens) (j : Nat) (x : XMeas) : Prop := narFor n 3 S x ∧ (S.getD x.sensor.toNat default).target = (j : Int)
instance (n : Nat) (S : List XSens) (j : Nat) (x : XMeas) : Decidable (rel13 n S j x) := by unfold rel13; infer_instance
/-- all that is said of road j -/
def totL (n : Nat) (S : List XSens) (t : Int) (j : Nat) (z : XSpan) (m : List XMeas) : XSpan :=
  m.foldl (fun o x => if rel13 n S j x then meet2 o (atS (S.getD x.sensor.toNat default) x t) else o) z
theorem totL_low {n : Nat} {S : List XSens} {t : Int} {j : Nat} {c : Int} : ∀ (m : List XMeas) (z : XSpan), (totL n S t j z m).low ≤ c ↔ z.low ≤ c ∧ ∀ x ∈ m, rel13 n S j x → (atS (S.getD x.sensor.toNat default) x t).low ≤ c
  | [], z => by simp [totL]
  | x :: m, z => by
    have ih := totL_low (n := n) (S := S) (t := t) (j := j) (c := c) m (if rel13 n S j x then meet2 z (atS (S.getD x.sensor.toNat default) x t) else z)
    have e : totL n S t j z (x :: m) = totL n S t j (if rel13 n S j x then meet2 z (atS (S.getD x.sensor.toNat default) x t) else z) m := rfl
    rw [e, ih]
    by_cases h : rel13 n S j x
    · rw [if_pos h]
      simp only [meet2, List.mem_cons, forall_eq_or_imp]
      constructor
      · rintro ⟨h1, h2⟩; exact ⟨by omega, fun _ => by omega, h2⟩
      · rintro ⟨h1, h2, h3⟩; exact ⟨by have := h2 h; omega, h3⟩
    · rw [if_neg h]
      simp only [List.mem_cons, forall_eq_or_imp]
      constructor
      · rintro ⟨h1, h2⟩; exact ⟨h1, fun h' => absurd h' h, h2⟩
      · rintro ⟨h1, _, h3⟩; exact ⟨h1, h3⟩
theorem totL_high {n : Nat} {S : List XSens} {t : Int} {j : Nat} {c : Int} : ∀ (m : List XMeas) (z : XSpan), c ≤ (totL n S t j z m).high ↔ c ≤ z.high ∧ ∀ x ∈ m, rel13 n S j x → c ≤ (atS (S.getD x.sensor.toNat default) x t).high
  | [], z => by simp [totL]
  | x :: m, z => by
    have ih := totL_high (n := n) (S := S) (t := t) (j := j) (c := c) m (if rel13 n S j x then meet2 z (atS (S.getD x.sensor.toNat default) x t) else z)
    have e : totL n S t j z (x :: m) = totL n S t j (if rel13 n S j x then meet2 z (atS (S.getD x.sensor.toNat default) x t) else z) m := rfl
    rw [e, ih]
    by_cases h : rel13 n S j x
    · rw [if_pos h]
      simp only [meet2, List.mem_cons, forall_eq_or_imp]
      constructor
      · rintro ⟨h1, h2⟩; exact ⟨by omega, fun _ => by omega, h2⟩
      · rintro ⟨h1, h2, h3⟩; exact ⟨by have := h2 h; omega, h3⟩
    · rw [if_neg h]
      simp only [List.mem_cons, forall_eq_or_imp]
      constructor
      · rintro ⟨h1, h2⟩; exact ⟨h1, fun h' => absurd h' h, h2⟩
      · rintro ⟨h1, _, h3⟩; exact ⟨h1, h3⟩
/-- the order does not matter -/
theorem totL_same {n : Nat} {S : List XSens} {t : Int} {j : Nat} {z : XSpan} {m m' : List XMeas} (h : ∀ x, x ∈ m ↔ x ∈ m') : totL n S t j z m = totL n S t j z m' := by
  refine span_eq.2 ⟨Int.le_antisymm ?_ ?_, Int.le_antisymm ?_ ?_⟩
  · exact (totL_low m z).2 (by have := (totL_low (n := n) (S := S) (t := t) (j := j) m' z).1 (Int.le_refl _); exact ⟨this.1, fun x hx => this.2 x ((h x).1 hx)⟩)
  · exact (totL_low m' z).2 (by have := (totL_low (n := n) (S := S) (t := t) (j := j) m z).1 (Int.le_refl _); exact ⟨this.1, fun x hx => this.2 x ((h x).2 hx)⟩)
  · exact (totL_high m' z).2 (by have := (totL_high (n := n) (S := S) (t := t) (j := j) m z).1 (Int.le_refl _); exact ⟨this.1, fun x hx => this.2 x ((h x).2 hx)⟩)
  · exact (totL_high m z).2 (by have := (totL_high (n := n) (S := S) (t := t) (j := j) m' z).1 (Int.le_refl _); exact ⟨this.1, fun x hx => this.2 x ((h x).1 hx)⟩)
theorem totL_snoc {n : Nat} {S : List XSens} {t : Int} {j : Nat} {z : XSpan} {m : List XMeas} {x : XMeas} :
    totL n S t j z (m ++ [x]) = if rel13 n S j x then meet2 (totL n S t j z m) (atS (S.getD x.sensor.toNat default) x t) else totL n S t j z m := by
  rw [totL, List.foldl_append]; rfl

structure OrdTo (l : List XSpan) (S : List XSens) (t : Int) (m : List XMeas) (st : NarSt) : Prop where
  len : st.out.length = l.length ∧ st.gone.length = l.length ∧ st.bad.length = S.length
  lost : ∀ j : Nat, j < l.length → st.gone.getD j false = true → (totL l.length S t j (l.getD j default) m).high < (totL l.length S t j (l.getD j default) m).low ∧ st.out.getD j default = nothingS
  kept : ∀ j : Nat, j < l.length → st.gone.getD j false = false → (totL l.length S t j (l.getD j default) m).low ≤ (totL l.length S t j (l.getD j default) m).high ∧ st.out.getD j default = totL l.length S t j (l.getD j default) m
  bad : ∀ k : Nat, k < S.length → st.bad.getD k false = true → (0 ≤ (S.getD k default).target ∧ (S.getD k default).target < l.length) ∧ (S.getD k default).kind = 3 ∧ st.gone.getD (S.getD k default).target.toNat false = true
  some : ∀ j : Nat, j < l.length → st.gone.getD j false = true → ∃ k : Nat, k < S.length ∧ st.bad.getD k false = true
theorem getD_setA {α : Type} {l : List α} {i j : Nat} {x z : α} (hi : i < l.length) : (l.set i x).getD j z = if j = i then x else l.getD j z := by
  rw [List.getD_eq_getElem?_getD, List.getElem?_set, List.getD_eq_getElem?_getD]
  by_cases h : j = i
  · subst h; rw [if_pos rfl, if_pos hi, if_pos rfl]; rfl
  · rw [if_neg (fun e => h e.symm), if_neg h]
theorem OrdTo.step {l : List XSpan} {S : List XSens} {t : Int} {m : List XMeas} {st : NarSt} {x : XMeas} (h : OrdTo l S t m st) : OrdTo l S t (m ++ [x]) (narStep l.length 3 nothingS t S st x) := by
  obtain ⟨z1, z2, z3⟩ := h.len
  rw [narStep]
  by_cases hf : narFor l.length 3 S x
  · have hf' := hf
    rw [narFor] at hf'
    obtain ⟨⟨f1, f2⟩, f3, f4, f5⟩ := hf'
    obtain ⟨s, hs⟩ : ∃ s, s = S.getD x.sensor.toNat default := ⟨_, rfl⟩
    rw [← hs] at f3 f4 f5
    have hrel : ∀ j : Nat, rel13 l.length S j x ↔ j = s.target.toNat := fun j => by
      rw [rel13, ← hs]
      constructor
      · rintro ⟨_, e⟩; omega
      · rintro rfl; exact ⟨hf, by omega⟩
    cases hg : st.gone.getD s.target.toNat false with
    | true =>
      rw [if_pos (fun hh => by have := hh.2; rw [← hs, hg] at this; cases this)]
      refine ⟨h.len, fun j hj hgj => ?_, fun j hj hgj => ?_, h.bad, h.some⟩
      · have h1 := h.lost j hj hgj
        refine ⟨?_, h1.2⟩
        rw [totL_snoc]
        split
        · rw [meet2]; dsimp only; omega
        · exact h1.1
      · have hjt : j ≠ s.target.toNat := fun e => by rw [e, hg] at hgj; cases hgj
        rw [totL_snoc, if_neg (fun hr => hjt ((hrel j).1 hr))]
        exact h.kept j hj hgj
    | false =>
      rw [if_neg (fun hh => hh ⟨hf, by rw [← hs]; exact hg⟩)]
      have hk := h.kept s.target.toNat (by omega) hg
      have hat : narAt st S t x = totL l.length S t s.target.toNat (l.getD s.target.toNat default) (m ++ [x]) := by
        rw [narAt, ← hs, hk.2, totL_snoc, if_pos ((hrel _).2 rfl), ← hs]
      rw [hat, ← hs]
      by_cases hle : (totL l.length S t s.target.toNat (l.getD s.target.toNat default) (m ++ [x])).low ≤ (totL l.length S t s.target.toNat (l.getD s.target.toNat default) (m ++ [x])).high
      · rw [if_pos hle]
        refine ⟨⟨by simp [z1], z2, z3⟩, fun j hj hgj => ?_, fun j hj hgj => ?_, h.bad, h.some⟩
        · have hjt : j ≠ s.target.toNat := fun e => by rw [e] at hgj; dsimp only at hgj; rw [hg] at hgj; cases hgj
          dsimp only
          rw [getD_setA (by omega), if_neg hjt, totL_snoc, if_neg (fun hr => hjt ((hrel j).1 hr))]
          exact h.lost j hj hgj
        · dsimp only
          rw [getD_setA (by omega)]
          by_cases hjt : j = s.target.toNat
          · rw [if_pos hjt, hjt]; exact ⟨hle, rfl⟩
          · rw [if_neg hjt, totL_snoc, if_neg (fun hr => hjt ((hrel j).1 hr))]
            exact h.kept j hj hgj
      · rw [if_neg hle]
        refine ⟨⟨by simp [z1], by simp [z2], by simp [z3]⟩, fun j hj hgj => ?_, fun j hj hgj => ?_, fun k hk2 hbk => ?_, fun j hj hgj => ⟨x.sensor.toNat, by omega, ?_⟩⟩
        · dsimp only at hgj ⊢
          rw [getD_setA (by omega)] at hgj ⊢
          by_cases hjt : j = s.target.toNat
          · rw [if_pos hjt, hjt]; exact ⟨by omega, rfl⟩
          · rw [if_neg hjt] at hgj ⊢
            rw [totL_snoc, if_neg (fun hr => hjt ((hrel j).1 hr))]
            exact h.lost j hj hgj
        · dsimp only at hgj ⊢
          rw [getD_setA (by omega)] at hgj ⊢
          by_cases hjt : j = s.target.toNat
          · rw [if_pos hjt] at hgj; cases hgj
          · rw [if_neg hjt] at hgj ⊢
            rw [totL_snoc, if_neg (fun hr => hjt ((hrel j).1 hr))]
            exact h.kept j hj hgj
        · dsimp only at hbk ⊢
          rw [getD_setA (by omega)] at hbk ⊢
          by_cases hkx : k = x.sensor.toNat
          · subst hkx
            rw [← hs, if_pos rfl]
            exact ⟨⟨f4, f5⟩, f3, rfl⟩
          · rw [if_neg hkx] at hbk
            have hb := h.bad k hk2 hbk
            refine ⟨hb.1, hb.2.1, ?_⟩
            split
            · rfl
            · exact hb.2.2
        · dsimp only
          rw [getD_setA (by omega), if_pos rfl]
  · rw [if_pos (fun hh => hf hh.1)]
    have hrel : ∀ j : Nat, ¬ rel13 l.length S j x := fun j hr => hf hr.1
    refine ⟨h.len, fun j hj hgj => ?_, fun j hj hgj => ?_, h.bad, h.some⟩
    · rw [totL_snoc, if_neg (hrel j)]; exact h.lost j hj hgj
    · rw [totL_snoc, if_neg (hrel j)]; exact h.kept j hj hgj
theorem ord_to {l : List XSpan} {S : List XSens} {m : List XMeas} {t : Int} (hl : ∀ j : Nat, j < l.length → (l.getD j default).low ≤ (l.getD j default).high) : ∀ k, k ≤ m.length → OrdTo l S t (m.take k) (narTo l nothingS 3 S m t k)
  | 0, _ => by
    have e1 : ∀ j n, (List.replicate n false).getD j false = false := fun j n => by
      rw [List.getD_eq_getElem?_getD, List.getElem?_replicate]; split <;> rfl
    refine ⟨by simp [narTo], fun j hj hg => ?_, fun j hj hg => ⟨hl j hj, rfl⟩, fun k hk hb => ?_, fun j hj hg => ?_⟩
    · rw [show (narTo l nothingS 3 S m t 0).gone = List.replicate l.length false from rfl, e1] at hg; cases hg
    · rw [show (narTo l nothingS 3 S m t 0).bad = List.replicate S.length false from rfl, e1] at hb; cases hb
    · rw [show (narTo l nothingS 3 S m t 0).gone = List.replicate l.length false from rfl, e1] at hg; cases hg
  | k + 1, hk => by
    have hg := List.getElem?_eq_getElem (l := m) (i := k) (by omega)
    rw [narTo_succ hg, List.take_add_one, hg]
    exact (ord_to hl k (by omega)).step
end Go.Proofs.Ytlgjgigciapkfaa
