/-
  The order of measurements does not matter: what the law asks. By an AI agent; no person has read it.
-/
import Derived.Test.YtlgjgigciapkfaaOrderP
set_option linter.unusedSimpArgs false
set_option linter.unusedVariables false
namespace Go.Proofs.Ytlgjgigciapkfaa
open Go.Aw Go
theorem wrongS_mem {b : List Bool} {n : Nat} {v : Int} : v ∈ wrongS b n ↔ ∃ i : Nat, i < n ∧ b.getD i false = true ∧ v = (i : Int) := by
  rw [wrongS, List.mem_map]
  constructor
  · rintro ⟨i, hi, rfl⟩
    rw [List.mem_filter, List.mem_range] at hi
    exact ⟨i, hi.1, hi.2, rfl⟩
  · rintro ⟨i, h1, h2, rfl⟩
    exact ⟨i, List.mem_filter.2 ⟨List.mem_range.2 h1, h2⟩, rfl⟩
theorem wrongS_len {b : List Bool} {n : Nat} : (wrongS b n).length ≤ n := by
  rw [wrongS, List.length_map]; exact Nat.le_trans (List.length_filter_le _ _) (by simp)
theorem OrdTo.nobad {l : List XSpan} {S : List XSens} {t : Int} {m : List XMeas} {st : NarSt} (h : OrdTo l S t m st) : wrongS st.bad S.length = [] ↔ ∀ j : Nat, j < l.length → st.gone.getD j false = false := by
  constructor
  · intro hn j hj
    cases hg : st.gone.getD j false with
    | false => rfl
    | true =>
      obtain ⟨k, hk, hb⟩ := h.some j hj hg
      have : (k : Int) ∈ wrongS st.bad S.length := wrongS_mem.2 ⟨k, hk, hb, rfl⟩
      rw [hn] at this
      cases this
  · intro hg
    refine List.eq_nil_iff_forall_not_mem.2 fun v hv => ?_
    obtain ⟨k, hk, hb, rfl⟩ := wrongS_mem.1 hv
    obtain ⟨⟨h1, h2⟩, _, h3⟩ := h.bad k hk hb
    rw [hg _ (by omega)] at h3
    cases h3
section
variable {l : List XSpan} {S : List XSens} {t : Int} {m m' : List XMeas} {st st' : NarSt} (h : OrdTo l S t m st) (h' : OrdTo l S t m' st') (hm : ∀ x, x ∈ m ↔ x ∈ m')
include h h' hm
theorem OrdTo.same_gone {j : Nat} (hj : j < l.length) (hg : st.gone.getD j false = true) : st'.gone.getD j false = true := by
  cases hg' : st'.gone.getD j false with
  | true => rfl
  | false =>
    have h1 := (h.lost j hj hg).1
    have h2 := (h'.kept j hj hg').1
    rw [totL_same hm] at h1
    omega
theorem OrdTo.same_bad : wrongS st.bad S.length = [] ↔ wrongS st'.bad S.length = [] := by
  rw [h.nobad, h'.nobad]
  constructor
  · intro hn j hj
    cases hg : st'.gone.getD j false with
    | false => rfl
    | true => exact absurd (hn j hj) (by rw [h'.same_gone h (fun x => (hm x).symm) hj hg]; decide)
  · intro hn j hj
    cases hg : st.gone.getD j false with
    | false => rfl
    | true => exact absurd (hn j hj) (by rw [h.same_gone h' hm hj hg]; decide)
theorem OrdTo.same_out (hb : wrongS st.bad S.length = []) : st.out = st'.out := by
  have h1 := h.nobad.1 hb
  have h2 := h'.nobad.1 ((h.same_bad h' hm).1 hb)
  have hl := h.len.1
  have hl' := h'.len.1
  refine List.ext_getElem? fun j => ?_
  rcases Nat.lt_or_ge j l.length with hj | hj
  · rw [get_D (l := st.out) (k := j) default (by omega), get_D (l := st'.out) (k := j) default (by omega), (h.kept j hj (h1 j hj)).2, (h'.kept j hj (h2 j hj)).2, totL_same hm]
  · rw [List.getElem?_eq_none (by omega), List.getElem?_eq_none (by omega)]
end
end Go.Proofs.Ytlgjgigciapkfaa
