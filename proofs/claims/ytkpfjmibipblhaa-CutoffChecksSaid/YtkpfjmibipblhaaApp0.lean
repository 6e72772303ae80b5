import Derived.Test.YtkpfjmibipblhaaSiteS
import Derived.Test.YtkpfjmibipblhaaFans
import Derived.Test.YtkpfjmibipblhaaData
import Derived.Test.YtkpfjmibipblhaaOwn
section
/-
  Rules: what a right one is, and what more knowledge does to its value. Plain. By an AI agent; no person has read it.
-/
set_option linter.unusedSimpArgs false
set_option linter.unusedVariables false
namespace Go.Proofs.Ytkpfjmibipblhaa
open Go.Aw Go
def NodeOk (l : List XNode) (j : Nat) : Prop :=
  ((l.getD j default).kind = 1 ∧ 0 ≤ (l.getD j default).cond ∧ (l.getD j default).cond < 64) ∨
  ((l.getD j default).kind = 2 ∧ 1 ≤ j ∧ (l.getD j default).left = (j : Int) - 1) ∨
  (((l.getD j default).kind = 3 ∨ (l.getD j default).kind = 4) ∧ 1 ≤ j ∧ (l.getD j default).right = (j : Int) - 1 ∧ 0 ≤ (l.getD j default).left ∧ (l.getD j default).left < (j : Int))
theorem partF_ok {l : List XNode} : ∀ (n : Nat) (i f d : Int), partF l n i = some (f, d) → (0 ≤ f ∧ f ≤ i) ∧ (1 ≤ d ∧ d ≤ n) ∧ ∀ j : Nat, f ≤ (j : Int) → (j : Int) ≤ i → NodeOk l j
  | 0, i, f, d, h => by rw [partF] at h; cases h
  | n + 1, i, f, d, h => by
    rw [partF] at h
    split at h
    · cases h
    rename_i hi
    have at_i : ∀ j : Nat, (j : Int) = i → l.getD j default = l.getD i.toNat default := fun j hj => by rw [← hj, Int.toNat_natCast]
    split at h
    · rename_i h1
      split at h
      · rename_i h2
        cases h
        refine ⟨by omega, by omega, fun j j1 j2 => ?_⟩
        have hj := at_i j (by omega)
        rw [NodeOk, hj]
        exact .inl ⟨h1, h2.2.2.1, h2.2.2.2⟩
      · cases h
    split at h
    · rename_i h1
      split at h
      · cases h
      rename_i f' d' hp
      split at h
      · rename_i h2
        cases h
        obtain ⟨i1, i2, i3⟩ := partF_ok n _ _ _ hp
        refine ⟨by omega, by omega, fun j j1 j2 => ?_⟩
        by_cases hj : (j : Int) = i
        · have hj' := at_i j hj
          rw [NodeOk, hj']
          exact .inr (.inl ⟨h1, by omega, by omega⟩)
        · exact i3 j j1 (by omega)
      · cases h
    split at h
    · rename_i h1
      split at h
      · cases h
      rename_i m r hp
      split at h
      · rename_i h2
        split at h
        · cases h
        rename_i f' q hq
        cases h
        obtain ⟨i1, i2, i3⟩ := partF_ok n _ _ _ hp
        obtain ⟨k1, k2, k3⟩ := partF_ok n _ _ _ hq
        refine ⟨by omega, by omega, fun j j1 j2 => ?_⟩
        by_cases hj : (j : Int) = i
        · have hj' := at_i j hj
          rw [NodeOk, hj']
          exact .inr (.inr ⟨h1, by omega, by omega, by omega, by omega⟩)
        · rcases Int.lt_or_le (j : Int) m with hm | hm
          · exact k3 j j1 (by omega)
          · exact i3 j hm (by omega)
      · cases h
    · cases h
theorem partF_mono {l : List XNode} : ∀ (n m : Nat) (i : Int) (x : Int × Int), n ≤ m → partF l n i = some x → partF l m i = some x
  | 0, _, i, x, _, h => by rw [partF] at h; cases h
  | n + 1, 0, i, x, hnm, h => by omega
  | n + 1, m + 1, i, x, hnm, h => by
    rw [partF] at h ⊢
    split at h
    · cases h
    rename_i hi
    rw [if_neg hi]
    split at h
    · rename_i h1; rw [if_pos h1]; exact h
    rename_i h1
    rw [if_neg h1]
    split at h
    · rename_i h2
      rw [if_pos h2]
      split at h
      · cases h
      rename_i f' d' hp
      rw [partF_mono n m _ _ (by omega) hp]
      exact h
    rename_i h2
    rw [if_neg h2]
    split at h
    · rename_i h3
      rw [if_pos h3]
      split at h
      · cases h
      rename_i a b hp
      rw [partF_mono n m _ _ (by omega) hp]
      dsimp only
      split at h
      · rename_i h4
        rw [if_pos h4]
        split at h
        · cases h
        rename_i a' b' hq
        rw [partF_mono n m _ _ (by omega) hq]
        exact h
      · cases h
    · cases h
theorem rightR_iff {l : List XNode} : rightR l = true ↔ (1 ≤ l.length ∧ l.length ≤ 64) ∧ ∃ d, partF l l.length ((l.length : Int) - 1) = some (0, d) ∧ d ≤ 16 := by
  rw [rightR, Bool.and_eq_true, decide_eq_true_eq]
  constructor
  · rintro ⟨h1, h2⟩
    refine ⟨h1, ?_⟩
    split at h2
    · cases h2
    · rename_i f d hp
      simp only [decide_eq_true_eq] at h2
      obtain ⟨rfl, hd⟩ := h2
      exact ⟨d, hp, hd⟩
  · rintro ⟨h1, d, hp, hd⟩
    refine ⟨h1, ?_⟩
    rw [hp]
    simpa using hd
theorem right_nodes {l : List XNode} (h : rightR l = true) (j : Nat) (hj : j < l.length) : NodeOk l j := by
  obtain ⟨h1, d, hp, _⟩ := rightR_iff.1 h
  exact (partF_ok _ _ _ _ hp).2.2 j (by omega) (by omega)

theorem evalTo_len {l : List XNode} {vals : List Int} : ∀ k, (evalTo l vals k).length = k
  | 0 => rfl
  | k + 1 => by rw [evalTo, List.length_append, evalTo_len k]; rfl
theorem evalTo_get {l : List XNode} {vals : List Int} : ∀ {k j : Nat}, j < k → (evalTo l vals k).getD j 0 = nodeV vals (evalTo l vals j) (l.getD j default)
  | 0, j, h => by omega
  | k + 1, j, h => by
    have hl := evalTo_len (l := l) (vals := vals) k
    rw [evalTo, List.getD_eq_getElem?_getD]
    rcases Nat.lt_or_ge j k with h1 | h1
    · rw [List.getElem?_append_left (by omega), ← List.getD_eq_getElem?_getD]
      exact evalTo_get h1
    · obtain rfl : j = k := by omega
      rw [List.getElem?_append_right (by omega), hl, Nat.sub_self]
      rfl
def Kl (a b : Int) : Prop := (-1 ≤ a ∧ a ≤ 1) ∧ (-1 ≤ b ∧ b ≤ 1) ∧ (a = 0 ∨ a = b)
theorem nodeV_kl {vals vals' v v' : List Int} {x : XNode} (hn : vals.length = vals'.length) (hv : ∀ j : Nat, vals.getD j 0 = 0 ∨ vals.getD j 0 = vals'.getD j 0) (hr : ∀ j : Nat, -1 ≤ vals'.getD j 0 ∧ vals'.getD j 0 ≤ 1) (h : ∀ j : Nat, Kl (v.getD j 0) (v'.getD j 0)) : Kl (nodeV vals v x) (nodeV vals' v' x) := by
  have h1 := h x.left.toNat
  have h2 := h x.right.toNat
  rw [Kl] at h1 h2
  rw [nodeV, nodeV]
  split
  · have h3 := hv x.cond.toNat
    have h4 := hr x.cond.toNat
    rw [condV, condV, ← hn, Kl]
    split <;> split <;> omega
  split
  · rw [Kl]; omega
  split
  · rw [Kl]; omega
  · rw [Kl]; omega
theorem evalTo_kl {l : List XNode} {vals vals' : List Int} (hn : vals.length = vals'.length) (hv : ∀ j : Nat, vals.getD j 0 = 0 ∨ vals.getD j 0 = vals'.getD j 0) (hr : ∀ j : Nat, -1 ≤ vals'.getD j 0 ∧ vals'.getD j 0 ≤ 1) : ∀ k j : Nat, Kl ((evalTo l vals k).getD j 0) ((evalTo l vals' k).getD j 0)
  | 0, j => by rw [evalTo, evalTo]; simp [Kl]
  | k + 1, j => by
    have hl := evalTo_len (l := l) (vals := vals) k
    have hl' := evalTo_len (l := l) (vals := vals') k
    rcases Nat.lt_or_ge j (k + 1) with h1 | h1
    · rw [evalTo_get h1, evalTo_get h1]
      rcases Nat.lt_or_ge j k with h2 | h2
      · have := evalTo_kl (l := l) hn hv hr k j
        rw [evalTo_get h2, evalTo_get h2] at this
        exact this
      · obtain rfl : j = k := by omega
        exact nodeV_kl hn hv hr (evalTo_kl hn hv hr j)
    · have e1 : (evalTo l vals (k + 1)).length = k + 1 := evalTo_len _
      have e2 : (evalTo l vals' (k + 1)).length = k + 1 := evalTo_len _
      rw [List.getD_eq_getElem?_getD, List.getD_eq_getElem?_getD, List.getElem?_eq_none (by omega), List.getElem?_eq_none (by omega)]
      simp [Kl]
theorem nodeV_range {vals v : List Int} {x : XNode} (h : ∀ j : Nat, -1 ≤ v.getD j 0 ∧ v.getD j 0 ≤ 1) : -1 ≤ nodeV vals v x ∧ nodeV vals v x ≤ 1 := by
  have h1 := h x.left.toNat
  have h2 := h x.right.toNat
  rw [nodeV]
  split
  · rw [condV]; split <;> omega
  split
  · omega
  split <;> omega
theorem evalTo_range {l : List XNode} {vals : List Int} : ∀ k j : Nat, -1 ≤ (evalTo l vals k).getD j 0 ∧ (evalTo l vals k).getD j 0 ≤ 1
  | 0, j => by rw [evalTo]; simp
  | k + 1, j => by
    rcases Nat.lt_or_ge j (k + 1) with h1 | h1
    · rw [evalTo_get h1]
      rcases Nat.lt_or_ge j k with h2 | h2
      · have := evalTo_range (l := l) (vals := vals) k j
        rw [evalTo_get h2] at this
        exact this
      · obtain rfl : j = k := by omega
        exact nodeV_range (evalTo_range j)
    · have e1 : (evalTo l vals (k + 1)).length = k + 1 := evalTo_len _
      rw [List.getD_eq_getElem?_getD, List.getElem?_eq_none (by omega)]
      simp
end Go.Proofs.Ytkpfjmibipblhaa
end
section
/-
  Rules that are put together are right. Plain. By an AI agent; no person has read it.
-/
set_option linter.unusedSimpArgs false
set_option linter.unusedVariables false
namespace Go.Proofs.Ytkpfjmibipblhaa
open Go.Aw Go
def shN (n : Nat) (x : XNode) : XNode := ⟨x.kind, x.cond, if x.kind = 1 then x.left else x.left + n, if x.kind = 3 ∨ x.kind = 4 then x.right + n else x.right⟩
theorem getD_pre {l m : List XNode} {i : Nat} (h : i < l.length) : (l ++ m).getD i default = l.getD i default := by
  rw [List.getD_eq_getElem?_getD, List.getElem?_append_left h, ← List.getD_eq_getElem?_getD]
theorem partF_pre {a c : List XNode} : ∀ (n : Nat) (i f d : Int), i < a.length → partF a n i = some (f, d) → partF (a ++ c) n i = some (f, d)
  | 0, i, f, d, _, h => by rw [partF] at h; cases h
  | n + 1, i, f, d, hi, h => by
    rw [partF] at h ⊢
    split at h
    · cases h
    rename_i h0
    rw [if_neg h0, getD_pre (by omega)]
    split at h
    · rename_i h1; rw [if_pos h1]; exact h
    rename_i h1
    rw [if_neg h1]
    split at h
    · rename_i h2
      rw [if_pos h2]
      split at h
      · cases h
      rename_i f' d' hp
      rw [partF_pre n _ _ _ (by omega) hp]
      exact h
    rename_i h2
    rw [if_neg h2]
    split at h
    · rename_i h3
      rw [if_pos h3]
      split at h
      · cases h
      rename_i x y hp
      rw [partF_pre n _ _ _ (by omega) hp]
      dsimp only
      split at h
      · rename_i h4
        rw [if_pos h4]
        split at h
        · cases h
        rename_i x' y' hq
        have := (partF_ok _ _ _ _ hp).1
        rw [partF_pre n _ _ _ (by omega) hq]
        exact h
      · cases h
    · cases h
theorem getD_sh {a b c : List XNode} {i : Nat} (h : i < b.length) : (a ++ b.map (shN a.length) ++ c).getD (a.length + i) default = shN a.length (b.getD i default) := by
  rw [getD_pre (by simp; omega), List.getD_eq_getElem?_getD, List.getElem?_append_right (by omega), Nat.add_sub_cancel_left, List.getElem?_map, get_D (l := b) (k := i) default h]
  rfl
theorem partF_sh {a b c : List XNode} : ∀ (n : Nat) (i f d : Int), i < b.length → partF b n i = some (f, d) → partF (a ++ b.map (shN a.length) ++ c) n (a.length + i) = some (a.length + f, d)
  | 0, i, f, d, _, h => by rw [partF] at h; cases h
  | n + 1, i, f, d, hi, h => by
    rw [partF] at h ⊢
    split at h
    · cases h
    rename_i h0
    rw [if_neg (by omega), show ((a.length : Int) + i).toNat = a.length + i.toNat by omega, getD_sh (by omega)]
    generalize b.getD i.toNat default = x at h ⊢
    split at h
    · rename_i h1
      have e1 : (shN a.length x).kind = 1 := h1
      rw [if_pos e1]
      split at h
      · rename_i h2
        rw [if_pos (by rw [shN, if_pos h1, if_neg (by omega)]; exact h2)]
        cases h
        rfl
      · cases h
    rename_i h1
    have e1 : ¬ (shN a.length x).kind = 1 := h1
    rw [if_neg e1]
    split at h
    · rename_i h2
      have e2 : (shN a.length x).kind = 2 := h2
      rw [if_pos e2]
      split at h
      · cases h
      rename_i f' d' hp
      have ih := partF_sh (a := a) (c := c) n _ _ _ (by omega) hp
      rw [show (a.length : Int) + i - 1 = a.length + (i - 1) by omega, ih]
      dsimp only
      split at h
      · rename_i h3
        rw [if_pos (by rw [shN, if_neg h1, if_neg (by omega)]; dsimp only; omega)]
        cases h
        rfl
      · cases h
    rename_i h2
    have e2 : ¬ (shN a.length x).kind = 2 := h2
    rw [if_neg e2]
    split at h
    · rename_i h3
      have e3 : (shN a.length x).kind = 3 ∨ (shN a.length x).kind = 4 := h3
      rw [if_pos e3]
      split at h
      · cases h
      rename_i m r hp
      have ih := partF_sh (a := a) (c := c) n _ _ _ (by omega) hp
      rw [show (a.length : Int) + i - 1 = a.length + (i - 1) by omega, ih]
      dsimp only
      split at h
      · rename_i h4
        rw [if_pos (by rw [shN, if_neg h1, if_pos h3]; dsimp only; omega)]
        split at h
        · cases h
        rename_i f' q hq
        have := (partF_ok _ _ _ _ hp).1
        have ih2 := partF_sh (a := a) (c := c) n _ _ _ (by omega) hq
        rw [show (a.length : Int) + m - 1 = a.length + (m - 1) by omega, ih2]
        dsimp only
        cases h
        rfl
      · cases h
    · cases h
def lenB : Nat → Nat
  | 0 => 1
  | n + 1 => 2 * lenB n + 1
structure RuleD (conds : Nat) (dp : Nat) (l : List XNode) : Prop where
  len : 1 ≤ l.length ∧ l.length ≤ lenB dp
  part : ∃ d : Int, partF l l.length ((l.length : Int) - 1) = some (0, d) ∧ d ≤ dp + 1
  conds : ∀ x ∈ l, x.kind = 1 → x.cond < conds
  kind : ∀ x ∈ l, 1 ≤ x.kind ∧ x.kind ≤ 4
  small : ∀ x ∈ l, (0 ≤ x.left ∧ x.left ≤ l.length) ∧ 0 ≤ x.right ∧ x.right ≤ l.length
theorem lenB_pos : ∀ n, 1 ≤ lenB n
  | 0 => Nat.le_refl _
  | n + 1 => by rw [lenB]; omega
theorem RuleD.leaf {conds dp : Nat} {k : Int} (hk : 0 ≤ k ∧ k < conds) (hc : conds ≤ 64) : RuleD conds dp [⟨1, k, 0, 0⟩] := by
  have := lenB_pos dp
  refine ⟨by simp; omega, ⟨1, ?_, by omega⟩, fun x hx _ => ?_, fun x hx => ?_, fun x hx => ?_⟩
  · have e : partF [⟨1, k, 0, 0⟩] 1 0 = some (0, 1) := by
      have e0 : ([⟨1, k, 0, 0⟩] : List XNode).getD (0 : Int).toNat default = ⟨1, k, 0, 0⟩ := rfl
      rw [partF, if_neg (by omega), e0, if_pos (show (⟨1, k, 0, 0⟩ : XNode).kind = 1 from rfl), if_pos (show (⟨1, k, 0, 0⟩ : XNode).left = 0 ∧ (⟨1, k, 0, 0⟩ : XNode).right = 0 ∧ 0 ≤ (⟨1, k, 0, 0⟩ : XNode).cond ∧ (⟨1, k, 0, 0⟩ : XNode).cond < 64 from ⟨rfl, rfl, hk.1, (by show k < 64; omega)⟩)]
    exact e
  · rw [List.mem_singleton.1 hx]; exact hk.2
  · rw [List.mem_singleton.1 hx]; dsimp only; omega
  · rw [List.mem_singleton.1 hx]; dsimp only; simp
theorem RuleD.neg {conds dp : Nat} {a : List XNode} (ha : RuleD conds dp a) : RuleD conds (dp + 1) (a ++ [⟨2, 0, (a.length : Int) - 1, 0⟩]) := by
  have hl := ha.len
  obtain ⟨d, hp, hd⟩ := ha.part
  refine ⟨by rw [List.length_append, lenB]; simp; omega, ⟨d + 1, ?_, by omega⟩, fun x hx hk => ?_, fun x hx => ?_, fun x hx => ?_⟩
  · rw [List.length_append, List.length_singleton, partF]
    rw [if_neg (by omega)]
    have e : (a ++ [(⟨2, 0, (a.length : Int) - 1, 0⟩ : XNode)]).getD (((a.length + 1 : Nat) : Int) - 1).toNat default = ⟨2, 0, (a.length : Int) - 1, 0⟩ := by
      rw [show (((a.length + 1 : Nat) : Int) - 1).toNat = a.length by omega, List.getD_eq_getElem?_getD, List.getElem?_append_right (by omega), Nat.sub_self]; rfl
    rw [e, if_neg (show ¬ (2 : Int) = 1 by decide), if_pos (show (2 : Int) = 2 from rfl), show ((a.length + 1 : Nat) : Int) - 1 - 1 = (a.length : Int) - 1 by omega, partF_pre _ _ _ _ (by omega) hp]
    dsimp only
    rw [if_pos ⟨rfl, rfl, by omega⟩]
  · rcases List.mem_append.1 hx with h | h
    · exact ha.conds x h hk
    · rw [List.mem_singleton.1 h] at hk; cases hk
  · rcases List.mem_append.1 hx with h | h
    · exact ha.kind x h
    · rw [List.mem_singleton.1 h]; dsimp only; omega
  · rw [List.length_append, List.length_singleton]
    rcases List.mem_append.1 hx with h | h
    · have := ha.small x h; omega
    · rw [List.mem_singleton.1 h]; dsimp only; omega
theorem RuleD.two {conds dp : Nat} {a b : List XNode} {k : Int} (ha : RuleD conds dp a) (hb : RuleD conds dp b) (hk : k = 3 ∨ k = 4) :
    RuleD conds (dp + 1) (a ++ b.map (shN a.length) ++ [⟨k, 0, (a.length : Int) - 1, ((a.length + b.length : Nat) : Int) - 1⟩]) := by
  have hl := ha.len
  have hl2 := hb.len
  obtain ⟨d, hp, hd⟩ := ha.part
  obtain ⟨d2, hp2, hd2⟩ := hb.part
  have hlen : (a ++ b.map (shN a.length) ++ [(⟨k, 0, (a.length : Int) - 1, ((a.length + b.length : Nat) : Int) - 1⟩ : XNode)]).length = a.length + b.length + 1 := by simp; omega
  refine ⟨by rw [hlen, lenB]; omega, ⟨max d d2 + 1, ?_, by omega⟩, fun x hx hk1 => ?_, fun x hx => ?_, fun x hx => ?_⟩
  · rw [hlen, partF, if_neg (by omega)]
    have e : (a ++ b.map (shN a.length) ++ [(⟨k, 0, (a.length : Int) - 1, ((a.length + b.length : Nat) : Int) - 1⟩ : XNode)]).getD (((a.length + b.length + 1 : Nat) : Int) - 1).toNat default = ⟨k, 0, (a.length : Int) - 1, ((a.length + b.length : Nat) : Int) - 1⟩ := by
      rw [show (((a.length + b.length + 1 : Nat) : Int) - 1).toNat = a.length + b.length by omega, List.getD_eq_getElem?_getD, List.getElem?_append_right (by simp), show a.length + b.length - (a ++ b.map (shN a.length)).length = 0 by simp]; rfl
    rw [e, if_neg (by dsimp only; omega), if_neg (by dsimp only; omega), if_pos hk]
    have p1 := partF_sh (a := a) (c := [(⟨k, 0, (a.length : Int) - 1, ((a.length + b.length : Nat) : Int) - 1⟩ : XNode)]) _ _ _ _ (by omega) hp2
    have p2 := partF_pre (c := b.map (shN a.length) ++ [(⟨k, 0, (a.length : Int) - 1, ((a.length + b.length : Nat) : Int) - 1⟩ : XNode)]) _ _ _ _ (by omega) hp
    rw [← List.append_assoc] at p2
    rw [show ((a.length + b.length + 1 : Nat) : Int) - 1 - 1 = (a.length : Int) + ((b.length : Int) - 1) by omega, partF_mono _ (a.length + b.length) _ _ (by omega) p1]
    dsimp only
    rw [if_pos ⟨rfl, by omega, by omega⟩, show (a.length : Int) + 0 - 1 = (a.length : Int) - 1 by omega, partF_mono _ (a.length + b.length) _ _ (by omega) p2]
  · rcases List.mem_append.1 hx with h | h
    · rcases List.mem_append.1 h with h | h
      · exact ha.conds x h hk1
      · obtain ⟨y, hy, rfl⟩ := List.mem_map.1 h
        exact hb.conds y hy hk1
    · rw [List.mem_singleton.1 h] at hk1; dsimp only at hk1; omega
  · rcases List.mem_append.1 hx with h | h
    · rcases List.mem_append.1 h with h | h
      · exact ha.kind x h
      · obtain ⟨y, hy, rfl⟩ := List.mem_map.1 h
        exact hb.kind y hy
    · rw [List.mem_singleton.1 h]; dsimp only; omega
  · rw [hlen]
    rcases List.mem_append.1 hx with h | h
    · rcases List.mem_append.1 h with h | h
      · have := ha.small x h; omega
      · obtain ⟨y, hy, rfl⟩ := List.mem_map.1 h
        have := hb.small y hy
        rw [shN]; dsimp only
        constructor <;> split <;> omega
    · rw [List.mem_singleton.1 h]; dsimp only; omega
theorem RuleD.right {conds : Nat} {l : List XNode} (h : RuleD conds 2 l) : rightR l = true := by
  obtain ⟨d, hp, hd⟩ := h.part
  have hl := h.len
  have e : lenB 2 = 7 := rfl
  exact rightR_iff.2 ⟨by omega, d, hp, by omega⟩
theorem RuleD.err {conds : Nat} {l : List XNode} (h : RuleD conds 2 l) : ruleErr l conds = 0 := by
  rw [ruleErr, if_neg (by rw [h.right]; decide), if_neg]
  rintro ⟨x, hx, hk, hc⟩
  have := h.conds x hx hk
  omega
end Go.Proofs.Ytkpfjmibipblhaa
end
section
/-
  Sites without errors. Plain. By an AI agent; no person has read it.
-/
set_option linter.unusedSimpArgs false
set_option linter.unusedVariables false
namespace Go.Proofs.Ytkpfjmibipblhaa
open Go.Aw Go
theorem nzO_zero {e : Int} (h : nzO e = none) : e = 0 := by
  rw [nzO] at h
  split at h
  · assumption
  · cases h
theorem nzO_ne {e x : Int} (h : nzO e = some x) : x ≠ 0 := by
  rw [nzO] at h
  split at h
  · cases h
  · cases h; assumption
structure SiteOk (s : XSite) : Prop where
  air : airErr s.air = 0
  len : s.sensors.l.length ≤ 64 ∧ s.conds.l.length ≤ 64 ∧ s.zones.l.length ≤ 16 ∧ s.persons.l.length ≤ 64
  sens : ∀ i : Nat, i < s.sensors.l.length → sensAt s.air s.sensors.l i = none
  cond : ∀ c ∈ s.conds.l, condErr s.sensors.l s.air.mine.roads.l.length c = 0
  zone : ∀ z ∈ s.zones.l, zoneErr s.conds.l.length s.air.mine.roads.l.length z = 0
  pers : ∀ p ∈ s.persons.l, 1 ≤ p ∧ p ≤ 3
theorem sensAt_ne {a : XAir} {S : List XSens} {i : Nat} {e : Int} (h : sensAt a S i = some e) : e ≠ 0 := by
  rw [sensAt] at h
  split at h
  · cases h; assumption
  split at h
  · cases h; decide
  split at h
  · cases h; decide
  · cases h
theorem siteOk_of {s : XSite} (h : siteErr s = 0) : SiteOk s := by
  rw [siteErr] at h
  split at h
  · omega
  split at h
  · omega
  split at h
  · omega
  split at h
  · omega
  split at h
  · omega
  rename_i h1 h2 h3 h4 h5
  refine ⟨by omega, by omega, fun i hi => ?_, fun c hc => ?_, fun z hz => ?_, fun p hp => ?_⟩
  · have h3' : sensorsErr s.air s.sensors.l = 0 := by omega
    exact findSome_zero (f := sensAt s.air s.sensors.l) (fun x e hx => sensAt_ne hx) h3' i (List.mem_range.2 hi)
  · have h4' : condsErr s = 0 := by omega
    exact nzO_zero (findSome_zero (f := fun c => nzO (condErr s.sensors.l s.air.mine.roads.l.length c)) (fun x e hx => nzO_ne hx) h4' c hc)
  · have h5' : zonesErr s = 0 := by omega
    exact nzO_zero (findSome_zero (f := fun z => nzO (zoneErr s.conds.l.length s.air.mine.roads.l.length z)) (fun x e hx => nzO_ne hx) h5' z hz)
  · have := findSome_zero (f := fun p : Int => if p < 1 ∨ 3 < p then some 19 else none) (fun x e hx => by
      split at hx
      · cases hx; decide
      · cases hx) h p hp
    split at this
    · cases this
    · omega
theorem findSome_no {α β : Type} {f : α → Option β} {l : List α} (h : ∀ x ∈ l, f x = none) : l.findSome? f = none := List.findSome?_eq_none_iff.2 h
theorem SiteOk.err {s : XSite} (h : SiteOk s) : siteErr s = 0 := by
  have h1 := h.air
  have h2 := h.len
  have e1 : sensorsErr s.air s.sensors.l = 0 := by rw [sensorsErr, findSome_no (fun i hi => h.sens i (List.mem_range.1 hi))]; rfl
  have e2 : condsErr s = 0 := by rw [condsErr, findSome_no (fun c hc => by rw [nzO, if_pos (h.cond c hc)])]; rfl
  have e3 : zonesErr s = 0 := by rw [zonesErr, findSome_no (fun z hz => by rw [nzO, if_pos (h.zone z hz)])]; rfl
  have e4 : personsErr s = 0 := by rw [personsErr, findSome_no (fun p hp => if_neg (by have := h.pers p hp; omega))]; rfl
  rw [siteErr, if_neg (by omega), if_neg (by omega), if_neg (by omega), if_neg (by omega), if_neg (by omega), e4]
theorem condErr_facts {S : List XSens} {n : Nat} {c : XCond} (h : condErr S n c = 0) : (1 ≤ c.kind ∧ c.kind ≤ 5) ∧ (0 ≤ c.value ∧ c.value ≤ 1099511627776) ∧ (c.kind = 1 → LevelOk c.level) ∧
    (c.kind = 5 → 0 ≤ c.target ∧ c.target < n) ∧ (c.kind ≠ 5 → 0 ≤ c.target ∧ c.target < S.length) ∧ (c.kind = 3 → (S.getD c.target.toNat default).kind = 5) := by
  rw [condErr] at h
  split at h
  · omega
  rename_i h1
  split at h
  · omega
  rename_i h2
  have h3 : condBase S n c = 0 := by omega
  have h4 : c.kind = 1 → LevelOk c.level := fun hk => by
    rw [if_pos hk, levelErr] at h
    split at h
    · assumption
    · omega
  rw [condBase] at h3
  split at h3
  · split at h3
    · exact ⟨by omega, by omega, h4, by omega, by omega, by omega⟩
    · omega
  split at h3
  · split at h3
    · rename_i h5
      exact ⟨by omega, by omega, h4, by omega, by omega, fun _ => h5.2⟩
    · omega
  split at h3
  · split at h3
    · exact ⟨by omega, by omega, h4, by omega, by omega, by omega⟩
    · omega
  · omega
structure WrO {α : Type} (l0 : List α) (g : Nat → α) (i : Nat) (l : List α) : Prop where
  len : l.length = l0.length
  don : ∀ j : Nat, j < i → l[j]? = some (g j)
  old : ∀ j : Nat, i ≤ j → l[j]? = l0[j]?
theorem WrO.zero {α : Type} {l0 : List α} {g : Nat → α} : WrO l0 g 0 l0 := ⟨rfl, fun j hj => by omega, fun j _ => rfl⟩
theorem WrO.next {α : Type} {l0 : List α} {g : Nat → α} {i : Nat} {l : List α} (h : WrO l0 g i l) (hi : i < l0.length) {x : α} (hx : x = g i) : WrO l0 g (i + 1) (l.set i x) := by
  have hl := h.len
  refine ⟨by simp [hl], fun j hj => ?_, fun j h1 => ?_⟩
  · rw [List.getElem?_set]
    split
    · rename_i e; rw [if_pos (by omega), hx, e]
    · exact h.don j (by omega)
  · rw [List.getElem?_set_ne (by omega)]
    exact h.old j (by omega)
theorem WrO.stay {α : Type} {l0 : List α} {g : Nat → α} {i : Nat} {l : List α} (h : WrO l0 g i l) (hx : l0[i]? = some (g i)) : WrO l0 g (i + 1) l := by
  refine ⟨h.len, fun j hj => ?_, fun j h1 => h.old j (by omega)⟩
  rcases Nat.lt_or_ge j i with h1 | h1
  · exact h.don j h1
  · obtain rfl : j = i := by omega
    rw [h.old j (Nat.le_refl _), hx]
theorem WrO.done {α : Type} {l0 : List α} {g : Nat → α} {l : List α} (h : WrO l0 g l0.length l) : l = (List.range l0.length).map g := by
  have hl := h.len
  refine List.ext_getElem? fun j => ?_
  rcases Nat.lt_or_ge j l0.length with hj | hj
  · rw [h.don j hj, List.getElem?_map, List.getElem?_range hj]; rfl
  · rw [List.getElem?_eq_none (by omega), List.getElem?_eq_none (by simp; omega)]
end Go.Proofs.Ytkpfjmibipblhaa
end
section
/-
  The draws of chapter 13: spans near flows, faces, sensors. By an AI agent; no person has read it.
-/
set_option linter.unusedSimpArgs false
set_option linter.unusedVariables false
namespace Go.Proofs.Ytkpfjmibipblhaa
open Go.Aw Go
set_option maxRecDepth 20000
attribute [local irreducible] CJ LJ DJ Tri YV Gives seqK blockK loopK retK RV mergeK OwL.L

section
variable {A9 B9 : Prop}
theorem ybhaa (a : A9) (h : A9 → B9 := by exact DJ3_q (by first | exact yv_index_ro tb rfl rfl rfl rfl (by first | assumption | exact zr (by simp)) (i := i) (by first | rfl | omega | (simp; omega)) (by omega) | exact yv_index tb rfl rfl rfl rfl (i := i) (by first | rfl | omega | (simp; omega)) (by omega)) rfl rfl rfl rfl) : B9 := h a
theorem ybhab (a : A9) (h : A9 → B9 := by exact LJ_q (yv_loadN (row := [_, _, _, _, _, _, _, _]) tb rfl rfl rfl (by repeat (first | exact zi0 | apply zi1 | apply zi2)) (by rfl) (by rfl)) rfl) : B9 := h a
end
structure NearF (fl : List Int) (n : Nat) (l : List XSpan) : Prop where
  len : l.length = n
  at_ : ∀ (i : Nat) (s : XSpan), l[i]? = some s → (s.low ≤ fl.getD i 0 ∧ fl.getD i 0 ≤ s.high) ∧ fl.getD i 0 - 11 ≤ s.low ∧ s.high ≤ fl.getD i 0 + 11
theorem NearF.next {fl : List Int} {n : Nat} {l : List XSpan} (h : NearF fl n l) {s : XSpan} (hs : (s.low ≤ fl.getD n 0 ∧ fl.getD n 0 ≤ s.high) ∧ fl.getD n 0 - 11 ≤ s.low ∧ s.high ≤ fl.getD n 0 + 11) : NearF fl (n + 1) (l ++ [s]) := by
  refine ⟨by simp [h.len], fun i t ht => ?_⟩
  rcases Nat.lt_or_ge i n with hi | hi
  · rw [List.getElem?_append_left (by rw [h.len]; exact hi)] at ht
    exact h.at_ i t ht
  · rw [List.getElem?_append_right (by rw [h.len]; exact hi), h.len] at ht
    obtain rfl : i = n := by
      rcases Nat.lt_or_ge (i - n) 1 with h1 | h1
      · omega
      · rw [List.getElem?_eq_none (by simpa using h1)] at ht; cases ht
    rw [Nat.sub_self] at ht
    cases ht
    exact hs
theorem drawSpans_tri (c : Nat) (x : Arr Int) (k : Nat) (fl : Arr Int) (R : List Sl) (hx : CodesR x R) (hk : k ≤ x.l.length) (hfl : InR (isl fl) R) (hb : ∀ q ∈ fl.l, -1000000000 ≤ q ∧ q ≤ 1000000000) (hn : fl.l.length ≤ 1000) :
    Tri Try.prog 19 [.pointer (some ⟨c, 0, none⟩), fl.val].toArray [cblk c x k] R
      (fun v L' R' => ∃ (p : OwL XSpan) (k' : Nat), v = p.val ∧ p.ok 2 XSpan.cells ∧ NearF fl.l fl.l.length p.l ∧ k' ≤ x.l.length ∧ p.L 59 XSpan.cells ++ (cblk c x k' :: []) = L' ∧ R = R') := by
  refine tri_enter 32 Try.call19 Try.func19 rfl rfl rfl ?_
  refine qae ?_
  refine qc4 ?_
  refine qam ?_
  refine qc4 ?_
  refine qaw ?_
  refine qad ?_
  refine qa2 ?_
  refine CJ_forget [(0, Value.pointer _), (1, Value.slice _ _ _), (5, Value.slice _ _ _), (6, Value.int _ _)] (by repeat' (first | exact trivial | refine And.intro rfl ?_)) fun tq0 => ?_
  refine CJ_loop [5, 6, 7, 8, 9, 10, 11, 12, 13, 14, 15, 16, 17, 18, 19, 20, 21, 22, 23, 24, 25, 26, 27, 28, 29, 30] ((⟨fun g => [(5, g.1.2.2.val), (6, .int .i64 ((g.1.2.1 : Nat) : Int))], fun g => g.1.2.2.L 59 XSpan.cells ++ (cblk c x g.1.1 :: []), fun _ => R, fun g => fl.l.length - g.1.2.1⟩ : Head {g : Nat × Nat × OwL XSpan // g.1 ≤ x.l.length ∧ g.2.1 ≤ fl.l.length ∧ g.2.2.ok 2 XSpan.cells ∧ NearF fl.l g.2.1 g.2.2.l})) (⟨(k, 0, OwL.nil), hk, by dsimp only; omega, OwL.nil_ok, ⟨rfl, fun i s hs => by cases hs⟩⟩) (by repeat' (first | exact trivial | refine And.intro rfl ?_)) (by dsimp only; rw [nil_L, List.nil_append]; exact List.Sublist.refl _) (allR_self _) ?_
  rintro ⟨⟨kk, i, p⟩, hkk, hi, hpk, hN⟩ junk
  try dsimp only
  dsimp only at hkk hi hpk hN
  have hpl := hN.len
  refine qbi ?_
  refine qaa ?_
  refine qbm ?_
  refine qag ?_
  refine qaj ?_
  refine qaf ?_
  refine q_c (fun hc0 => ?_) (fun hc0 => ?_)
  ·
   have hg := get_D (l := fl.l) (k := i) 0 (by omega)
   have hqb := hb _ (List.mem_of_getElem? hg)
   refine CJ_skip (seqK_normal (CJ_seq (CJ_block ?_)))
   refine CJ_drawn2 tb [] [0, 1, 2, 3, 4, 5, 8, 9, 10, 11, 12, 6, 7, 13, 14, 15, 16] [17, 18] ([]) _ mixed (by kernel_rfl) (by repeat (first | exact zs0 _ | exact zs1 _ | apply zs2 | apply zs3 | apply zs4 | apply zs5)) (List.nil_sublist _) ?_
   refine qct ?_
   refine qct ?_
   refine qbf ?_
   refine ybhaa ?_
   refine qci ?_
   refine qb3 ?_
   refine qct ?_
   refine qbf ?_
   refine ybhaa ?_
   refine qci ?_
   refine qb3 ?_
   refine DJ3_call rfl (next1 (by repeat (first | apply USeg.here | apply USeg.cons | apply USeg.app)) hx hkk (by omega)) rfl rfl ?_
   rintro v L' R' ⟨r1, k1, rfl, g1, g1', g1'', hk1, rfl, rfl⟩
   refine qas ?_
   have g1q := g1' (by omega)
   refine qcc ?_
   refine DJ3_call rfl (next1 (by repeat (first | apply USeg.here | apply USeg.cons | apply USeg.app)) hx hk1 (by omega)) rfl rfl ?_
   rintro v L' R' ⟨r2, k2, rfl, g2, g2', g2'', hk2, rfl, rfl⟩
   refine qas ?_
   have g2q := g2' (by omega)
   refine qcj ?_
   refine qcw ?_
   refine DJ3_g (gives_buildSlice (qs := [(0, (Value.agg _).cells.toList)]) (out := [_, _]) tb rfl rfl rfl rfl rfl rfl rfl) rfl rfl rfl ?_
   rintro v L' R' ⟨b29, rfl, rfl, hR29⟩
   replace hR29 := hR29.symm; subst hR29
   refine qa1 ?_
   refine qba ?_
   refine DJ_g (gives_append1 (f := XSpan.cells) (p := p) (a := ⟨fl.l.getD i 0 - r1, fl.l.getD i 0 + r2⟩) tb rfl rfl rfl rfl (hpk) (by repeat (first | apply OSeg.cons | exact OSeg.here | exact OSeg.last | exact OSeg.at (by assumption) | apply OSeg.app)) (shown_own (by repeat (first | exact zi0 | apply zi1 | apply zi2)) rfl rfl) rfl (by first | omega | (simp only [List.length_cons, List.length_nil, List.length_append]; omega))) rfl rfl rfl ?_
   rintro v L' R' ⟨o30, rfl, hok30, rfl, rfl⟩
   refine qa1 ?_
   refine DJ_q (yv_assign (show _ = Value.slice _ _ _ from rfl)) rfl rfl rfl ?_
   refine qby ?_
   refine qaa ?_
   refine qar ?_
   refine qad ?_
   refine qav ?_
   exact q_k ⟨(k2, i + 1, _), hk2, by dsimp only; omega, hok30, hN.next (by dsimp only; omega)⟩
  obtain rfl : i = fl.l.length := by omega
  refine qbk ?_
  refine qbm ?_
  refine qc4 ?_
  refine qa0 ?_
  refine q_r (L' := p.L 59 XSpan.cells ++ (cblk c x kk :: [])) (R' := R) (res1 rfl (rv_tmp (show _ = Value.slice _ _ _ from rfl))) ?_
  exact ⟨p, kk, rfl, hpk, hN, hkk, rfl, rfl⟩

theorem stately_tri (k : Int) (L : List Blk) (R : List Sl) :
    Tri Try.prog 61 [.int .i64 k].toArray L R (fun v L' R' => v = .bool (decide (4 ≤ k)) ∧ L = L' ∧ R = R') := by
  refine tri_enter 5 Try.call61 Try.func61 rfl rfl rfl ?_
  refine qae ?_
  refine qaz ?_
  refine qam ?_
  refine qaa ?_
  refine qbz ?_
  refine qaz ?_
  refine qa0 ?_
  refine q_b (L' := L) (R' := R) ?_
  exact ⟨rfl, rfl, rfl⟩
structure SensD (kind address target : Int) (s : XSens) : Prop where
  kind : s.kind = kind
  address : s.address = address
  target : s.target = target
  offset : -50 ≤ s.offset ∧ s.offset ≤ 20
  scale : 300 ≤ s.scale ∧ s.scale ≤ 2000
  error : 0 ≤ s.error ∧ s.error ≤ 5
  drift : 0 ≤ s.drift ∧ s.drift ≤ 699
  life : 1 ≤ s.life ∧ s.life ≤ 200
theorem drawSensor_tri (c : Nat) (x : Arr Int) (k : Nat) (kind address target : Int) (R : List Sl) (hx : CodesR x R) (hk : k ≤ x.l.length) :
    Tri Try.prog 49 [.pointer (some ⟨c, 0, none⟩), .int .i64 kind, .int .i64 address, .int .i64 target].toArray [cblk c x k] R
      (fun v L' R' => ∃ (s : XSens) (k' : Nat), v = s.val ∧ SensD kind address target s ∧ k' ≤ x.l.length ∧ cblk c x k' :: [] = L' ∧ R = R') := by
  refine tri_enter 32 Try.call49 Try.func49 rfl rfl rfl ?_
  refine qae ?_
  refine qaq ?_
  intro b8
  refine qam ?_
  iterate 3 refine qaa ?_
  refine qa6 ?_
  refine LJ_call rfl (range1 (by repeat (first | apply USeg.here | apply USeg.cons | apply USeg.app)) hx hk (by omega)) rfl ?_
  rintro v L' R' ⟨r1, k1, rfl, g1, g1', hk1, rfl, rfl⟩
  refine LJ_q (yv_build (qs := [(1, (Value.int _ _).cells.toList), (0, (Value.int _ _).cells.toList), (2, (Value.int _ _).cells.toList), (4, (Value.int _ _).cells.toList), (7, (Value.int _ _).cells.toList)]) (out := [_, _, _, _, _, _, _, _]) tb rfl rfl rfl rfl) rfl ?_
  refine qaq ?_
  intro b9
  refine qak ?_
  refine qaw ?_
  refine qaa ?_
  refine q_l rfl (stately_tri _ _ _) ?_
  refine qb4 ?_
  refine qaf ?_
  refine q_c (fun hc0 => ?_) (fun hc0 => ?_)
  ·
   refine qae ?_
   refine qa6 ?_
   refine LJ_call rfl (range1 (by repeat (first | apply USeg.here | apply USeg.cons | apply USeg.app)) hx hk1 (by omega)) rfl ?_
   rintro v L' R' ⟨r2, k2, rfl, g2, g2', hk2, rfl, rfl⟩
   refine qa6 ?_
   refine LJ_call rfl (range1 (by repeat (first | apply USeg.here | apply USeg.cons | apply USeg.app)) hx hk2 (by omega)) rfl ?_
   rintro v L' R' ⟨r3, k3, rfl, g3, g3', hk3, rfl, rfl⟩
   refine qab ?_
   refine qcn ?_
   refine qab ?_
   refine qcn ?_
   refine LJ_nil (seqK_normal (CJ_region ?_))
   refine qa6 ?_
   refine LJ_call rfl (next1 (by repeat (first | apply USeg.here | apply USeg.cons | apply USeg.app)) hx hk3 (by omega)) rfl ?_
   rintro v L' R' ⟨r4, k4, rfl, g4, g4', g4'', hk4, rfl, rfl⟩
   have g4q := g4' (by omega)
   refine qa6 ?_
   refine LJ_call rfl (next1 (by repeat (first | apply USeg.here | apply USeg.cons | apply USeg.app)) hx hk4 (by omega)) rfl ?_
   rintro v L' R' ⟨r5, k5, rfl, g5, g5', g5'', hk5, rfl, rfl⟩
   have g5q := g5' (by omega)
   refine qab ?_
   refine qcn ?_
   refine qab ?_
   refine qcn ?_
   refine qam ?_
   refine ybhab ?_
   refine qak ?_
   refine qa0 ?_
   refine q_r (L' := [cblk c x k5]) (R' := R) (res1 rfl (rv_cell (row := [_, _, _, _, _, _, _, _]) tb rfl rfl rfl (by repeat (first | exact zi0 | apply zi1 | apply zi2)) (by rfl) (by rfl))) ?_
   exact ⟨⟨address, kind, target, r2, r3, r4, r5, r1⟩, k5, rfl, ⟨rfl, rfl, rfl, by dsimp only; omega, by dsimp only; omega, by dsimp only; omega, by dsimp only; omega, by dsimp only; omega⟩, hk5, rfl, rfl⟩
  refine qbv ?_
  refine ybhab ?_
  refine qak ?_
  refine qa0 ?_
  refine q_r (L' := [cblk c x k1]) (R' := R) (res1 rfl (rv_cell (row := [_, _, _, _, _, _, _, _]) tb rfl rfl rfl (by repeat (first | exact zi0 | apply zi1 | apply zi2)) (by rfl) (by rfl))) ?_
  exact ⟨⟨address, kind, target, 0, 1000, 0, 0, r1⟩, k1, rfl, ⟨rfl, rfl, rfl, by dsimp only; omega, by dsimp only; omega, by dsimp only; omega, by dsimp only; omega, by dsimp only; omega⟩, hk1, rfl, rfl⟩
end Go.Proofs.Ytkpfjmibipblhaa
end
section
/-
  Appending nothing. By an AI agent; no person has read it.
-/
set_option linter.unusedSimpArgs false
set_option linter.unusedVariables false
namespace Go.Proofs.Ytkpfjmibipblhaa
open Go.Aw Go
section
variable {P : Program} {ρ : Operand → Value} {L : List Blk} {R : List Sl} {dst : Option Tmp} {ty : TypeId} {pos : String} {after : Array Edge} {guard : Option (Nat × Bool)} (tb : Tabs P) {T : TypeId} {x y : Operand}
end
theorem all_flat {α : Type} {f : α → List Value} (h1 : ∀ x, (f x).all (·.oneCell') = true) : ∀ l : List α, (l.flatMap f).all (·.oneCell') = true
  | [] => rfl
  | x :: l => by rw [List.flatMap_cons, List.all_append, h1 x, all_flat h1 l]; rfl
theorem shown_ow {α : Type} {f : α → List Value} {wd : Nat} {T' : TypeId} {q : OwL α} {L : List Blk} {R : List Sl} (hf : ∀ x, (f x).length = wd) (hok : q.ok wd f) (hin : InB (q.L T' f) L) (hm : 0 < q.l.length) : Shown L R q.val q.l.length wd (q.l.flatMap f) := by
  obtain ⟨g, cap, spare, ho⟩ := OwL.own_of hok hm
  refine ⟨⟨g, 0, none⟩, cap, by rw [OwL.val, ho]; rfl, rows_length hf q.l, fun c w hst j u hj => ?_⟩
  have hmem : (⟨g, q.l.flatMap f ++ spare, T'⟩ : Blk) ∈ L := hin _ (by rw [OwL.L, ho]; simp [Ow.L])
  rw [add_none, Nat.zero_add, cell_own hst hmem]
  rw [List.getElem?_append_left (List.getElem?_eq_some_iff.1 hj).1]
  exact hj
section
variable {P : Program} {ρ : Operand → Value} {L : List Blk} {R : List Sl} {dst : Option Tmp} {ty : TypeId} {pos : String} {after : Array Edge} {guard : Option (Nat × Bool)} (tb : Tabs P) {T : TypeId} {x y : Operand}
theorem gives_appendN {α : Type} {e n fl bt z k2 n2 fl2 bt2 z2} {f : α → List Value} (p q : OwL α) {T' : TypeId} {F : OwL α → List Blk} (hT : getT tb.tab T = some ⟨.slice e, n, fl, bt, z⟩) (hE : getT tb.tab e = some ⟨k2, n2, fl2, bt2, z2⟩) (hn2 : z2.length = n2)
    (hx : ρ x = p.val) (hy : ρ y = q.val) (hok : p.ok n2 f) (hokq : q.ok n2 f) (hf : ∀ x, (f x).length = n2) (hseg : OSeg e f p L F) (hB : InB (q.L T' f) L) (hm : 0 < q.l.length) (h1 : ∀ x, (f x).all (·.oneCell') = true) (hby : (p.l.length + q.l.length) * (bt2 + 1) ≤ 140737488355328) :
    Gives P ⟨dst, .call ⟨.builtin .append, #[x, y], #[T, T]⟩, ty, pos, after, guard⟩ ρ L R (fun v L' R' => ∃ o : Ow, v = (⟨o, p.l ++ q.l⟩ : OwL α).val ∧ (⟨o, p.l ++ q.l⟩ : OwL α).ok n2 f ∧ F ⟨o, p.l ++ q.l⟩ = L' ∧ R = R') := by
  have hsh : Shown L R q.val q.l.length n2 (q.l.flatMap f) := shown_ow hf hokq hB hm
  rw [← hy] at hsh
  obtain ⟨A, B, hL, hF⟩ := hseg.split
  subst hL
  have hb1 : (p.l.length + q.l.length) * bt2 ≤ 140737488355328 := Nat.le_trans (Nat.mul_le_mul_left _ (Nat.le_succ _)) hby
  have hb2 : p.l.length + q.l.length ≤ 140737488355328 := Nat.le_trans (Nat.le_mul_of_pos_right _ (Nat.succ_pos _)) hby
  have hx' : ρ x = p.o.val p.l.length := by rw [hx, Ow.val_of_ok hok]; rfl
  have := gives_append (dst := dst) (ty := ty) (pos := pos) (after := after) (guard := guard) tb hT hE hn2 hx' hok (seg_mid A _ B) hsh hm (all_flat h1 _) (by omega) hb1
  intro c w hst ac next Q kk
  refine this c w hst ac next Q ?_
  rintro v L' R' w' ⟨g, cap, spare, rfl, hok', rfl, rfl⟩ hst'
  have e : p.l.flatMap f ++ q.l.flatMap f = (p.l ++ q.l).flatMap f := by simp
  rw [e] at hok'
  have hl : (p.l ++ q.l).length = p.l.length + q.l.length := by simp
  refine kk _ _ _ w' ⟨.own g cap spare, ?_, ?_, ?_, rfl⟩ hst'
  · rw [OwL.val]; dsimp only; rw [hl]; rfl
  · rw [OwL.ok]; dsimp only; rw [hl]; exact hok'
  · rw [hF, OwL.L]; dsimp only; rw [← e]
end
def joinPK {γ : Type} (ws : List Nat) (t0 : Nat → Value) (hd : Head γ) (Q : TPost) : TPost
  | .normal, t, L, R => ∃ g, Off ws t0 t ∧ Shows t (hd.slots g) ∧ (∃ L1, L.Perm L1 ∧ (hd.L g).Sublist L1) ∧ ∀ r ∈ hd.R g, InR r R
  | e, t, L, R => Q e t L R
theorem joinPK_mk {γ : Type} {ws : List Nat} {t0 t : Nat → Value} {L L1 : List Blk} {R : List Sl} {hd : Head γ} {Q : TPost} (g : γ) (ho : Off ws t0 t) (hs : Shows t (hd.slots g)) (hp : L.Perm L1) (hL : (hd.L g).Sublist L1) (hR : ∀ r ∈ hd.R g, InR r R) : joinPK ws t0 hd Q .normal t L R := ⟨g, ho, hs, ⟨L1, hp, hL⟩, hR⟩
theorem CJ_permL {P n code t L L' R} {Q : TPost} (hp : L.Perm L') (h : CJ P n code t L' R Q) : CJ P n code t L R Q := CJ_turn fun _ _ hst => ⟨_, _, hst.perm hp, h⟩
theorem CJ_joinP {γ : Type} {P n x y t L R} {Q : TPost} (ws : List Nat) (hd : Head γ) (h : CJ P n x t L R (joinPK ws t hd Q)) (k : ∀ g junk, CJ P n y (updL (havoc ws t junk) (hd.slots g)) (hd.L g) (hd.R g) Q) : CJ P n x t L R (seqK P n y Q) := by
  intro c a w hf hs
  refine wp_mono (h c a w hf hs) ?_
  rintro e a w ⟨hnp, t', L', R', hq, hf', hs'⟩
  cases e with
  | normal =>
    obtain ⟨g, ho, hsh, ⟨L1, hp, hL⟩, hR⟩ := hq
    have e : updL (havoc ws t t') (hd.slots g) = t' := by rw [havoc_eq_self ho, updL_of_shows hsh]
    refine ⟨trivial, t', L', R', ?_, hf', hs'⟩
    have := k g t'
    rw [e] at this
    exact CJ_permL hp (CJ_weak hL hR this)
  | _ => exact ⟨hnp, t', L', R', hq, hf', hs'⟩
theorem gives_callL {P : Program} {dst : Option Tmp} {f : FuncId} {xs : List Operand} {ts : Array TypeId} {pos : String} {after : Array Edge} {guard : Option (Nat × Bool)} {ty : TypeId} {t : Nat → Value} {L : List Blk} {R : List Sl} {args : List Value} {Post : VPost} (ha : xs.map (ev t) = args)
    (h : Tri P f args.toArray L R Post) : Gives P ⟨dst, .call ⟨.value (.func f), xs.toArray, ts⟩, ty, pos, after, guard⟩ (ev t) L R Post :=
  gives_call (by rw [← ha]; simp) rfl h
theorem YV.gives2 {P op ρ L R v} (h : YV P op ρ L R v) : Gives P op ρ L R (fun v' L' R' => v' = v ∧ L = L' ∧ R = R') := by
  intro c w hs a next Q k
  rw [h c w hs]
  exact k v L R w ⟨rfl, rfl, rfl⟩ hs
theorem CJ_frzS {α : Type} {P n code t L R} {Q : TPost} {T : TypeId} {f : α → List Value} {wd : Nat} (p : OwL α) (subs : List Sl) {F : OwL α → List Blk} (hseg : OSeg T f p L F) (hf : ∀ x, (f x).length = wd) (hwd : 0 < wd) (hok : p.ok wd f) (hs : ∀ s ∈ subs, InR s R)
    (h : CJ P n code t (F OwL.nil) (p.arr.sl wd f subs :: R) Q) : CJ P n code t L R Q := by
  obtain ⟨A, B, hL, hF⟩ := hseg.split
  rw [hF] at h
  rw [hL, List.append_assoc]
  refine CJ_frz1 subs hf hwd hok hs ?_
  have e : A ++ (OwL.nil : OwL α).L T f ++ B = A ++ B := by rw [nil_L, List.append_nil]
  rw [← e]
  exact h
end Go.Proofs.Ytkpfjmibipblhaa
end
