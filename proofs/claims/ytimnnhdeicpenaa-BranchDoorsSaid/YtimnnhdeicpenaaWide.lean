/-
  Where more is known, less is left open: drops and flows of spans within others. By an AI agent; no person has read it.
-/
import Derived.Test.YtimnnhdeicpenaaFlowS
set_option linter.unusedSimpArgs false
set_option linter.unusedVariables false
namespace Go.Proofs.Ytimnnhdeicpenaa
open Go.Aw Go

/-- the first lies within the second -/
structure Within (x y : XSpan) : Prop where
  lo : y.low ≤ x.low
  hi : x.high ≤ y.high
theorem Within.refl (x : XSpan) : Within x x := ⟨Int.le_refl _, Int.le_refl _⟩

theorem mul_sq_le {x y q : Int} (h : x ≤ y) : x * q * q ≤ y * q * q := by
  have h0 : 0 ≤ q * q := by
    rcases Int.lt_or_le q 0 with h' | h'
    · have := Int.mul_nonneg (show 0 ≤ -q by omega) (show 0 ≤ -q by omega)
      rwa [Int.neg_mul_neg] at this
    · exact Int.mul_nonneg h' h'
  rw [Int.mul_assoc, Int.mul_assoc]
  exact Int.mul_le_mul_of_nonneg_right h h0

theorem baseS_within {r r' l l' : XSpan} (hr : Within r r') (hl : Within l l') (q : Int) : Within (baseS r l q) (baseS r' l' q) := by
  have h1 := mul_sq_le (q := q) hr.lo
  have h2 := mul_sq_le (q := q) hr.hi
  have h3 := hl.lo
  have h4 := hl.hi
  unfold baseS
  split
  · exact ⟨by dsimp only; omega, by dsimp only; omega⟩
  · exact ⟨by dsimp only; omega, by dsimp only; omega⟩

theorem restS_known {d : XDoor} {s : Int} (h : 0 ≤ s ∧ s < d.rests.l.length) : restS d s = ⟨d.rests.l.getD s.toNat 0, d.rests.l.getD s.toNat 0⟩ := by
  unfold restS
  rw [if_neg (by omega), if_neg (by omega)]
theorem restS_unknown {d : XDoor} {s : Int} (h : 0 ≤ s ∧ s < d.rests.l.length) : Within (restS d s) (restS d (-1)) := by
  rw [restS_known h]
  unfold restS
  rw [if_neg (by omega), if_pos rfl]
  exact ⟨(minTo_le (by omega)).1, (minTo_le (by omega)).2⟩

/-- the doors' resistances under two settings -/
theorem restTo_within {a b : XAir} {s t : XSetting} {r : Int} (hd : b.doors = a.doors) (hr : Within (a.mine.roads.l.getD r.toNat default).rest (b.mine.roads.l.getD r.toNat default).rest)
    (h : ∀ i, i < a.doors.l.length → Within (restS (a.doors.l.getD i default) (s.doors.l.getD i 0)) (restS (a.doors.l.getD i default) (t.doors.l.getD i 0))) : ∀ k, k ≤ a.doors.l.length → Within (restTo a s r k) (restTo b t r k)
  | 0, _ => hr
  | k + 1, hk => by
    have ih := restTo_within hd hr h k (by omega)
    have hk' := h k (by omega)
    rw [restTo, restTo, hd]
    split
    · exact ⟨by have := ih.lo; have := hk'.lo; dsimp only; omega, by have := ih.hi; have := hk'.hi; dsimp only; omega⟩
    · exact ih

theorem innerS_within {a b : XAir} {s t : XSetting} {r q : Int} (hd : b.doors = a.doors) (hf : b.fans = a.fans) (hr : Within (a.mine.roads.l.getD r.toNat default).rest (b.mine.roads.l.getD r.toNat default).rest)
    (hl : Within (a.mine.roads.l.getD r.toNat default).lift (b.mine.roads.l.getD r.toNat default).lift)
    (h : ∀ i, i < a.doors.l.length → Within (restS (a.doors.l.getD i default) (s.doors.l.getD i 0)) (restS (a.doors.l.getD i default) (t.doors.l.getD i 0)))
    (hg : ∀ i, i < a.fans.l.length → Within (stateS (a.fans.l.getD i default) (s.fans.l.getD i 0) q) (stateS (a.fans.l.getD i default) (t.fans.l.getD i 0) q)) : Within (innerS a s r q) (innerS b t r q) := by
  have key : ∀ k, k ≤ a.fans.l.length → Within (innerTo a s r q k) (innerTo b t r q k) := by
    intro k
    induction k with
    | zero =>
      intro _
      rw [innerTo, innerTo, hd]
      exact baseS_within (restTo_within hd hr h _ (Nat.le_refl _)) hl q
    | succ k ih =>
      intro hk
      have ih := ih (by omega)
      have hk' := hg k (by omega)
      rw [innerTo, innerTo, hf]
      split
      · exact ⟨by have := ih.lo; have := hk'.hi; dsimp only; omega, by have := ih.hi; have := hk'.lo; dsimp only; omega⟩
      · exact ih
  unfold innerS
  rw [hf]
  exact key _ (Nat.le_refl _)

theorem low_within {f g : Int → XSpan} {p l m : Int} (h : ∀ q, -1048577 < q → q ≤ 1048576 → (f q).high ≤ (g q).high) (h1 : LowIs f p l) (h2 : LowIs g p m) : m ≤ l := by
  rcases Int.lt_or_le l m with hlt | hle
  · have b1 := h1.bnd
    have b2 := h2.bnd
    have k1 := h1.gt m hlt (by omega)
    have k2 := h2.le m (by omega) (Int.le_refl _)
    have k3 := h m (by omega) (by omega)
    omega
  · exact hle
theorem high_within {f g : Int → XSpan} {p l m : Int} (h : ∀ q, -1048577 < q → q ≤ 1048576 → (g q).low ≤ (f q).low) (h1 : HighIs f p l) (h2 : HighIs g p m) : l ≤ m := by
  rcases Int.lt_or_le m l with hlt | hle
  · have b1 := h1.bnd
    have b2 := h2.bnd
    have k1 := h1.lt m (by omega) hlt
    have k2 := h2.ge m (Int.le_refl _) (by omega)
    have k3 := h m (by omega) (by omega)
    omega
  · exact hle

theorem stateS_unknown {f : XFan} {s q : Int} : Within (stateS f s q) (stateS f (-1) q) := by
  have h0 := Int.min_le_left (min 0 (alongS f.curve.l false q).low) (alongS f.curve.l true q).low
  have h1 := Int.min_le_right (min 0 (alongS f.curve.l false q).low) (alongS f.curve.l true q).low
  have h2 := Int.min_le_left 0 (alongS f.curve.l false q).low
  have h3 := Int.min_le_right 0 (alongS f.curve.l false q).low
  have g0 := Int.le_max_left (max 0 (alongS f.curve.l false q).high) (alongS f.curve.l true q).high
  have g1 := Int.le_max_right (max 0 (alongS f.curve.l false q).high) (alongS f.curve.l true q).high
  have g2 := Int.le_max_left 0 (alongS f.curve.l false q).high
  have g3 := Int.le_max_right 0 (alongS f.curve.l false q).high
  have e : stateS f (-1) q = ⟨min (min 0 (alongS f.curve.l false q).low) (alongS f.curve.l true q).low, max (max 0 (alongS f.curve.l false q).high) (alongS f.curve.l true q).high⟩ := rfl
  rw [e]
  unfold stateS
  split
  · cases f.back <;> exact ⟨by dsimp only; omega, by dsimp only; omega⟩
  · split
    · cases f.back <;> simp only [Bool.not_true, Bool.not_false] <;> exact ⟨by dsimp only; omega, by dsimp only; omega⟩
    · split
      · exact Within.refl _
      · exact ⟨by dsimp only; omega, by dsimp only; omega⟩

/-! a door opened farther -/

theorem baseS_less_pos {r r' l : XSpan} (h : r'.high ≤ r.high) {q : Int} (hq : 0 ≤ q) : (baseS r' l q).high ≤ (baseS r l q).high := by
  have h1 := mul_sq_le (q := q) h
  unfold baseS
  rw [if_neg (by omega), if_neg (by omega)]
  dsimp only
  omega
theorem baseS_less_neg {r r' l : XSpan} (h : r'.high ≤ r.high) {q : Int} (hq : q ≤ 0) : (baseS r l q).low ≤ (baseS r' l q).low := by
  have h1 := mul_sq_le (q := q) h
  unfold baseS
  rcases Int.lt_or_le q 0 with h' | h'
  · rw [if_pos h', if_pos h']
    dsimp only
    omega
  · have : q = 0 := by omega
    subst this
    rw [if_neg (by omega), if_neg (by omega)]
    simp
theorem innerTo_succ (a : XAir) (s : XSetting) (r q : Int) (k : Nat) : innerTo a s r q (k + 1) = if (a.fans.l.getD k default).road = r then ⟨(innerTo a s r q k).low - (stateS (a.fans.l.getD k default) (s.fans.l.getD k 0) q).high, (innerTo a s r q k).high - (stateS (a.fans.l.getD k default) (s.fans.l.getD k 0) q).low⟩ else innerTo a s r q k := rfl
theorem innerTo_diff {a : XAir} {s t : XSetting} {r q : Int} (hf : t.fans = s.fans) : ∀ k, (innerTo a t r q k).low - (innerTo a s r q k).low = (innerTo a t r q 0).low - (innerTo a s r q 0).low ∧ (innerTo a t r q k).high - (innerTo a s r q k).high = (innerTo a t r q 0).high - (innerTo a s r q 0).high
  | 0 => ⟨rfl, rfl⟩
  | k + 1 => by
    have ih := innerTo_diff (a := a) (r := r) (q := q) hf k
    have e : t.fans.l = s.fans.l := by rw [hf]
    rw [innerTo_succ, innerTo_succ, e]
    split
    · dsimp only; omega
    · exact ih
theorem restTo_low {a : XAir} {s t : XSetting} {r : Int} (h : ∀ i, i < a.doors.l.length → (restS (a.doors.l.getD i default) (t.doors.l.getD i 0)).high ≤ (restS (a.doors.l.getD i default) (s.doors.l.getD i 0)).high) : ∀ k, k ≤ a.doors.l.length → (restTo a t r k).high ≤ (restTo a s r k).high
  | 0, _ => Int.le_refl _
  | k + 1, hk => by
    have ih := restTo_low (r := r) h k (by omega)
    have hk' := h k (by omega)
    rw [restTo, restTo]
    split
    · dsimp only; omega
    · exact ih
theorem innerS_less_pos {a : XAir} {s t : XSetting} {r q : Int} (hf : t.fans = s.fans) (h : ∀ i, i < a.doors.l.length → (restS (a.doors.l.getD i default) (t.doors.l.getD i 0)).high ≤ (restS (a.doors.l.getD i default) (s.doors.l.getD i 0)).high) (hq : 0 ≤ q) : (innerS a t r q).high ≤ (innerS a s r q).high := by
  have h1 := (innerTo_diff (a := a) (r := r) (q := q) hf a.fans.l.length).2
  have h2 : (innerTo a t r q 0).high ≤ (innerTo a s r q 0).high := baseS_less_pos (restTo_low h _ (Nat.le_refl _)) hq
  unfold innerS
  omega
theorem innerS_less_neg {a : XAir} {s t : XSetting} {r q : Int} (hf : t.fans = s.fans) (h : ∀ i, i < a.doors.l.length → (restS (a.doors.l.getD i default) (t.doors.l.getD i 0)).high ≤ (restS (a.doors.l.getD i default) (s.doors.l.getD i 0)).high) (hq : q ≤ 0) : (innerS a s r q).low ≤ (innerS a t r q).low := by
  have h1 := (innerTo_diff (a := a) (r := r) (q := q) hf a.fans.l.length).1
  have h2 : (innerTo a s r q 0).low ≤ (innerTo a t r q 0).low := baseS_less_neg (restTo_low h _ (Nat.le_refl _)) hq
  unfold innerS
  omega
theorem low_less {f g : Int → XSpan} {p l m : Int} (h : ∀ q, 0 ≤ q → q ≤ 1048576 → (g q).high ≤ (f q).high) (h1 : LowIs f p l) (h2 : LowIs g p m) (hl : 0 < l) : l ≤ m := by
  rcases Int.lt_or_le m l with hlt | hle
  · have b1 := h1.bnd
    have b2 := h2.bnd
    have k1 := h2.gt l hlt (by omega)
    have k2 := h1.le l (by omega) (Int.le_refl _)
    have k3 := h l (by omega) (by omega)
    omega
  · exact hle
theorem high_less {f g : Int → XSpan} {p l m : Int} (h : ∀ q, q ≤ 0 → -1048576 ≤ q → (f q).low ≤ (g q).low) (h1 : HighIs f p l) (h2 : HighIs g p m) (hl : l < 0) : m ≤ l := by
  rcases Int.lt_or_le l m with hlt | hle
  · have b1 := h1.bnd
    have b2 := h2.bnd
    have k1 := h2.lt l (by omega) hlt
    have k2 := h1.ge l (Int.le_refl _) (by omega)
    have k3 := h l (by omega) (by omega)
    omega
  · exact hle
theorem fallsB_lt {l : List Int} {n k : Nat} (h : fallsB l n = true) (hk : k + 1 < n) : l.getD (k + 1) 0 < l.getD k 0 := by
  have := fallsB_le (show k + 2 ≤ n by omega) h
  rw [fallsB] at this
  simp only [Bool.and_eq_true, Bool.or_eq_true, decide_eq_true_eq] at this
  rcases this.2 with h' | h'
  · omega
  · exact h'
end Go.Proofs.Ytimnnhdeicpenaa
