/-
  Raising and lowering: what they leave. By an AI agent; no person has read it.
-/
import Derived.Test.YtjjfpglgonpciaaNextS
set_option linter.unusedSimpArgs false
set_option linter.unusedVariables false
namespace Go.Proofs.Ytjjfpglgonpciaa
open Go.Aw Go

section
variable {a : XAir} {s : XSetting} {A : List Bool} {l m : List Int} {k : Nat} {v : Int}
theorem next_up (h0 : PresOk l) (h : nextAt a s true l k = some v) : l.getD k 0 ≤ v ∧ 0 ≤ lowN a s (l.set k v) (k : Int) ∧ ∀ w, l.getD k 0 ≤ w → w < v → lowN a s (l.set k w) (k : Int) < 0 := by
  obtain ⟨d, d0, d1, dv, dg, dj⟩ := (first_nextS (room_in (h0.get k)).1 h).yes rfl
  have e : ∀ x, testG a s true l (k : Int) x = lowG a s l (k : Int) x := fun x => by rw [testG, if_pos rfl]
  rw [e, decide_eq_true_eq, Int.toNat_natCast] at dg
  have es : sgn true = 1 := rfl
  rw [es] at dv dj
  refine ⟨by omega, dg, fun w w1 w2 => ?_⟩
  have := dj (w - l.getD k 0) (by omega) (by omega)
  rw [show l.getD k 0 + 1 * (w - l.getD k 0) = w by omega, e, decide_eq_false_iff_not, Int.toNat_natCast] at this
  omega
theorem next_down (h0 : PresOk l) (h : nextAt a s false l k = some v) : v ≤ l.getD k 0 ∧ highN a s (l.set k v) (k : Int) ≤ 0 ∧ ∀ w, w ≤ l.getD k 0 → v < w → 0 < highN a s (l.set k w) (k : Int) := by
  obtain ⟨d, d0, d1, dv, dg, dj⟩ := (first_nextS (room_in (h0.get k)).1 h).yes rfl
  have e : ∀ x, testG a s false l (k : Int) x = highG a s l (k : Int) x := fun x => by rw [testG, if_neg (by decide)]
  rw [e, decide_eq_true_eq, Int.toNat_natCast] at dg
  have es : sgn false = -1 := rfl
  rw [es] at dv dj
  refine ⟨by omega, dg, fun w w1 w2 => ?_⟩
  have := dj (l.getD k 0 - w) (by omega) (by omega)
  rw [show l.getD k 0 + -1 * (l.getD k 0 - w) = w by omega, e, decide_eq_false_iff_not, Int.toNat_natCast] at this
  omega
end

/-- a round, taken apart -/
theorem sweep_split {a : XAir} {s : XSetting} {A : List Bool} {up : Bool} {l : List Int} : ∀ {n : Nat} {m : List Int}, sweepTo a s A up l n = some m → ∀ k, k ≤ n → ∃ mk, sweepTo a s A up l k = some mk ∧ ∀ j : Nat, j < k → m[j]? = mk[j]?
  | 0, m, h, k, hk => by
    obtain rfl : k = 0 := by omega
    exact ⟨m, h, fun j hj => by omega⟩
  | n + 1, m, h, k, hk => by
    rcases Nat.lt_or_ge n k with h1 | h1
    · obtain rfl : k = n + 1 := by omega
      exact ⟨m, h, fun _ _ => rfl⟩
    · have h' := h
      rw [sweepTo, Option.bind_eq_some_iff] at h'
      obtain ⟨m1, e1, e2⟩ := h'
      obtain ⟨mk, f1, f2⟩ := sweep_split e1 k h1
      refine ⟨mk, f1, fun j hj => ?_⟩
      rw [← f2 j hj]
      split at e2
      · cases e2; rfl
      · obtain ⟨v, _, rfl⟩ := Option.map_eq_some_iff.1 e2
        rw [List.getElem?_set_ne (by omega)]
/-- a round that changes nothing: each place is where the search ends -/
theorem sweep_fix {a : XAir} {s : XSetting} {A : List Bool} {up : Bool} {l : List Int} (hl : PresOk l) (hn : l.length = a.mine.places.l.length) (h : sweepTo a s A up l a.mine.places.l.length = some l) {k : Nat} (hk : k < a.mine.places.l.length) (hf : ¬ fixB a A k = true) : nextAt a s up l k = some (l.getD k 0) := by
  obtain ⟨m1, e1, e2⟩ := sweep_split h (k + 1) (by omega)
  have e1' := e1
  rw [sweepTo, Option.bind_eq_some_iff] at e1'
  obtain ⟨m0, f1, f2⟩ := e1'
  obtain ⟨m0', g1, g2⟩ := sweep_split h k (by omega)
  rw [f1] at g1
  cases g1
  have hS := sweepTo_swept hl f1
  have em : m0 = l := List.ext_getElem? fun j => by
    rcases Nat.lt_or_ge j k with h1 | h1
    · exact (g2 j h1).symm
    · exact hS.rest j h1
  subst em
  rw [if_neg hf] at f2
  obtain ⟨v, hv, rfl⟩ := Option.map_eq_some_iff.1 f2
  have := e2 k (by omega)
  rw [List.getElem?_set_self (by omega), get_D (l := m0) (k := k) 0 (by omega)] at this
  rw [hv, Option.some.inj this]
/-- raised places are no lower, lowered ones no higher; given ones stay -/
structure Moved (a : XAir) (A : List Bool) (up : Bool) (l m : List Int) : Prop where
  len : m.length = l.length
  le : ∀ j : Nat, if up = true then l.getD j 0 ≤ m.getD j 0 else m.getD j 0 ≤ l.getD j 0
  fix : ∀ j : Nat, fixB a A j = true → m.getD j 0 = l.getD j 0
theorem Moved.refl {a : XAir} {A : List Bool} {up : Bool} {l : List Int} : Moved a A up l l := ⟨rfl, fun j => by split <;> exact Int.le_refl _, fun _ _ => rfl⟩
theorem Moved.trans {a : XAir} {A : List Bool} {up : Bool} {l m n : List Int} (h : Moved a A up l m) (k : Moved a A up m n) : Moved a A up l n := by
  refine ⟨k.len.trans h.len, fun j => ?_, fun j hj => (k.fix j hj).trans (h.fix j hj)⟩
  have h1 := h.le j
  have h2 := k.le j
  split at h1
  · rename_i e; rw [if_pos e] at h2; rw [if_pos e]; omega
  · rename_i e; rw [if_neg e] at h2; rw [if_neg e]; omega
theorem sweep_moved {a : XAir} {s : XSetting} {A : List Bool} {up : Bool} {l : List Int} (hl : PresOk l) : ∀ {n : Nat} {m : List Int}, n ≤ l.length → sweepTo a s A up l n = some m → Moved a A up l m
  | 0, m, _, h => by cases h; exact .refl
  | n + 1, m, hn, h => by
    have h' := h
    rw [sweepTo, Option.bind_eq_some_iff] at h'
    obtain ⟨m0, e1, e2⟩ := h'
    have ih := sweep_moved hl (by omega) e1
    have hS := sweepTo_swept hl e1
    have hlen := hS.len
    split at e2
    · cases e2; exact ih
    · rename_i hf
      obtain ⟨v, hv, rfl⟩ := Option.map_eq_some_iff.1 e2
      refine ih.trans ⟨by simp, fun j => ?_, fun j hj => ?_⟩
      · rw [getD_setK (by omega)]
        cases up with
        | true =>
          have := (next_up hS.pres hv).1
          simp only [if_true]
          split
          · rename_i e; subst e; exact this
          · exact Int.le_refl _
        | false =>
          have := (next_down hS.pres hv).1
          simp only [Bool.false_eq_true, if_false]
          split
          · rename_i e; subst e; exact this
          · exact Int.le_refl _
      · rw [getD_setK (by omega), if_neg (fun e => hf (by rw [← e]; exact hj))]
theorem rounds_moved {a : XAir} {s : XSetting} {A : List Bool} {up : Bool} : ∀ {n : Nat} {l m : List Int}, PresOk l → l.length = a.mine.places.l.length → roundsS a s A up n l = some m → Moved a A up l m
  | 0, l, m, _, _, h => by cases h
  | n + 1, l, m, hl, hn, h => by
    rw [roundsS] at h
    split at h
    · cases h
    · rename_i m1 h1
      have hs := sweepTo_swept hl h1
      have hm := sweep_moved hl (by omega) h1
      split at h
      · cases h; exact hm
      · exact hm.trans (rounds_moved hs.pres (hs.len.trans hn) h)
/-- behind raising no place below ground surely lacks air -/
theorem rounds_net {a : XAir} {s : XSetting} {A : List Bool} {n : Nat} {l m : List Int} {up : Bool} (hl : PresOk l) (hn : l.length = a.mine.places.l.length) (h : roundsS a s A up n l = some m) {k : Nat} (hk : k < a.mine.places.l.length) (hf : ¬ fixB a A k = true) :
    if up = true then 0 ≤ lowN a s m (k : Int) else highN a s m (k : Int) ≤ 0 := by
  obtain ⟨h1, h2, h3⟩ := roundsS_some hl h
  have hx := sweep_fix h2 (h1.trans hn) h3 hk hf
  cases up with
  | true =>
    have := (next_up h2 hx).2.1
    rw [set_self] at this
    simpa using this
  | false =>
    have := (next_down h2 hx).2.1
    rw [set_self] at this
    simpa using this

theorem relaxS_cases {a : XAir} {s : XSetting} {A : List Bool} {up : Bool} {ps : List Int} (h : StartOk a s ps A) : (relaxS a s A up ps).1 = 0 ∨ (relaxS a s A up ps).1 = 2 := by
  rw [relaxS, if_neg (by rw [startErr_iff.2 h]; decide)]
  split
  · exact .inr rfl
  · exact .inl rfl
theorem StartOk.moved {a : XAir} {s : XSetting} {A : List Bool} {up : Bool} {l : List Int} (h : StartOk a s l A) {n : Nat} {m : List Int} (hm : roundsS a s A up n l = some m) : StartOk a s m A := by
  obtain ⟨h1, h2, _⟩ := roundsS_some h.hp hm
  have h3 := rounds_moved h.hp h.hl hm
  exact ⟨h.h0, h.hf, h1.trans h.hl, h2, fun i hi hf => (h3.fix i hf).trans (h.fix i hi hf)⟩
theorem start_zero {a : XAir} {s : XSetting} {A : List Bool} (h0 : airErr a = 0) (hf : fitB a s = true) : StartOk a s (List.replicate a.mine.places.l.length 0) A := by
  refine ⟨h0, hf, by simp, fun p hp => ?_, fun i hi _ => ?_⟩
  · rw [(List.mem_replicate.1 hp).2]; decide
  · rw [List.getD_eq_getElem?_getD, List.getElem?_replicate]
    split <;> rfl
/-- P12: bounds that are found: what one knows of them -/
structure Solved (a : XAir) (s : XSetting) (A : List Bool) (lo hi : List Int) : Prop where
  lok : StartOk a s lo A
  hok : StartOk a s hi A
  le : ∀ i : Nat, lo.getD i 0 ≤ hi.getD i 0
  low : ∀ i : Nat, i < a.mine.places.l.length → ¬ fixB a A i = true → highN a s lo (i : Int) ≤ 0
  high : ∀ i : Nat, i < a.mine.places.l.length → ¬ fixB a A i = true → 0 ≤ lowN a s hi (i : Int)
theorem solve_facts {a : XAir} {s : XSetting} {A : List Bool} (h0 : airErr a = 0) (hf : fitB a s = true) : ((solveS a s A).1 = 0 ∧ Solved a s A (solveS a s A).2.1 (solveS a s A).2.2) ∨ (solveS a s A).1 = 2 := by
  have s0 := start_zero (A := A) h0 hf
  rw [solveS]
  dsimp only
  rcases relaxS_cases (up := false) s0 with e1 | e1
  · rw [if_neg (by omega)]
    obtain ⟨_, r1⟩ := relaxS_ok e1
    have s1 := s0.moved r1
    rcases relaxS_cases (up := true) s1 with e2 | e2
    · rw [if_neg (by omega)]
      obtain ⟨_, r2⟩ := relaxS_ok e2
      have s2 := s1.moved r2
      rcases relaxS_cases (up := false) s2 with e3 | e3
      · rw [if_neg (by omega)]
        obtain ⟨_, r3⟩ := relaxS_ok e3
        have s3 := s2.moved r3
        left
        refine ⟨rfl, s3, s2, fun i => ?_, fun i hi hn => ?_, fun i hi hn => ?_⟩
        · have := (rounds_moved s2.hp s2.hl r3).le i
          simpa using this
        · have := rounds_net s2.hp s2.hl r3 hi hn
          simpa using this
        · have := rounds_net s1.hp s1.hl r2 hi hn
          simpa using this
      · rw [if_pos (by omega)]
        exact .inr e3
    · rw [if_pos (by omega)]
      exact .inr e2
  · rw [if_pos (by omega)]
    exact .inr e1
theorem Solved.accept {a : XAir} {s : XSetting} {A : List Bool} {lo hi : List Int} (h : Solved a s A lo hi) {b : XBounds} (e1 : b.low.l = lo) (e2 : b.high.l = hi) : Accept a s b A := by
  refine ⟨⟨h.lok.h0, h.lok.hf, by rw [e1]; exact h.lok.hl, by rw [e2]; exact h.hok.hl, by rw [e1]; exact h.lok.hp, by rw [e2]; exact h.hok.hp⟩, fun i hi2 hf => ?_, fun i hi2 hf => ?_⟩
  · rw [e1, e2]; exact ⟨h.lok.fix i hi2 hf, h.hok.fix i hi2 hf⟩
  · rw [e1, e2]; exact ⟨h.high i hi2 hf, h.low i hi2 hf⟩

/-! raising ends at the least -/
/-- pressures at which no place below ground lacks air -/
structure Top (a : XAir) (s : XSetting) (A : List Bool) (P : List Int) : Prop where
  len : P.length = a.mine.places.l.length
  pres : PresOk P
  net : ∀ i : Nat, i < a.mine.places.l.length → ¬ fixB a A i = true → 0 ≤ lowN a s P (i : Int)
end Go.Proofs.Ytjjfpglgonpciaa
