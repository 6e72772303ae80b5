/-
  One more road between places of the surface changes no bounds below. By an AI agent; no person has read it.
-/
import Derived.Test.YtjjfpglgonpciaaRelP
set_option linter.unusedSimpArgs false
set_option linter.unusedVariables false
namespace Go.Proofs.Ytjjfpglgonpciaa
open Go.Aw Go

structure Surfaced (a b : XAir) (p : XPlace) (r : XRoad) : Prop where
  places : b.mine.places.l = a.mine.places.l ++ [p]
  roads : b.mine.roads.l = a.mine.roads.l ++ [r]
  fans : b.fans.l = a.fans.l
  doors : b.doors.l = a.doors.l
  fr : r.fr = 0
  to : r.to = (a.mine.places.l.length : Int)
  top : p.surface = true
  surf0 : (a.mine.places.l.getD 0 default).surface = true
  ok : AirOk a

theorem getD_app {α : Type} {l m : List α} {k : Nat} {d : α} (h : k < l.length) : (l ++ m).getD k d = l.getD k d := by
  rw [List.getD_eq_getElem?_getD, List.getElem?_append_left h, List.getD_eq_getElem?_getD]
theorem getD_last {α : Type} {l : List α} {x d : α} : (l ++ [x]).getD l.length d = x := by
  rw [List.getD_eq_getElem?_getD, List.getElem?_append_right (Nat.le_refl _)]; simp
section
variable {a b : XAir} {s : XSetting} {p : XPlace} {r : XRoad} (h : Surfaced a b p r)
include h
theorem Surfaced.road {k : Nat} (hk : k < a.mine.roads.l.length) : b.mine.roads.l.getD k default = a.mine.roads.l.getD k default := by
  rw [h.roads, getD_app hk]
theorem Surfaced.rest {k : Nat} (hk : k < a.mine.roads.l.length) : ∀ n, restTo b s (k : Int) n = restTo a s (k : Int) n
  | 0 => by rw [restTo, restTo, Int.toNat_natCast, h.road hk]
  | n + 1 => by rw [restTo, restTo, h.doors, Surfaced.rest hk n]
theorem Surfaced.innerN {k : Nat} (hk : k < a.mine.roads.l.length) (q : Int) : ∀ n, innerTo b s (k : Int) q n = innerTo a s (k : Int) q n
  | 0 => by rw [innerTo.eq_1, innerTo.eq_1, h.doors, h.rest hk, Int.toNat_natCast, h.road hk]
  | n + 1 => by rw [innerTo_succ, innerTo_succ, h.fans, Surfaced.innerN hk q n]
theorem Surfaced.inner {k : Nat} (hk : k < a.mine.roads.l.length) : innerS b s (k : Int) = innerS a s (k : Int) := funext fun q => by
  rw [innerS, innerS, h.fans]
  exact h.innerN hk q _
theorem Surfaced.sum (F G : (Int → XSpan) → Int → Int) {l : List Int} (hl : l.length = a.mine.places.l.length) (z v : Int) : ∀ n, n ≤ a.mine.roads.l.length → sumN F G b s (l ++ [z]) v n = sumN F G a s l v n
  | 0, _ => rfl
  | n + 1, hn => by
    have hro := h.ok.mine.road n _ (get_D default (show n < _ by omega))
    have h1 := hro.fr
    have h2 := hro.to
    have ed : diffN b (l ++ [z]) n = diffN a l n := by
      rw [diffN, diffN, h.road (show n < _ by omega), getD_app (by omega), getD_app (by omega)]
    rw [sumN, sumN, Surfaced.sum F G hl z v n (by omega), termN, termN, ed, h.road (show n < _ by omega), h.inner (show n < _ by omega)]
theorem Surfaced.net (F G : (Int → XSpan) → Int → Int) {l : List Int} (hl : l.length = a.mine.places.l.length) (z : Int) {v : Nat} (h0 : v ≠ 0) (hv : v < a.mine.places.l.length) : sumN F G b s (l ++ [z]) v b.mine.roads.l.length = sumN F G a s l v a.mine.roads.l.length := by
  have e : b.mine.roads.l.length = a.mine.roads.l.length + 1 := by rw [h.roads]; simp
  have er : b.mine.roads.l.getD a.mine.roads.l.length default = r := by rw [h.roads]; exact getD_last
  have h1 := h.fr
  have h2 := h.to
  rw [e, sumN, h.sum F G hl z v _ (Nat.le_refl _), termN, er, if_neg (show ¬ r.fr = (v : Int) by omega), if_neg (show ¬ r.to = (v : Int) by omega)]
  split <;> omega
theorem Surfaced.next (up : Bool) {l : List Int} (hl : l.length = a.mine.places.l.length) (z : Int) {k : Nat} (h0 : k ≠ 0) (hk : k < a.mine.places.l.length) : nextAt b s up (l ++ [z]) k = nextAt a s up l k := by
  have e : testG b s up (l ++ [z]) (k : Int) = testG a s up l (k : Int) := funext fun x => by
    have es : (l ++ [z]).set k x = l.set k x ++ [z] := by rw [List.set_append_left _ _ (by omega)]
    cases up with
    | true =>
      rw [testG, if_pos rfl, testG, if_pos rfl]
      show decide _ = decide _
      rw [Int.toNat_natCast, es, lowN, lowN, h.net _ _ (by simp [hl]) z h0 hk]
    | false =>
      rw [testG, if_neg (by decide), testG, if_neg (by decide)]
      show decide _ = decide _
      rw [Int.toNat_natCast, es, highN, highN, h.net _ _ (by simp [hl]) z h0 hk]
  rw [nextAt, nextAt, e, getD_app (by omega)]
theorem Surfaced.fix {A : List Bool} (hA : A.length = a.mine.places.l.length) {k : Nat} (hk : k < a.mine.places.l.length) : fixB b (A ++ [true]) k = fixB a A k := by
  rw [fixB, fixB, h.places, getD_app (by omega), getD_app hk]
theorem Surfaced.sweep {A : List Bool} (hA : A.length = a.mine.places.l.length) (up : Bool) {l : List Int} (hl : l.length = a.mine.places.l.length) (z : Int) : ∀ n, n ≤ a.mine.places.l.length → sweepTo b s (A ++ [true]) up (l ++ [z]) n = (sweepTo a s A up l n).map (· ++ [z])
  | 0, _ => rfl
  | n + 1, hn => by
    rw [sweepTo, sweepTo, Surfaced.sweep hA up hl z n (by omega), h.fix hA (by omega)]
    cases e : sweepTo a s A up l n with
    | none => rfl
    | some m =>
      have hm : m.length = l.length := by
        have : ∀ (n : Nat) (m : List Int), sweepTo a s A up l n = some m → m.length = l.length := by
          intro n
          induction n with
          | zero => intro m h; cases h; rfl
          | succ n ih =>
            intro m h
            rw [sweepTo, Option.bind_eq_some_iff] at h
            obtain ⟨m0, f1, f2⟩ := h
            have := ih m0 f1
            split at f2
            · cases f2; exact this
            · obtain ⟨v, _, rfl⟩ := Option.map_eq_some_iff.1 f2
              simp [this]
        exact this n m e
      simp only [Option.map_some, Option.bind_some]
      split
      · rfl
      · rename_i hf
        have h0 : n ≠ 0 := fun e0 => hf (by rw [e0, fixB, h.surf0, Bool.or_true])
        rw [h.next up (by omega) z h0 (by omega)]
        cases nextAt a s up m n with
        | none => rfl
        | some v =>
          simp only [Option.map_some, Option.some.injEq]
          rw [List.set_append_left _ _ (by omega)]
theorem Surfaced.round {A : List Bool} (hA : A.length = a.mine.places.l.length) (up : Bool) {l : List Int} (hl : l.length = a.mine.places.l.length) (z : Int) : sweepTo b s (A ++ [true]) up (l ++ [z]) b.mine.places.l.length = (sweepTo a s A up l a.mine.places.l.length).map (· ++ [z]) := by
  have e : b.mine.places.l.length = a.mine.places.l.length + 1 := by rw [h.places]; simp
  have ef : fixB b (A ++ [true]) a.mine.places.l.length = true := by
    rw [fixB, h.places, getD_last, h.top, Bool.or_true]
  rw [e, sweepTo, h.sweep hA up hl z _ (Nat.le_refl _)]
  cases sweepTo a s A up l a.mine.places.l.length with
  | none => rfl
  | some m =>
    simp only [Option.map_some, Option.bind_some]
    rw [if_pos ef]
theorem Surfaced.rounds {A : List Bool} (hA : A.length = a.mine.places.l.length) (up : Bool) (z : Int) : ∀ (n : Nat) (l : List Int), PresOk l → l.length = a.mine.places.l.length → roundsS b s (A ++ [true]) up n (l ++ [z]) = (roundsS a s A up n l).map (· ++ [z])
  | 0, _, _, _ => rfl
  | n + 1, l, hp, hl => by
    rw [roundsS, roundsS, h.round hA up hl z]
    cases e : sweepTo a s A up l a.mine.places.l.length with
    | none => rfl
    | some m =>
      have hS := sweepTo_swept hp e
      simp only [Option.map_some]
      by_cases em : m = l
      · subst em; simp
      · rw [if_neg (fun e' => em (List.append_cancel_right e')), if_neg em]
        exact Surfaced.rounds hA up z n m hS.pres (hS.len.trans hl)
theorem Surfaced.start {A : List Bool} (hA : A.length = a.mine.places.l.length) {l : List Int} (h1 : StartOk a s l A) (h2 : airErr b = 0) (h3 : fitB b s = true) : StartOk b s (l ++ [0]) (A ++ [true]) := by
  have e : b.mine.places.l.length = a.mine.places.l.length + 1 := by rw [h.places]; simp
  have hl := h1.hl
  refine ⟨h2, h3, by rw [e]; simp [hl], fun x hx => ?_, fun i hi hf => ?_⟩
  · rcases List.mem_append.1 hx with hx | hx
    · exact h1.hp x hx
    · rw [List.mem_singleton.1 hx]; decide
  · rcases Nat.lt_or_ge i a.mine.places.l.length with hi2 | hi2
    · rw [getD_app (by omega)]
      exact h1.fix i hi2 (by rw [h.fix hA hi2] at hf; exact hf)
    · obtain rfl : i = l.length := by omega
      exact getD_last
theorem Surfaced.relax {A : List Bool} (hA : A.length = a.mine.places.l.length) (up : Bool) {l : List Int} (h1 : StartOk a s l A) (h2 : airErr b = 0) (h3 : fitB b s = true) :
    relaxS b s (A ++ [true]) up (l ++ [0]) = if (relaxS a s A up l).1 = 0 then (0, (relaxS a s A up l).2 ++ [0]) else ((relaxS a s A up l).1, []) := by
  have e1 : relaxS a s A up l = match roundsS a s A up 200 l with
    | none => (2, [])
    | some l => (0, l) := by rw [relaxS, if_neg (by rw [startErr_iff.2 h1]; decide)]; rfl
  have e2 : relaxS b s (A ++ [true]) up (l ++ [0]) = match roundsS b s (A ++ [true]) up 200 (l ++ [0]) with
    | none => (2, [])
    | some l => (0, l) := by rw [relaxS, if_neg (by rw [startErr_iff.2 (h.start hA h1 h2 h3)]; decide)]; rfl
  rw [e1, e2, h.rounds hA up 0 200 l h1.hp h1.hl]
  cases roundsS a s A up 200 l with
  | none => rfl
  | some m => rfl
/-- P12.2 -/
theorem Surfaced.solve {A : List Bool} (hA : A.length = a.mine.places.l.length) (h0 : airErr a = 0) (hf : fitB a s = true) (h2 : airErr b = 0) (h3 : fitB b s = true) :
    solveS b s (A ++ [true]) = if (solveS a s A).1 = 0 then (0, (solveS a s A).2.1 ++ [0], (solveS a s A).2.2 ++ [0]) else ((solveS a s A).1, [], []) := by
  have e : b.mine.places.l.length = a.mine.places.l.length + 1 := by rw [h.places]; simp
  have ez : List.replicate b.mine.places.l.length (0 : Int) = List.replicate a.mine.places.l.length 0 ++ [0] := by rw [e, List.replicate_succ']
  have s0 := start_zero (A := A) h0 hf
  have r0 := h.relax hA false s0 h2 h3
  obtain ⟨x, hx⟩ : ∃ x, x = relaxS a s A false (List.replicate a.mine.places.l.length 0) := ⟨_, rfl⟩
  have c0 := relaxS_cases (up := false) s0
  have m0 : x.1 = 0 → StartOk a s x.2 A := fun e => by rw [hx] at e ⊢; exact s0.moved (relaxS_ok e).2
  rw [← hx] at r0 c0
  rcases c0 with e1 | e1
  · rw [if_pos e1] at r0
    have s1 := m0 e1
    have r1 := h.relax hA true s1 h2 h3
    have c1 := relaxS_cases (up := true) s1
    obtain ⟨y, hy⟩ : ∃ y, y = relaxS a s A true x.2 := ⟨_, rfl⟩
    have m1 : y.1 = 0 → StartOk a s y.2 A := fun e => by rw [hy] at e ⊢; exact s1.moved (relaxS_ok e).2
    rw [← hy] at r1 c1
    rcases c1 with e2 | e2
    · rw [if_pos e2] at r1
      have s2 := m1 e2
      have r2 := h.relax hA false s2 h2 h3
      have c2 := relaxS_cases (up := false) s2
      obtain ⟨z, hz⟩ : ∃ z, z = relaxS a s A false y.2 := ⟨_, rfl⟩
      rw [← hz] at r2 c2
      rcases c2 with e3 | e3
      · rw [if_pos e3] at r2
        have ea : solveS a s A = (0, z.2, y.2) := by rw [solveS]; dsimp only; rw [← hx, if_neg (by omega), ← hy, if_neg (by omega), ← hz, if_neg (by omega)]
        have eb : solveS b s (A ++ [true]) = (0, z.2 ++ [0], y.2 ++ [0]) := by
          rw [solveS]; dsimp only; rw [ez, r0]; dsimp only; rw [if_neg (by decide), r1]; dsimp only; rw [if_neg (by decide), r2]; dsimp only; rw [if_neg (by decide)]
        rw [ea, eb]; rfl
      · rw [if_neg (show ¬ z.1 = 0 by omega)] at r2
        have ea : solveS a s A = (z.1, [], []) := by rw [solveS]; dsimp only; rw [← hx, if_neg (by omega), ← hy, if_neg (by omega), ← hz, if_pos (by omega)]
        have eb : solveS b s (A ++ [true]) = (z.1, [], []) := by
          rw [solveS]; dsimp only; rw [ez, r0]; dsimp only; rw [if_neg (by decide), r1]; dsimp only; rw [if_neg (by decide), r2]; dsimp only; rw [if_pos (by omega)]
        rw [ea, eb, if_neg (by dsimp only; omega)]
    · rw [if_neg (show ¬ y.1 = 0 by omega)] at r1
      have ea : solveS a s A = (y.1, [], []) := by rw [solveS]; dsimp only; rw [← hx, if_neg (by omega), ← hy, if_pos (by omega)]
      have eb : solveS b s (A ++ [true]) = (y.1, [], []) := by
        rw [solveS]; dsimp only; rw [ez, r0]; dsimp only; rw [if_neg (by decide), r1]; dsimp only; rw [if_pos (by omega)]
      rw [ea, eb, if_neg (by dsimp only; omega)]
  · rw [if_neg (show ¬ x.1 = 0 by omega)] at r0
    have ea : solveS a s A = (x.1, [], []) := by rw [solveS]; dsimp only; rw [← hx, if_pos (by omega)]
    have eb : solveS b s (A ++ [true]) = (x.1, [], []) := by
      rw [solveS]; dsimp only; rw [ez, r0]; dsimp only; rw [if_pos (by omega)]
    rw [ea, eb, if_neg (by dsimp only; omega)]
theorem Surfaced.step {u v : Nat} (hs : Step b.mine u v) : Step a.mine u v ∨ (u = 0 ∧ v = a.mine.places.l.length) ∨ (u = a.mine.places.l.length ∧ v = 0) := by
  obtain ⟨r', hr, hc, h1⟩ := hs
  rw [h.roads] at hr
  rcases List.mem_append.1 hr with hr | hr
  · exact .inl ⟨r', hr, hc, h1⟩
  · rw [List.mem_singleton.1 hr, h.fr, h.to] at h1
    rcases h1 with h1 | h1
    · exact .inr (.inl ⟨by omega, by omega⟩)
    · exact .inr (.inr ⟨by omega, by omega⟩)
theorem Surfaced.airy {A : List Bool} (hA : AiryIs a.mine A) : AiryIs b.mine (A ++ [true]) := by
  have hl := hA.length
  have e : b.mine.places.l.length = a.mine.places.l.length + 1 := by rw [h.places]; simp
  have es : surf b.mine = surf a.mine ++ [true] := by
    rw [surf, surf, h.places, List.map_append, List.map_cons, List.map_nil, h.top]
  have hsl := surf_length a.mine
  have up : ∀ u v, Conn a.mine u v → Conn b.mine u v := fun u v hc => by
    induction hc with
    | refl => exact .refl
    | tail _ hs ih =>
      obtain ⟨r', hr, h1, h2⟩ := hs
      exact ih.tail ⟨r', by rw [h.roads]; exact List.mem_append_left _ hr, h1, h2⟩
  have self : ∀ j : Nat, j < a.mine.places.l.length → (a.mine.places.l.getD j default).surface = true → A.getD j false = true := fun j hj hs =>
    (hA.iff j (by omega)).2 ⟨j, by omega, by rw [surf_getD _ _ hj]; exact hs, .refl⟩
  have pos : 0 < a.mine.places.l.length := by
    rcases Nat.eq_zero_or_pos a.mine.places.l.length with h0 | h0
    · have := h.surf0
      rw [List.getD_eq_getElem?_getD, List.getElem?_eq_none (by omega)] at this
      cases this
    · exact h0
  refine ⟨by rw [es]; simp [hl, hsl], fun i hi => ?_⟩
  rw [es] at hi ⊢
  simp only [List.length_append, List.length_singleton] at hi
  constructor
  · intro hi2
    rcases Nat.lt_or_ge i a.mine.places.l.length with h1 | h1
    · rw [getD_app (by omega)] at hi2
      obtain ⟨j, j1, j2, j3⟩ := (hA.iff i (by omega)).1 hi2
      exact ⟨j, by simp; omega, by rw [getD_app j1]; exact j2, up _ _ j3⟩
    · obtain rfl : i = (surf a.mine).length := by omega
      exact ⟨_, by simp, getD_last, .refl⟩
  · rintro ⟨j, j1, j2, j3⟩
    simp only [List.length_append, List.length_singleton] at j1
    refine Conn.closed (P := fun x => (A ++ [true]).getD x false = true) (fun u v hu hs => ?_) j3 ?_
    · rcases h.step hs with h1 | h1 | h1
      · have hlt := h1.lt h.ok.mine
        rw [getD_app (by omega)] at hu ⊢
        exact hA.step h.ok.mine hu h1
      · rw [h1.2, ← hl]; exact getD_last
      · rw [h1.2, getD_app (by omega)]
        exact self 0 pos h.surf0
    · rcases Nat.lt_or_ge j a.mine.places.l.length with h1 | h1
      · rw [getD_app (by omega)] at j2 ⊢
        rw [surf_getD _ _ h1] at j2
        exact self j h1 j2
      · obtain rfl : j = A.length := by omega
        exact getD_last
end
end Go.Proofs.Ytjjfpglgonpciaa
