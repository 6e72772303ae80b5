/-
  Raising and lowering, in plain numbers: P12.1 and P12.2. By an AI agent; no person has read it.
-/
import Derived.Test.YtlgjgigciapkfaaComp
import Derived.Test.YtlgjgigciapkfaaNets
set_option linter.unusedSimpArgs false
set_option linter.unusedVariables false
namespace Go.Proofs.Ytlgjgigciapkfaa
open Go.Aw Go

theorem Tri.turn {P : Program} {f : FuncId} {args : Array Value} {L : List Blk} {R : List Sl} {Post Post' : VPost} (h : Tri P f args L R Post)
    (k : ∀ v L' R', Post v L' R' → ∃ L'' R'', L'.Perm L'' ∧ (∀ r ∈ R'', InR r R') ∧ Post' v L'' R'') : Tri P f args L R Post' :=
  ⟨h.1, fun w G hh => (h.2 w G hh).mono fun e w' ⟨v, L', R', he, hp, hst⟩ => by
    obtain ⟨L'', R'', h1, h2, h3⟩ := k v L' R' hp
    exact ⟨v, L'', R'', he, h3, (hst.perm h1).weak (List.Sublist.refl _) h2⟩⟩
/-- the first pressure at which a test holds -/
def nextS (g : Int → Bool) (start : Int) (up : Bool) : Option Int :=
  ((List.range ((room up start).toNat + 1)).find? fun (m : Nat) => g (start + sgn up * (m : Int))).map fun (m : Nat) => start + sgn up * (m : Int)
theorem nextS_some {g : Int → Bool} {start : Int} {up : Bool} {v : Int} (h : First g start up v true) : nextS g start up = some v := by
  obtain ⟨m, m0, m1, mv, mg, mj⟩ := h.yes rfl
  have e : (List.range ((room up start).toNat + 1)).find? (fun (m : Nat) => g (start + sgn up * (m : Int))) = some m.toNat := by
    rw [List.find?_range_eq_some]
    refine ⟨?_, List.mem_range.2 (by omega), fun j hj => ?_⟩
    · rw [Int.toNat_of_nonneg m0, ← mv]; exact mg
    · rw [mj j (by omega) (by omega)]; rfl
  rw [nextS, e, Option.map_some, Int.toNat_of_nonneg m0, mv]
theorem nextS_none {g : Int → Bool} {start : Int} {up : Bool} {v : Int} (h0 : 0 ≤ room up start) (h : First g start up v false) : nextS g start up = none := by
  obtain ⟨_, hj⟩ := h.no rfl
  have e : (List.range ((room up start).toNat + 1)).find? (fun (m : Nat) => g (start + sgn up * (m : Int))) = none := by
    rw [List.find?_range_eq_none]
    intro i hi
    rw [hj i (by omega) (by omega)]; rfl
  rw [nextS, e]; rfl
theorem first_nextS {g : Int → Bool} {start : Int} {up : Bool} {v : Int} (h0 : 0 ≤ room up start) (h : nextS g start up = some v) : First g start up v true := by
  unfold nextS at h
  obtain ⟨m, hm, rfl⟩ := Option.map_eq_some_iff.1 h
  rw [List.find?_range_eq_some] at hm
  obtain ⟨h1, h2, h3⟩ := hm
  have h2' := List.mem_range.1 h2
  refine ⟨fun _ => ⟨m, by omega, by omega, rfl, h1, fun j j0 j1 => ?_⟩, fun h => by cases h⟩
  have := h3 j.toNat (by omega)
  rw [Int.toNat_of_nonneg j0] at this
  cases e : g (start + sgn up * j) with
  | false => rfl
  | true => rw [e] at this; cases this
theorem first_next {g : Int → Bool} {start : Int} {up : Bool} {v : Int} {ok : Bool} (h0 : 0 ≤ room up start) (h : First g start up v ok) : v = (nextS g start up).getD 0 ∧ ok = (nextS g start up).isSome := by
  cases ok with
  | true => rw [nextS_some h]; exact ⟨rfl, rfl⟩
  | false => rw [nextS_none h0 h]; exact ⟨(h.no rfl).1, rfl⟩
attribute [irreducible] nextS

/-- the test of a place -/
def testG (a : XAir) (s : XSetting) (up : Bool) (l : List Int) (v : Int) : Int → Bool := if up = true then lowG a s l v else highG a s l v
def nextAt (a : XAir) (s : XSetting) (up : Bool) (l : List Int) (k : Nat) : Option Int := nextS (testG a s up l k) (l.getD k 0) up
abbrev fixB (a : XAir) (A : List Bool) (k : Nat) : Bool := !(A.getD k false) || (a.mine.places.l.getD k default).surface
/-- one round, up to place k -/
def sweepTo (a : XAir) (s : XSetting) (A : List Bool) (up : Bool) (l : List Int) : Nat → Option (List Int)
  | 0 => some l
  | k + 1 => (sweepTo a s A up l k).bind fun m => if fixB a A k = true then some m else (nextAt a s up m k).map fun v => m.set k v
/-- rounds until nothing changes -/
def roundsS (a : XAir) (s : XSetting) (A : List Bool) (up : Bool) : Nat → List Int → Option (List Int)
  | 0, _ => none
  | n + 1, l => match sweepTo a s A up l a.mine.places.l.length with
    | none => none
    | some m => if m = l then some m else roundsS a s A up n m
def startBad (a : XAir) (ps : List Int) (A : List Bool) (i : Nat) : Option Int := if fixB a A i = true ∧ ps.getD i 0 ≠ 0 then some 12 else none
/-- P12.1: the first error -/
def startErr (a : XAir) (s : XSetting) (ps : List Int) (A : List Bool) : Int :=
  if airErr a ≠ 0 then airErr a else if fitB a s = false then 21 else if ps.length ≠ a.mine.places.l.length then 11
  else if (ps.findSome? presBad).isSome = true then 1 else ((List.range a.mine.places.l.length).findSome? (startBad a ps A)).getD 0
/-- P12.1 -/
def relaxS (a : XAir) (s : XSetting) (A : List Bool) (up : Bool) (ps : List Int) : Int × List Int :=
  if startErr a s ps A ≠ 0 then (startErr a s ps A, []) else match roundsS a s A up 200 ps with
    | none => (2, [])
    | some l => (0, l)
/-- P12.2 -/
def solveS (a : XAir) (s : XSetting) (A : List Bool) : Int × List Int × List Int :=
  let p := relaxS a s A false (List.replicate a.mine.places.l.length 0)
  if p.1 ≠ 0 then (p.1, [], []) else
    let q := relaxS a s A true p.2
    if q.1 ≠ 0 then (q.1, [], []) else
      let r := relaxS a s A false q.2
      if r.1 ≠ 0 then (r.1, [], []) else (0, r.2, q.2)

structure StartOk (a : XAir) (s : XSetting) (ps : List Int) (A : List Bool) : Prop where
  h0 : airErr a = 0
  hf : fitB a s = true
  hl : ps.length = a.mine.places.l.length
  hp : PresOk ps
  fix : ∀ i : Nat, i < a.mine.places.l.length → fixB a A i = true → ps.getD i 0 = 0
theorem startErr_iff {a : XAir} {s : XSetting} {ps : List Int} {A : List Bool} : startErr a s ps A = 0 ↔ StartOk a s ps A := by
  constructor
  · intro h
    unfold startErr at h
    split at h
    · rename_i h1; exact absurd h h1
    rename_i h1
    split at h
    · cases h
    rename_i h2
    split at h
    · cases h
    rename_i h3
    split at h
    · cases h
    rename_i h4
    refine ⟨by omega, by simpa using h2, by omega, presOk_of (by simpa using h4), fun i hi hf => ?_⟩
    have hn : (List.range a.mine.places.l.length).findSome? (startBad a ps A) = none := by
      cases e : (List.range a.mine.places.l.length).findSome? (startBad a ps A) with
      | none => rfl
      | some v =>
        obtain ⟨j, _, hj⟩ := List.exists_of_findSome?_eq_some e
        unfold startBad at hj
        split at hj
        · cases hj; rw [e] at h; cases h
        · cases hj
    rw [List.findSome?_eq_none_iff] at hn
    have := hn i (List.mem_range.2 hi)
    unfold startBad at this
    split at this
    · cases this
    · rename_i h5
      exact Decidable.not_not.1 fun h6 => h5 ⟨hf, h6⟩
  · intro h
    rw [startErr, if_neg (by rw [h.h0]; decide), if_neg (by rw [h.hf]; decide), if_neg (by rw [h.hl]; simp), if_neg (by rw [presOk_none h.hp]; simp), List.findSome?_eq_none_iff.2 (fun i hi => show startBad a ps A i = none from if_neg (fun h' => h'.2 (h.fix i (List.mem_range.1 hi) h'.1)))]
    rfl

theorem nextAt_pres {a : XAir} {s : XSetting} {up : Bool} {l : List Int} {k : Nat} {v : Int} (h : PresOk l) (hv : nextAt a s up l k = some v) : -70368744177664 ≤ v ∧ v ≤ 70368744177664 := by
  obtain ⟨m, m0, m1, mv, _, _⟩ := (first_nextS (room_in (h.get k)).1 hv).yes rfl
  rw [mv]
  exact sgn_in (h.get k) ⟨m0, m1⟩
structure Swept (a : XAir) (s : XSetting) (A : List Bool) (up : Bool) (l : List Int) (k : Nat) (m : List Int) : Prop where
  to : sweepTo a s A up l k = some m
  len : m.length = l.length
  pres : PresOk m
  rest : ∀ j : Nat, k ≤ j → m[j]? = l[j]?
theorem Swept.zero {a : XAir} {s : XSetting} {A : List Bool} {up : Bool} {l : List Int} (h : PresOk l) : Swept a s A up l 0 l := ⟨rfl, rfl, h, fun _ _ => rfl⟩
theorem Swept.skip {a : XAir} {s : XSetting} {A : List Bool} {up : Bool} {l m : List Int} {k : Nat} (h : Swept a s A up l k m) (hf : fixB a A k = true) : Swept a s A up l (k + 1) m :=
  ⟨by rw [sweepTo, h.to, Option.bind_some, if_pos hf], h.len, h.pres, fun j hj => h.rest j (by omega)⟩
theorem Swept.fail {a : XAir} {s : XSetting} {A : List Bool} {up : Bool} {l m : List Int} {k : Nat} (h : Swept a s A up l k m) (hf : ¬ fixB a A k = true) (hn : nextAt a s up m k = none) : ∀ n, k + 1 ≤ n → sweepTo a s A up l n = none := by
  intro n hn2
  induction n with
  | zero => omega
  | succ n ih =>
    rcases Nat.lt_or_ge k n with h1 | h1
    · rw [sweepTo, ih (by omega)]; rfl
    · obtain rfl : n = k := by omega
      rw [sweepTo, h.to, Option.bind_some, if_neg hf, hn]; rfl
theorem Swept.next {a : XAir} {s : XSetting} {A : List Bool} {up : Bool} {l m : List Int} {k : Nat} (h : Swept a s A up l k m) (hf : ¬ fixB a A k = true) {v : Int} (hv : nextAt a s up m k = some v) : Swept a s A up l (k + 1) (m.set k v) :=
  ⟨by rw [sweepTo, h.to, Option.bind_some, if_neg hf, hv]; rfl, by rw [List.length_set]; exact h.len, h.pres.set _ (nextAt_pres h.pres hv), fun j hj => by rw [List.getElem?_set_ne (by omega)]; exact h.rest j (by omega)⟩
/-- something has changed so far -/
theorem Swept.flag {a : XAir} {s : XSetting} {A : List Bool} {up : Bool} {l m : List Int} {k : Nat} (h : Swept a s A up l k m) (hk : k < l.length) (v : Int) : decide (m.set k v ≠ l) = (decide (m ≠ l) || decide (v ≠ m.getD k 0)) := by
  have hlen := h.len
  have hg := get_D (l := m) (k := k) 0 (by omega)
  by_cases h1 : v = m.getD k 0
  · rw [h1, set_self]; simp
  · have h2 : m.set k v ≠ l := fun e => by
      have h3 := h.rest k (Nat.le_refl _)
      rw [← e, List.getElem?_set_self (by omega), hg] at h3
      exact h1 (Option.some.inj h3).symm
    rw [decide_eq_true h2, decide_eq_true h1, Bool.or_true]
theorem rounds_next {a : XAir} {s : XSetting} {A : List Bool} {up : Bool} {n : Nat} {l m : List Int} (hs : sweepTo a s A up l a.mine.places.l.length = some m) (hne : m ≠ l) : roundsS a s A up (n + 1) l = roundsS a s A up n m := by
  rw [roundsS, hs]; exact if_neg hne
theorem rounds_done {a : XAir} {s : XSetting} {A : List Bool} {up : Bool} {n : Nat} {l : List Int} (hs : sweepTo a s A up l a.mine.places.l.length = some l) : roundsS a s A up (n + 1) l = some l := by
  rw [roundsS, hs]; exact if_pos rfl
theorem rounds_fail {a : XAir} {s : XSetting} {A : List Bool} {up : Bool} {n : Nat} {l : List Int} (hs : sweepTo a s A up l a.mine.places.l.length = none) : roundsS a s A up (n + 1) l = none := by
  rw [roundsS, hs]

end Go.Proofs.Ytlgjgigciapkfaa
