/-
  What holds of an air without errors, in plain numbers. By an AI agent; no person has read it.
-/
import Derived.Test.YtimnnhdeicpenaaSearch
import Derived.Test.YtimnnhdeicpenaaRest
set_option linter.unusedSimpArgs false
set_option linter.unusedVariables false
namespace Go.Proofs.Ytimnnhdeicpenaa
open Go.Aw Go

theorem findSome_zero {α : Type} {f : α → Option Int} {l : List α} (hf : ∀ x e, f x = some e → e ≠ 0) (h : (l.findSome? f).getD 0 = 0) : ∀ x ∈ l, f x = none := by
  have hn : l.findSome? f = none := by
    cases hs : l.findSome? f with
    | none => rfl
    | some e =>
      rw [hs] at h
      obtain ⟨x, _, hx⟩ := List.exists_of_findSome?_eq_some hs
      exact absurd h (hf x e hx)
  exact List.findSome?_eq_none_iff.1 hn

structure RoadOk (n : Nat) (r : XRoad) : Prop where
  fr : 0 ≤ r.fr ∧ r.fr < n
  to : 0 ≤ r.to ∧ r.to < n
  ne : r.fr ≠ r.to
  rest : 1 ≤ r.rest.low ∧ r.rest.low ≤ r.rest.high ∧ r.rest.high ≤ 262144
  lift : -2199023255552 ≤ r.lift.low ∧ r.lift.low ≤ r.lift.high ∧ r.lift.high ≤ 2199023255552

theorem spanB_iff {s : XSpan} {lo hi : Int} : spanB s lo hi = true ↔ lo ≤ s.low ∧ s.low ≤ s.high ∧ s.high ≤ hi := by simp [spanB]

structure MineOk (m : XMine) : Prop where
  places : m.places.l.length ≤ 64
  roads : m.roads.l.length ≤ 128
  road : ∀ (i : Nat) (r : XRoad), m.roads.l[i]? = some r → RoadOk m.places.l.length r

theorem mineOk_of {m : XMine} (h : mineErr m = 0) : MineOk m := by
  unfold mineErr at h
  split at h
  · cases h
  rename_i hlen
  split at h
  · rename_i e he
    subst h
    obtain ⟨x, _, hx⟩ := List.exists_of_findSome?_eq_some he
    unfold placeErr at hx
    split at hx <;> cases hx
  have hall := findSome_zero (f := roadErr m.places.l.length) (fun x e hx he => by
    subst he
    unfold roadErr at hx
    split at hx
    · cases hx
    · split at hx <;> cases hx) h
  refine ⟨by omega, by omega, fun i r hr => ?_⟩
  have := hall r (List.mem_of_getElem? hr)
  unfold roadErr at this
  split at this
  · cases this
  rename_i h1
  split at this
  · cases this
  rename_i h2
  have e1 : spanB r.rest 1 262144 = true := by
    cases hb : spanB r.rest 1 262144 with
    | true => rfl
    | false => exact absurd (.inr (.inr (.inr (.inr (.inl hb))))) h2
  have e2 : spanB r.lift (-2199023255552) 2199023255552 = true := by
    cases hb : spanB r.lift (-2199023255552) 2199023255552 with
    | true => rfl
    | false => exact absurd (.inr (.inr (.inr (.inr (.inr hb))))) h2
  exact ⟨by omega, by omega, by omega, spanB_iff.1 e1, spanB_iff.1 e2⟩

structure DoorOk (d : XDoor) : Prop where
  road : 0 ≤ d.road
  len : 2 ≤ d.rests.l.length ∧ d.rests.l.length ≤ 6
  rest : ∀ (i : Nat) (x : Int), d.rests.l[i]? = some x → 0 ≤ x ∧ x ≤ 262144
  falls : fallsB d.rests.l d.rests.l.length = true

theorem doorsOk_of {l : List XDoor} (h : doorsErr l = 0) : l.length ≤ 16 ∧ ∀ (i : Nat) (d : XDoor), l[i]? = some d → DoorOk d ∧ ¬ pairBad l i d := by
  unfold doorsErr at h
  split at h
  · cases h
  rename_i hlen
  have hre : ∀ (x : Int) (e : Int), restErr x = some e → e = 1 := fun x e he => by
    unfold restErr at he
    split at he <;> cases he
    rfl
  have hall := findSome_zero (f := doorErr l) (fun i e hx he => by
    subst he
    unfold doorErr at hx
    split at hx
    · cases hx
    · split at hx
      · cases hx
      · split at hx
        · cases hx
        · split at hx
          · rename_i e' he'
            obtain ⟨x, _, hx'⟩ := List.exists_of_findSome?_eq_some he'
            have := hre x _ hx'
            cases hx
            cases this
          · split at hx
            · cases hx
            · split at hx <;> cases hx) h
  refine ⟨by omega, fun i d hd => ?_⟩
  obtain ⟨hi, _⟩ := List.getElem?_eq_some_iff.1 hd
  have := hall i (List.mem_range.2 hi)
  rw [doorErr_at hd] at this
  split at this
  · cases this
  rename_i h1
  split at this
  · cases this
  rename_i h2
  split at this
  · cases this
  rename_i h3
  split at this
  · cases this
  rename_i h4
  split at this
  · cases this
  rename_i h5
  refine ⟨⟨by omega, by omega, fun k x hx => ?_, by simpa using h4⟩, h5⟩
  have := List.findSome?_eq_none_iff.1 h3 x (List.mem_of_getElem? hx)
  unfold restErr at this
  split at this
  · cases this
  · omega

theorem minTo_bounds {l : List Int} (h : ∀ (i : Nat) (x : Int), l[i]? = some x → 0 ≤ x ∧ x ≤ 262144) : ∀ (k : Nat), k ≤ l.length → 1 ≤ l.length → 0 ≤ minTo l k ∧ minTo l k ≤ l.getD 0 0 ∧ l.getD 0 0 ≤ maxTo l k ∧ maxTo l k ≤ 262144
  | 0, _, hl => by have := h 0 _ (get_D 0 (by omega)); simp only [minTo, maxTo]; omega
  | k + 1, hk, hl => by
    have ih := minTo_bounds h k (by omega) hl
    have := h k _ (get_D 0 (by omega))
    simp only [minTo, maxTo]
    omega

theorem restS_bounds {d : XDoor} (h : DoorOk d) (s : Int) : 0 ≤ (restS d s).low ∧ (restS d s).low ≤ (restS d s).high ∧ (restS d s).high ≤ 262144 := by
  unfold restS
  split
  · simp
  · rename_i hc
    split
    · have := minTo_bounds h.rest d.rests.l.length (Nat.le_refl _) (by omega)
      dsimp only; omega
    · have := h.rest s.toNat _ (get_D 0 (by omega))
      dsimp only; omega

structure AirOk (a : XAir) : Prop where
  mine : MineOk a.mine
  nfans : a.fans.l.length ≤ 8
  fan : ∀ (i : Nat) (f : XFan), a.fans.l[i]? = some f → FanOk f ∧ f.road < a.mine.roads.l.length
  ndoors : a.doors.l.length ≤ 16
  door : ∀ (i : Nat) (d : XDoor), a.doors.l[i]? = some d → DoorOk d ∧ d.road < a.mine.roads.l.length

theorem airOk_of {a : XAir} (h : airErr a = 0) : AirOk a := by
  unfold airErr at h
  split at h
  · rename_i h1; exact absurd h h1
  rename_i h1
  split at h
  · cases h
  rename_i h2
  split at h
  · rename_i e he
    subst h
    obtain ⟨x, _, hx⟩ := List.exists_of_findSome?_eq_some he
    unfold fanIn at hx
    split at hx
    · rename_i hne
      exact absurd (Option.some.inj hx) hne
    · split at hx <;> cases hx
  rename_i hfn
  split at h
  · rename_i h3; exact absurd h h3
  rename_i h3
  have hdo := doorsOk_of (by simpa using h3)
  have hdi := findSome_zero (f := doorIn a.mine.roads.l.length) (fun x e hx he => by
    subst he
    unfold doorIn at hx
    split at hx <;> cases hx) h
  refine ⟨mineOk_of (by simpa using h1), by omega, fun i f hf => ?_, hdo.1, fun i d hd => ⟨(hdo.2 i d hd).1, ?_⟩⟩
  · have := List.findSome?_eq_none_iff.1 hfn f (List.mem_of_getElem? hf)
    unfold fanIn at this
    split at this
    · cases this
    rename_i h4
    split at this
    · cases this
    exact ⟨fanOk_of (by simpa using h4), by omega⟩
  · have := hdi d (List.mem_of_getElem? hd)
    unfold doorIn at this
    split at this
    · cases this
    · omega

structure FitOk (a : XAir) (s : XSetting) : Prop where
  lf : s.fans.l.length = a.fans.l.length
  ld : s.doors.l.length = a.doors.l.length
  fan : ∀ (i : Nat) (x : Int), s.fans.l[i]? = some x → -1 ≤ x ∧ x ≤ 2
  door : ∀ (i : Nat) (x : Int) (d : XDoor), s.doors.l[i]? = some x → a.doors.l[i]? = some d → -1 ≤ x ∧ x < d.rests.l.length

theorem fitOk_of {a : XAir} {s : XSetting} (h : fitB a s = true) : FitOk a s := by
  unfold fitB at h
  split at h
  · cases h
  rename_i h1
  simp only [Bool.and_eq_true, Option.isNone_iff_eq_none] at h
  refine ⟨by omega, by omega, fun i x hx => ?_, fun i x d hx hd => ?_⟩
  · have := List.findSome?_eq_none_iff.1 h.1 x (List.mem_of_getElem? hx)
    unfold fanStBad at this
    split at this
    · cases this
    · omega
  · obtain ⟨hi, _⟩ := List.getElem?_eq_some_iff.1 hx
    have := List.findSome?_eq_none_iff.1 h.2 i (List.mem_range.2 hi)
    rw [doorStBad_at hx hd] at this
    split at this
    · cases this
    · omega

theorem right_of {a : XAir} {s : XSetting} (h : rightB a s = true) : AirOk a ∧ FitOk a s := by
  simp only [rightB, Bool.and_eq_true, decide_eq_true_eq] at h
  exact ⟨airOk_of h.1, fitOk_of h.2⟩
end Go.Proofs.Ytimnnhdeicpenaa
