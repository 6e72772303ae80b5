/-
  Arguments, opened by their types. By an AI agent; no person has read it.
-/
import Derived.Test.YtlgjgigciapkfaaClose
set_option linter.unusedSimpArgs false
set_option linter.unusedVariables false
namespace Go.Proofs.Ytlgjgigciapkfaa
open Go.Aw Go
open Go.ChangeShapes Go.WideShapes Go.ChangeAt Go.RowKit

/-- the cells read as something of the type -/
def Rd (P : Program) (w : World) (t : TypeId) (cs : List Value) : Prop := ∃ (H : Type) (enc : TypeId × Value → H) (fuel : Nat) (x : DataW H × List MemPlace), DataW.trod enc P w 0 (fun _ => true) true fuel t cs = some x

/-- what reads as something of the type is a Lean value's cells, and its slices lie in memory -/
def Opens (P : Program) (t : TypeId) {α : Type} (f : α → List Value) (subs : α → List Sl) (ok : α → Prop) : Prop :=
  ∀ (w : World) (cs : List Value), Rd P w t cs → ∃ a : α, cs = f a ∧ ok a ∧ ∀ s ∈ subs a, Rep w (Old w) s

theorem opens_int {P : Program} {t : TypeId} {k : IntKind} (ht : P.underlying t = some (.int k)) : Opens P t (fun n => [.int k n]) (fun _ => []) (fun n => (Lit.int k n).wf = true) := by
  rintro w cs ⟨H, enc, fuel, x, hx⟩
  obtain ⟨n, rfl, _, hw⟩ := DataW.trod_int ht hx
  exact ⟨n, rfl, hw, fun _ h => by cases h⟩
theorem opens_slice {P : Program} {t e : TypeId} {wd : Nat} {α : Type} {f : α → List Value} {subs : α → List Sl} {ok : α → Prop} (ht : P.underlying t = some (.slice e)) (hc : P.cellsOf e = wd) (hw : 0 < wd) (hf : ∀ a, (f a).length = wd) (he : Opens P e f subs ok) :
    Opens P t (fun x : Arr α => [x.val]) (fun x => [x.sl wd f (x.l.flatMap subs)]) (fun x => ∀ a ∈ x.l, ok a) := by
  rintro w cs ⟨H, enc, fuel, x, hx⟩
  rcases DataW.trod_slice ht hx with ⟨rfl, _⟩ | ⟨a, len, cap, elems, rest, n, _, rfl, _, _, hl, hm, hlen, hel, _, _⟩
  · exact ⟨⟨none, 0, []⟩, rfl, (fun _ h => by cases h), fun s hs => by rw [List.mem_singleton.1 hs]; exact rep_nil⟩
  · have each : ∀ k, k ≤ len → ∃ l : List α, l.length = k ∧ (∀ (i : Nat) (y : α), l[i]? = some y → w.cells? 0 (a.add (i * wd)) wd = some (f y)) ∧ (∀ y ∈ l, ok y) ∧ ∀ s ∈ l.flatMap subs, Rep w (Old w) s := by
      intro k
      induction k with
      | zero => exact fun _ => ⟨[], rfl, (fun i y h => by simp at h), (fun _ h => by cases h), fun _ h => by simp at h⟩
      | succ k ih =>
        intro hk
        obtain ⟨l, h1, h2, h3, h4⟩ := ih (by omega)
        have hb := hel k (by omega)
        rw [List.getElem?_eq_getElem (by omega), hc, Option.bind_eq_some_iff] at hb
        obtain ⟨cs, hcs, hy⟩ := hb
        obtain ⟨y, rfl, hok, hsub⟩ := he w cs ⟨H, enc, n, _, hy⟩
        refine ⟨l ++ [y], by simp [h1], fun i z hi => ?_, fun z hz => ?_, fun s hs => ?_⟩
        · rcases Nat.lt_or_ge i l.length with hlt | hge
          · rw [List.getElem?_append_left hlt] at hi
            exact h2 i z hi
          · rw [List.getElem?_append_right hge] at hi
            obtain ⟨h5, h6⟩ := List.getElem?_eq_some_iff.1 hi
            simp at h5
            obtain rfl : i = k := by omega
            simp at h6
            rw [← h6]
            exact hcs
        · rcases List.mem_append.1 hz with h | h
          · exact h3 z h
          · rw [List.mem_singleton.1 h]; exact hok
        · rw [List.flatMap_append] at hs
          rcases List.mem_append.1 hs with h | h
          · exact h4 s h
          · exact hsub s (by simpa using h)
    obtain ⟨l, h1, h2, h3, h4⟩ := each len (Nat.le_refl _)
    refine ⟨⟨some a, cap, l⟩, by rw [← h1], h3, fun s hs => ?_⟩
    rw [List.mem_singleton.1 hs]
    refine .mk (by simp) (by rw [h1]; exact hl) (by simp only [maxLen] at hm; show cap < _; omega) (fun r hr => by obtain ⟨y, _, rfl⟩ := List.mem_map.1 hr; exact hf y) ?_ h4
    rcases Nat.eq_zero_or_pos len with h0 | h0
    · left
      cases l with
      | nil => rfl
      | cons y l => simp at h1; omega
    · right
      have cell : ∀ (i j : Nat) (y : α), l[i]? = some y → j < wd → w.cell? ((a.add (i * wd)).add j) = (f y)[j]? := fun i j y hi hj => by
        obtain ⟨_, h7, h8⟩ := World.cells?_some (h2 i y hi)
        exact h8 j (by omega)
      obtain ⟨y0, hy0⟩ := get_some (l := l) (k := 0) (by omega)
      obtain ⟨v0, hv0⟩ := get_some (l := f y0) (k := 0) (by rw [hf]; omega)
      have hc0 := cell 0 0 y0 hy0 hw
      rw [hv0] at hc0
      obtain ⟨b, off, spot⟩ := a
      have hspot : spot = none := by simpa [Addr.add] using World.cell?_spot hc0
      subst hspot
      refine ⟨b, off, rfl, cell_old (a := ⟨b, off, none⟩) (v := v0) (by simpa [Addr.add] using hc0), fun i j hi hj => ?_⟩
      obtain ⟨y, hy⟩ := get_some (l := l) (k := i) hi
      have := cell i j y hy hj
      rw [add_none, add_none] at this
      rw [this, List.getElem?_map, hy]
      rfl

theorem Opens.conv {P : Program} {t : TypeId} {α : Type} {f : α → List Value} {subs subs' : α → List Sl} {ok ok' : α → Prop} (h : Opens P t f subs ok) (hs : ∀ a, subs' a = subs a) (ho : ∀ a, ok a → ok' a) : Opens P t f subs' ok' := fun w cs hr => by
  obtain ⟨a, h1, h2, h3⟩ := h w cs hr
  exact ⟨a, h1, ho a h2, by rw [hs a]; exact h3⟩

theorem flat_none {α : Type} (l : List α) : l.flatMap (fun _ => ([] : List Sl)) = [] := by induction l <;> simp_all
theorem op_u8 : Opens Try.prog 5 (fun n : Int => [.int .u8 n]) (fun _ => []) (fun n => (Lit.int .u8 n).wf = true) := opens_int Try.underlying5
theorem op_bytes : Opens Try.prog 22 (fun x : Arr Int => [x.val]) (fun x => [bsl x]) (fun x => ∀ n ∈ x.l, (Lit.int .u8 n).wf = true) :=
  (opens_slice (wd := 1) Try.underlying22 (by kernel_rfl) (by decide) (fun _ => rfl) op_u8).conv (fun x => by rw [flat_none]; rfl) (fun _ h => h)
end Go.Proofs.Ytlgjgigciapkfaa
