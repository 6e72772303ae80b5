import Derived.Test.YtlgjgigciapkfaaDraws
import Derived.ProofKit
import Derived.OpenShut
import Derived.ShutString
import Derived.ChangeOld
import Derived.Below
import Derived.Test.YtlgjgigciapkfaaChecks
import Derived.Test.YtlgjgigciapkfaaFans
import Derived.Test.YtlgjgigciapkfaaOwn
section
/-
  From a contract to a statement: the frame. By an AI agent; no person has read it.
-/
set_option linter.unusedSimpArgs false
set_option linter.unusedVariables false
namespace Go.Proofs.Ytlgjgigciapkfaa
open Go.Aw Go
open Go.ChangeShapes Go.WideShapes Go.ChangeAt Go.RowKit

theorem own_knob : ownKnob Try.prog.godebug = none := by kernel_rfl
theorem laidOut : laidOutB Try.prog = true := by kernel_rfl

abbrev Old (W : World) : Nat → Prop := fun b => b < W.heap.size

theorem holds_old {W : World} {R : List Sl} (h : ∀ r ∈ R, Rep W (Old W) r) : Holds [] (Old W) R W :=
  ⟨List.nodup_nil, (fun e he => by cases he), (fun e he => by cases he), (fun _ h => h), h⟩

theorem below_of {W W' : World} {G : Nat → Prop} {L' : List Blk} {R' : List Sl} (h : St ⟨W, inL [], G⟩ L' R' W') : Below W.heap.size W W' :=
  ⟨h.keep.os, h.keep.tape, h.keep.output, h.keep.size, fun k hk => h.keep.block k hk (fun ⟨e, he, _⟩ => by cases he)⟩

theorem wf_u8 {n : Int} (h : (Lit.int .u8 n).wf = true) : 0 ≤ n ∧ n ≤ 255 := by
  simp only [Lit.wf, Bool.and_eq_true, decide_eq_true_eq] at h
  exact h

theorem cell_old {W : World} {a : Addr} {v : Value} (h : W.cell? a = some v) : a.block < W.heap.size := by
  rcases Nat.lt_or_ge a.block W.heap.size with h' | h'
  · exact h'
  · unfold World.cell? at h
    rw [Array.getElem?_eq_none h'] at h
    simp at h

end Go.Proofs.Ytlgjgigciapkfaa
end
section
/-
  Arguments, opened by their types. By an AI agent; no person has read it.
-/
set_option linter.unusedSimpArgs false
set_option linter.unusedVariables false
namespace Go.Proofs.Ytlgjgigciapkfaa
open Go.Aw Go
open Go.ChangeShapes Go.WideShapes Go.ChangeAt Go.RowKit

def Rd (P : Program) (w : World) (t : TypeId) (cs : List Value) : Prop := ∃ (H : Type) (enc : TypeId × Value → H) (fuel : Nat) (x : DataW H × List MemPlace), DataW.trod enc P w 0 (fun _ => true) true fuel t cs = some x

def Opens (P : Program) (t : TypeId) {α : Type} (f : α → List Value) (subs : α → List Sl) (ok : α → Prop) : Prop :=
  ∀ (w : World) (cs : List Value), Rd P w t cs → ∃ a : α, cs = f a ∧ ok a ∧ ∀ s ∈ subs a, Rep w (Old w) s

theorem opens_int {P : Program} {t : TypeId} {k : IntKind} (ht : P.underlying t = some (.int k)) : Opens P t (fun n => [.int k n]) (fun _ => []) (fun n => (Lit.int k n).wf = true) := by
  rintro w cs ⟨H, enc, fuel, x, hx⟩
  obtain ⟨n, rfl, _, hw⟩ := DataW.trod_int ht hx
  exact ⟨n, rfl, hw, fun _ h => by cases h⟩
theorem opens_slice {P : Program} {t e : TypeId} {wd : Nat} {α : Type} {f : α → List Value} {subs : α → List Sl} {ok : α → Prop} (ht : P.underlying t = some (.slice e)) (hc : P.cellsOf e = wd) (hw : 0 < wd) (hf : ∀ a, (f a).length = wd) (he : Opens P e f subs ok) :
    Opens P t (fun x : Arr α => [x.val]) (fun x => [x.sl wd f (x.l.flatMap subs)]) (fun x => ∀ a ∈ x.l, ok a) := by
  rintro w cs ⟨H, enc, fuel, x, hx⟩
  rcases DataW.trod_slice ht hx with ⟨rfl, _⟩ | ⟨a, len, cap, elems, rest, n, _, rfl, _, _, hl, hm, hlen, hel, _, _⟩
  · exact ⟨⟨none, 0, []⟩, rfl, (fun _ h => by cases h), fun s hs => by rw [List.mem_singleton.1 hs]; exact rep_nil⟩
  · have each : ∀ k, k ≤ len → ∃ l : List α, l.length = k ∧ (∀ (i : Nat) (y : α), l[i]? = some y → w.cells? 0 (a.add (i * wd)) wd = some (f y)) ∧ (∀ y ∈ l, ok y) ∧ ∀ s ∈ l.flatMap subs, Rep w (Old w) s := by
      intro k
      induction k with
      | zero => exact fun _ => ⟨[], rfl, (fun i y h => by simp at h), (fun _ h => by cases h), fun _ h => by simp at h⟩
      | succ k ih =>
        intro hk
        obtain ⟨l, h1, h2, h3, h4⟩ := ih (by omega)
        have hb := hel k (by omega)
        rw [List.getElem?_eq_getElem (by omega), hc, Option.bind_eq_some_iff] at hb
        obtain ⟨cs, hcs, hy⟩ := hb
        obtain ⟨y, rfl, hok, hsub⟩ := he w cs ⟨H, enc, n, _, hy⟩
        refine ⟨l ++ [y], by simp [h1], fun i z hi => ?_, fun z hz => ?_, fun s hs => ?_⟩
        · rcases Nat.lt_or_ge i l.length with hlt | hge
          · rw [List.getElem?_append_left hlt] at hi
            exact h2 i z hi
          · rw [List.getElem?_append_right hge] at hi
            obtain ⟨h5, h6⟩ := List.getElem?_eq_some_iff.1 hi
            simp at h5
            obtain rfl : i = k := by omega
            simp at h6
            rw [← h6]
            exact hcs
        · rcases List.mem_append.1 hz with h | h
          · exact h3 z h
          · rw [List.mem_singleton.1 h]; exact hok
        · rw [List.flatMap_append] at hs
          rcases List.mem_append.1 hs with h | h
          · exact h4 s h
          · exact hsub s (by simpa using h)
    obtain ⟨l, h1, h2, h3, h4⟩ := each len (Nat.le_refl _)
    refine ⟨⟨some a, cap, l⟩, by rw [← h1], h3, fun s hs => ?_⟩
    rw [List.mem_singleton.1 hs]
    refine .mk (by simp) (by rw [h1]; exact hl) (by simp only [maxLen] at hm; show cap < _; omega) (fun r hr => by obtain ⟨y, _, rfl⟩ := List.mem_map.1 hr; exact hf y) ?_ h4
    rcases Nat.eq_zero_or_pos len with h0 | h0
    · left
      cases l with
      | nil => rfl
      | cons y l => simp at h1; omega
    · right
      have cell : ∀ (i j : Nat) (y : α), l[i]? = some y → j < wd → w.cell? ((a.add (i * wd)).add j) = (f y)[j]? := fun i j y hi hj => by
        obtain ⟨_, h7, h8⟩ := World.cells?_some (h2 i y hi)
        exact h8 j (by omega)
      obtain ⟨y0, hy0⟩ := get_some (l := l) (k := 0) (by omega)
      obtain ⟨v0, hv0⟩ := get_some (l := f y0) (k := 0) (by rw [hf]; omega)
      have hc0 := cell 0 0 y0 hy0 hw
      rw [hv0] at hc0
      obtain ⟨b, off, spot⟩ := a
      have hspot : spot = none := by simpa [Addr.add] using World.cell?_spot hc0
      subst hspot
      refine ⟨b, off, rfl, cell_old (a := ⟨b, off, none⟩) (v := v0) (by simpa [Addr.add] using hc0), fun i j hi hj => ?_⟩
      obtain ⟨y, hy⟩ := get_some (l := l) (k := i) hi
      have := cell i j y hy hj
      rw [add_none, add_none] at this
      rw [this, List.getElem?_map, hy]
      rfl

theorem Opens.conv {P : Program} {t : TypeId} {α : Type} {f : α → List Value} {subs subs' : α → List Sl} {ok ok' : α → Prop} (h : Opens P t f subs ok) (hs : ∀ a, subs' a = subs a) (ho : ∀ a, ok a → ok' a) : Opens P t f subs' ok' := fun w cs hr => by
  obtain ⟨a, h1, h2, h3⟩ := h w cs hr
  exact ⟨a, h1, ho a h2, by rw [hs a]; exact h3⟩

theorem flat_none {α : Type} (l : List α) : l.flatMap (fun _ => ([] : List Sl)) = [] := by induction l <;> simp_all
theorem op_u8 : Opens Try.prog 5 (fun n : Int => [.int .u8 n]) (fun _ => []) (fun n => (Lit.int .u8 n).wf = true) := opens_int Try.underlying5
theorem op_bytes : Opens Try.prog 22 (fun x : Arr Int => [x.val]) (fun x => [bsl x]) (fun x => ∀ n ∈ x.l, (Lit.int .u8 n).wf = true) :=
  (opens_slice (wd := 1) Try.underlying22 (by kernel_rfl) (by decide) (fun _ => rfl) op_u8).conv (fun x => by rw [flat_none]; rfl) (fun _ h => h)
end Go.Proofs.Ytlgjgigciapkfaa
end
section
/-
  Places that open roads connect. By an AI agent; no person has read it.
-/
set_option linter.unusedSimpArgs false
set_option linter.unusedVariables false
namespace Go.Proofs.Ytlgjgigciapkfaa
open Go.Aw Go

def blc (b : Bool) : List Value := [.bool b]
theorem blc_len (b : Bool) : (blc b).length = 1 := rfl
abbrev blsl (x : Arr Bool) : Sl := x.sl 1 blc []
def Step (m : XMine) (u v : Nat) : Prop := ∃ r ∈ m.roads.l, r.closed = false ∧ ((r.fr = (u : Int) ∧ r.to = (v : Int)) ∨ (r.fr = (v : Int) ∧ r.to = (u : Int)))
inductive Conn (m : XMine) (u : Nat) : Nat → Prop
  | refl : Conn m u u
  | tail {v w : Nat} (h : Conn m u v) (k : Step m v w) : Conn m u w
theorem Step.symm {m : XMine} {u v : Nat} (h : Step m u v) : Step m v u := by
  obtain ⟨r, hr, hc, h1 | h1⟩ := h
  · exact ⟨r, hr, hc, .inr h1⟩
  · exact ⟨r, hr, hc, .inl h1⟩
theorem Conn.trans {m : XMine} {u v w : Nat} (h : Conn m u v) (k : Conn m v w) : Conn m u w := by
  induction k with
  | refl => exact h
  | tail _ s ih => exact ih.tail s
theorem Conn.symm {m : XMine} {u v : Nat} (h : Conn m u v) : Conn m v u := by
  induction h with
  | refl => exact .refl
  | tail _ s ih => exact (Conn.refl.tail s.symm).trans ih
theorem Conn.closed {m : XMine} {P : Nat → Prop} (hP : ∀ u v, P u → Step m u v → P v) {u v : Nat} (h : Conn m u v) (hu : P u) : P v := by
  induction h with
  | refl => exact hu
  | tail _ s ih => exact hP _ _ ih s
theorem Step.lt {m : XMine} (hm : MineOk m) {u v : Nat} (h : Step m u v) : u < m.places.l.length ∧ v < m.places.l.length := by
  obtain ⟨r, hr, _, h1⟩ := h
  obtain ⟨i, hi⟩ := List.mem_iff_getElem?.1 hr
  have hro := hm.road i r hi
  have h2 := hro.fr
  have h3 := hro.to
  rcases h1 with h1 | h1 <;> omega
structure FromIs (m : XMine) (seen l : List Bool) : Prop where
  len : l.length = seen.length
  iff : ∀ i : Nat, i < seen.length → (l.getD i false = true ↔ ∃ j : Nat, j < seen.length ∧ seen.getD j false = true ∧ Conn m j i)
theorem FromIs.unique {m : XMine} {seen l l' : List Bool} (h : FromIs m seen l) (h' : FromIs m seen l') : l = l' := by
  have e1 := h.len
  have e2 := h'.len
  refine List.ext_getElem (by omega) fun i h1 h2 => ?_
  have a1 := h.iff i (by omega)
  have a2 := h'.iff i (by omega)
  rw [← a2] at a1
  have g1 := get_D (l := l) (k := i) false h1
  have g2 := get_D (l := l') (k := i) false h2
  rw [List.getElem?_eq_getElem h1] at g1
  rw [List.getElem?_eq_getElem h2] at g2
  rw [Option.some.inj g1, Option.some.inj g2]
  cases e : l.getD i false <;> cases e' : l'.getD i false <;> simp_all
def surf (m : XMine) : List Bool := m.places.l.map XPlace.surface
abbrev AiryIs (m : XMine) (l : List Bool) : Prop := FromIs m (surf m) l

structure FromTo (m : XMine) (seen l : List Bool) : Prop where
  len : l.length = seen.length
  sub : ∀ i : Nat, seen.getD i false = true → l.getD i false = true
  conn : ∀ i : Nat, l.getD i false = true → ∃ j : Nat, j < seen.length ∧ seen.getD j false = true ∧ Conn m j i
theorem getD_setB {l : List Bool} {k i : Nat} {v : Bool} (hk : k < l.length) : (l.set k v).getD i false = if i = k then v else l.getD i false := by
  rw [List.getD_eq_getElem?_getD, List.getElem?_set, List.getD_eq_getElem?_getD]
  split
  · rename_i h; subst h; simp [hk]
  · rename_i h; rw [if_neg (fun e => h e.symm)]
theorem getD_lt {l : List Bool} {i : Nat} (h : l.getD i false = true) : i < l.length := by
  rcases Nat.lt_or_ge i l.length with h' | h'
  · exact h'
  · rw [List.getD_eq_getElem?_getD, List.getElem?_eq_none h'] at h; cases h
theorem FromTo.init {m : XMine} {seen : List Bool} : FromTo m seen seen := ⟨rfl, fun _ h => h, fun i h => ⟨i, getD_lt h, h, .refl⟩⟩
theorem FromTo.next {m : XMine} {seen l : List Bool} (h : FromTo m seen l) {u v : Nat} (hs : Step m u v) (hu : u < l.length) (hv : v < l.length) (hne : l.getD u false ≠ l.getD v false) : FromTo m seen ((l.set u true).set v true) := by
  have e1 : ∀ i, ((l.set u true).set v true).getD i false = if i = v then true else if i = u then true else l.getD i false := fun i => by
    rw [getD_setB (by simpa using hv), getD_setB hu]
  refine ⟨by simp [h.len], fun i hi => ?_, fun i hi => ?_⟩
  · rw [e1]
    split
    · rfl
    · split
      · rfl
      · exact h.sub i hi
  · rw [e1] at hi
    have both : ∃ j : Nat, j < seen.length ∧ seen.getD j false = true ∧ Conn m j u ∧ Conn m j v := by
      cases e : l.getD u false with
      | true =>
        obtain ⟨j, j1, j2, j3⟩ := h.conn u e
        exact ⟨j, j1, j2, j3, j3.tail hs⟩
      | false =>
        have e2 : l.getD v false = true := by
          cases e3 : l.getD v false with
          | true => rfl
          | false => rw [e, e3] at hne; exact absurd rfl hne
        obtain ⟨j, j1, j2, j3⟩ := h.conn v e2
        exact ⟨j, j1, j2, j3.tail hs.symm, j3⟩
    obtain ⟨j, j1, j2, j3, j4⟩ := both
    by_cases hiv : i = v
    · rw [hiv]; exact ⟨j, j1, j2, j4⟩
    · rw [if_neg hiv] at hi
      by_cases hiu : i = u
      · rw [hiu]; exact ⟨j, j1, j2, j3⟩
      · rw [if_neg hiu] at hi
        exact h.conn i hi
theorem FromTo.done {m : XMine} {seen l : List Bool} (h : FromTo m seen l) (hr : ∀ r ∈ m.roads.l, r.closed = false → l.getD r.fr.toNat false = l.getD r.to.toNat false) : FromIs m seen l := by
  refine ⟨h.len, fun i hi => ⟨h.conn i, fun ⟨j, j1, j2, j3⟩ => ?_⟩⟩
  refine Conn.closed (P := fun x => l.getD x false = true) (fun u v hu hs => ?_) j3 (h.sub j j2)
  obtain ⟨r, hr1, hc, h1 | h1⟩ := hs
  · have := hr r hr1 hc
    rw [h1.1, h1.2, Int.toNat_natCast, Int.toNat_natCast] at this
    rw [← this]; exact hu
  · have := hr r hr1 hc
    rw [h1.1, h1.2, Int.toNat_natCast, Int.toNat_natCast] at this
    rw [this]; exact hu
def nFalse (l : List Bool) : Nat := l.countP (fun b => !b)
theorem nFalse_set {l : List Bool} {i : Nat} (hi : i < l.length) (h : l.getD i false = false) : nFalse (l.set i true) + 1 = nFalse l := by
  unfold nFalse
  have hg : l[i] = false := by
    have := get_D (l := l) (k := i) false hi
    rw [List.getElem?_eq_getElem hi, h] at this
    exact Option.some.inj this
  rw [List.countP_set hi, hg]
  have : 0 < List.countP (fun b => !b) l := List.countP_pos_iff.2 ⟨l[i], List.getElem_mem hi, by rw [hg]; rfl⟩
  simp
  omega
theorem nFalse_set_le {l : List Bool} {i : Nat} (hi : i < l.length) : nFalse (l.set i true) ≤ nFalse l := by
  unfold nFalse
  rw [List.countP_set hi]
  cases hg : l[i] with
  | true => simp
  | false => simp
theorem nFalse_two {l : List Bool} {u v : Nat} (hu : u < l.length) (hv : v < l.length) (hne : l.getD u false ≠ l.getD v false) : nFalse ((l.set u true).set v true) < nFalse l := by
  cases e : l.getD u false with
  | false =>
    have h1 := nFalse_set hu e
    have h2 := nFalse_set_le (l := l.set u true) (i := v) (by simpa using hv)
    omega
  | true =>
    have e2 : l.getD v false = false := by
      cases e3 : l.getD v false with
      | false => rfl
      | true => rw [e, e3] at hne; exact absurd rfl hne
    have huv : v ≠ u := fun h => by rw [h, e] at e2; cases e2
    have h1 := nFalse_set_le (l := l) (i := u) hu
    have h2 := nFalse_set (l := l.set u true) (i := v) (by simpa using hv) (by rw [getD_setB hu, if_neg huv]; exact e2)
    omega
end Go.Proofs.Ytlgjgigciapkfaa
end
section
/-
  Fits: FlowS, FlowM, FitsF, Copy, Mades, Wide, in one text. By an AI agent; no person has read it.
-/
set_option linter.unusedSimpArgs false
set_option linter.unusedVariables false
section
namespace Go.Proofs.Ytlgjgigciapkfaa
open Go.Aw Go

structure LowIs (f : Int → XSpan) (p z : Int) : Prop where
  bnd : -1048577 ≤ z ∧ z ≤ 1048576
  le : ∀ x, -1048577 < x → x ≤ z → (f x).high ≤ p
  gt : ∀ x, z < x → x ≤ 1048576 → p < (f x).high
structure HighIs (f : Int → XSpan) (p z : Int) : Prop where
  bnd : -1048576 ≤ z ∧ z ≤ 1048577
  lt : ∀ x, -1048576 ≤ x → x < z → (f x).low < p
  ge : ∀ x, z ≤ x → x < 1048577 → p ≤ (f x).low

theorem flowLow_is {a : XAir} {s : XSetting} (ha : AirOk a) {r : Int} (hr : 0 ≤ r ∧ r < a.mine.roads.l.length) (p : Int) : LowIs (innerS a s r) p (flowLow (innerS a s r) p) := by
  obtain ⟨a1, a2, a3, a4⟩ := lowS_all (pr := p) (rises_high (s := s) ha hr) _ (-1048577) 1048576 rfl (by omega) (by omega) (by omega)
  exact ⟨⟨a1, a2⟩, a3, a4⟩
theorem flowHigh_is {a : XAir} {s : XSetting} (ha : AirOk a) {r : Int} (hr : 0 ≤ r ∧ r < a.mine.roads.l.length) (p : Int) : HighIs (innerS a s r) p (flowHigh (innerS a s r) p) := by
  obtain ⟨a1, a2, a3, a4⟩ := highS_all (pr := p) (rises_low (s := s) ha hr) _ (-1048576) 1048577 rfl (by omega) (by omega) (by omega)
  exact ⟨⟨a1, a2⟩, a3, a4⟩

theorem flowLow_mono {a : XAir} {s : XSetting} (ha : AirOk a) {r : Int} (hr : 0 ≤ r ∧ r < a.mine.roads.l.length) {p p' : Int} (hp : p ≤ p') : flowLow (innerS a s r) p ≤ flowLow (innerS a s r) p' := by
  have h1 := flowLow_is (s := s) ha hr p
  have h2 := flowLow_is (s := s) ha hr p'
  generalize flowLow (innerS a s r) p = l at *
  generalize flowLow (innerS a s r) p' = h at *
  rcases Int.lt_or_le h l with hlt | hle
  · have b1 := h1.bnd
    have b2 := h2.bnd
    have k1 := h2.gt l hlt (by omega)
    have k2 := h1.le l (by omega) (Int.le_refl _)
    omega
  · exact hle
theorem flowHigh_mono {a : XAir} {s : XSetting} (ha : AirOk a) {r : Int} (hr : 0 ≤ r ∧ r < a.mine.roads.l.length) {p p' : Int} (hp : p ≤ p') : flowHigh (innerS a s r) p ≤ flowHigh (innerS a s r) p' := by
  have h1 := flowHigh_is (s := s) ha hr p
  have h2 := flowHigh_is (s := s) ha hr p'
  generalize flowHigh (innerS a s r) p = l at *
  generalize flowHigh (innerS a s r) p' = h at *
  rcases Int.lt_or_le h l with hlt | hle
  · have b1 := h1.bnd
    have b2 := h2.bnd
    have k1 := h1.lt h (by omega) hlt
    have k2 := h2.ge h (Int.le_refl _) (by omega)
    omega
  · exact hle

end Go.Proofs.Ytlgjgigciapkfaa

end
section
namespace Go.Proofs.Ytlgjgigciapkfaa
open Go.Aw Go

end Go.Proofs.Ytlgjgigciapkfaa

end
section
namespace Go.Proofs.Ytlgjgigciapkfaa
open Go.Aw Go

structure FitsF (a : XAir) (s : XSetting) (x : XState) : Prop where
  plen : x.pres.l.length = a.mine.places.l.length
  flen : x.flows.l.length = a.mine.roads.l.length
  pres : ∀ p ∈ x.pres.l, -70368744177664 ≤ p ∧ p ≤ 70368744177664
  flow : ∀ q ∈ x.flows.l, -1048576 ≤ q ∧ q ≤ 1048576
  road : ∀ i, i < a.mine.roads.l.length → roadUnfit a s x i = none
  place : ∀ i, i < a.mine.places.l.length → placeUnfit a x (netTo a x x.flows.l.length) i = none

theorem fitsF_of {a : XAir} {s : XSetting} {x : XState} (h0 : airErr a = 0) (h1 : fitB a s = true) (h : fitsS a s x = 0) : FitsF a s x := by
  by_cases hl : x.pres.l.length ≠ a.mine.places.l.length ∨ x.flows.l.length ≠ a.mine.roads.l.length
  · rw [fitsS, if_neg (by simp [h0]), if_neg (by simp [h1]), if_pos hl] at h
    cases h
  · rw [fitsS_at h0 h1 hl] at h
    have hp : x.pres.l.findSome? presBad = none := by
      cases e : x.pres.l.findSome? presBad with
      | none => rfl
      | some v =>
        rw [e] at h
        obtain ⟨p, _, hp⟩ := List.exists_of_findSome?_eq_some e
        unfold presBad at hp
        split at hp
        · cases hp; cases h
        · cases hp
    rw [hp] at h
    dsimp only at h
    have hq : x.flows.l.findSome? flowBad = none := by
      cases e : x.flows.l.findSome? flowBad with
      | none => rfl
      | some v =>
        rw [e] at h
        obtain ⟨p, _, hp⟩ := List.exists_of_findSome?_eq_some e
        unfold flowBad at hp
        split at hp
        · cases hp; cases h
        · cases hp
    rw [hq] at h
    dsimp only at h
    have hr : (List.range x.flows.l.length).findSome? (roadUnfit a s x) = none := by
      cases e : (List.range x.flows.l.length).findSome? (roadUnfit a s x) with
      | none => rfl
      | some v =>
        rw [e] at h
        obtain ⟨p, _, hp⟩ := List.exists_of_findSome?_eq_some e
        unfold roadUnfit at hp
        dsimp only at hp
        split at hp
        · cases hp; cases h
        · cases hp
    rw [hr] at h
    dsimp only at h
    have hk : (List.range x.pres.l.length).findSome? (placeUnfit a x (netTo a x x.flows.l.length)) = none := by
      cases e : (List.range x.pres.l.length).findSome? (placeUnfit a x (netTo a x x.flows.l.length)) with
      | none => rfl
      | some v =>
        rw [e] at h
        obtain ⟨p, _, hp⟩ := List.exists_of_findSome?_eq_some e
        unfold placeUnfit at hp
        split at hp
        · cases hp; cases h
        · cases hp
    refine ⟨by omega, by omega, fun p hm => ?_, fun q hm => ?_, fun i hi => ?_, fun i hi => ?_⟩
    · have := List.findSome?_eq_none_iff.1 hp p hm
      unfold presBad at this
      split at this
      · cases this
      · omega
    · have := List.findSome?_eq_none_iff.1 hq q hm
      unfold flowBad at this
      split at this
      · cases this
      · omega
    · exact List.findSome?_eq_none_iff.1 hr i (List.mem_range.2 (by omega))
    · exact List.findSome?_eq_none_iff.1 hk i (List.mem_range.2 (by omega))

theorem FitsF.shut {a : XAir} {s : XSetting} {x : XState} (h : FitsF a s x) {i : Nat} (hi : i < a.mine.roads.l.length) (hc : (a.mine.roads.l.getD i default).closed = true) : x.flows.l.getD i 0 = 0 := by
  have := h.road i hi
  unfold roadUnfit at this
  dsimp only at this
  split at this
  · cases this
  · rename_i hn
    rcases Int.decEq (x.flows.l.getD i 0) 0 with h0 | h0
    · exact absurd (.inl ⟨hc, h0⟩) hn
    · exact h0
theorem FitsF.fit {a : XAir} {s : XSetting} {x : XState} (h : FitsF a s x) {i : Nat} (hi : i < a.mine.roads.l.length) (hc : (a.mine.roads.l.getD i default).closed = false) :
    (innerS a s i (x.flows.l.getD i 0)).low ≤ x.pres.l.getD (a.mine.roads.l.getD i default).fr.toNat 0 - x.pres.l.getD (a.mine.roads.l.getD i default).to.toNat 0 ∧ x.pres.l.getD (a.mine.roads.l.getD i default).fr.toNat 0 - x.pres.l.getD (a.mine.roads.l.getD i default).to.toNat 0 ≤ (innerS a s i (x.flows.l.getD i 0)).high := by
  have := h.road i hi
  unfold roadUnfit at this
  dsimp only at this
  split at this
  · cases this
  · rename_i hn
    refine ⟨Int.not_lt.1 fun h1 => hn (.inr ⟨hc, .inl h1⟩), Int.not_lt.1 fun h1 => hn (.inr ⟨hc, .inr h1⟩)⟩
theorem FitsF.inside {a : XAir} {s : XSetting} {x : XState} (h : FitsF a s x) (ha : AirOk a) {i : Nat} (hi : i < a.mine.roads.l.length) (hc : (a.mine.roads.l.getD i default).closed = false) {d : Int}
    (hd : d = x.pres.l.getD (a.mine.roads.l.getD i default).fr.toNat 0 - x.pres.l.getD (a.mine.roads.l.getD i default).to.toNat 0) :
    flowLow (innerS a s i) d ≤ x.flows.l.getD i 0 ∧ x.flows.l.getD i 0 ≤ flowHigh (innerS a s i) d := by
  have hf := h.fit hi hc
  rw [← hd] at hf
  have hr : (0 : Int) ≤ (i : Int) ∧ (i : Int) < a.mine.roads.l.length := by omega
  have hfl := h.flen
  have hq := h.flow _ (List.mem_of_getElem? (get_D (l := x.flows.l) (k := i) 0 (by omega)))
  have h1 := flowLow_is (s := s) ha hr d
  have h2 := flowHigh_is (s := s) ha hr d
  generalize flowLow (innerS a s i) d = l at *
  generalize flowHigh (innerS a s i) d = u at *
  generalize x.flows.l.getD i 0 = q at *
  have b1 := h1.bnd
  have b2 := h2.bnd
  refine ⟨Int.not_lt.1 fun hl => ?_, Int.not_lt.1 fun hl => ?_⟩
  · have k1 := h1.le l (by omega) (Int.le_refl _)
    have k2 := (innerS_mono (s := s) ha hr hl).2
    omega
  · have k1 := h2.ge u (Int.le_refl _) (by omega)
    have k2 := (innerS_mono (s := s) ha hr hl).1
    omega
end Go.Proofs.Ytlgjgigciapkfaa

end
section
namespace Go.Aw
open Go

theorem run_append_none {P : Program} (w : World) (t ty e : TypeId) (i : TypeInfo) (ht : P.underlying t = some (.slice e)) (hi : P.info? e = some i) (ar : Option Addr) (c : Nat) :
    (Builtin.append_ #[t, t] ty #[.slice none 0 0, .slice ar 0 c]).run P w = .ok (.slice none 0 0) w := by
  cases ar with
  | none => simp [Builtin.append_, run_underlying ht, sizeOf, typeInfo, hi, Builtin.lenOf, run_firstCells_none, Builtin.firstCells]
  | some a =>
    have hf := run_firstCells_some (P := P) w i.size 0 a 0 c [] (by simp) (by simp)
    simp [Builtin.append_, run_underlying ht, sizeOf, typeInfo, hi, Builtin.lenOf, hf]

section
variable {P : Program} {ρ : Operand → Value} {L : List Blk} {R : List Sl} {dst : Option Tmp} {ty : TypeId} {pos : String} {after : Array Edge} {guard : Option (Nat × Bool)} (tb : Tabs P) {T : TypeId} {x y : Operand}

theorem yv_neq_bool {T2 : TypeId} {a b : Bool} {n1 f1 b1 z1} (hT : getT tb.tab T = some ⟨.bool, n1, f1, b1, z1⟩) (hx : ρ x = .bool a) (hy : ρ y = .bool b) : YV P ⟨dst, .binOp .neq T x y T2, ty, pos, after, guard⟩ ρ L R (.bool (decide (¬ a = b))) := fun _ _ _ => by
  have hb := fun w => run_equal_bool (P := P) w T a b (under_bool (tb.ok _ _ hT) rfl)
  simp [execOp, hx, hy, eqGuard, binOp, hb]
  cases a <;> cases b <;> rfl

theorem gives_copy {α : Type} {e n fl bt z k2 n2 fl2 bt2 z2} {f : α → List Value} {xs : Arr α} {subs : List Sl} (hT : getT tb.tab T = some ⟨.slice e, n, fl, bt, z⟩) (hE : getT tb.tab e = some ⟨k2, n2, fl2, bt2, z2⟩) (hn2 : z2.length = n2) (h0 : 0 < n2)
    (hx : ρ x = .slice none 0 0) (hy : ρ y = xs.val) (hR : InR (xs.sl n2 f subs) R) (h1 : ∀ a, (f a).all (·.oneCell') = true) (hby : xs.l.length * (bt2 + 1) ≤ 140737488355328) :
    Gives P ⟨dst, .call ⟨.builtin .append, #[x, y], #[T, T]⟩, ty, pos, after, guard⟩ ρ L R (fun v L' R' => ∃ o : Ow, v = (⟨o, xs.l⟩ : OwL α).val ∧ (⟨o, xs.l⟩ : OwL α).ok n2 f ∧ (⟨o, xs.l⟩ : OwL α).L e f ++ L = L' ∧ R = R') := by
  intro c w hst a next Q kk
  obtain ⟨ar, cap, l⟩ := xs
  cases l with
  | nil =>
    have hu := under_slice (tb.ok _ _ hT) rfl
    obtain ⟨ti, u, zv, i1, i2, i3, i4⟩ := facts_parts (tb.ok _ _ hE)
    have e1 : execOp ρ ⟨dst, .call ⟨.builtin .append, #[x, y], #[T, T]⟩, ty, pos, after, guard⟩ = (do pure (.value (← Builtin.append_ #[T, T] ty #[ρ x, ρ y]))) := by
      simp [execOp, resolve, invoke, builtin]
    have hr := run_append_none w T ty e ti hu i1 ar cap
    refine upon_value (w' := w) (v := .slice none 0 0) ?_ (kk _ _ _ w ⟨.nil, rfl, ⟨rfl, rfl⟩, rfl, rfl⟩ hst)
    rw [e1, hx, hy]
    simp only [Arr.val, List.length_nil, Sem.run_bind, hr, Result.andThen_ok, Sem.run_pure]
  | cons x0 l =>
    have hw : ∀ r ∈ (x0 :: l).map f, r.length = n2 := by
      have hst' := hst
      obtain ⟨⟨G, hh, _⟩, _, _⟩ := hst'
      obtain ⟨r, hr, hsub⟩ := hR
      have hrep := (hh.rep r hr).sub hsub
      cases hrep with
      | mk _ _ _ hw _ _ => exact hw
    have hf0 : ((x0 :: l).map f).flatten = (x0 :: l).flatMap f := rows_map _
    have hfl : ((x0 :: l).map f).flatten.length = (x0 :: l).length * n2 := by
      have : ∀ rows : List (List Value), (∀ r ∈ rows, r.length = n2) → rows.flatten.length = rows.length * n2 := by
        intro rows
        induction rows with
        | nil => intro _; simp
        | cons r rows ih =>
          intro h
          rw [List.flatten_cons, List.length_append, ih fun r hr => h r (by simp [hr]), h r (by simp), List.length_cons, Nat.succ_mul]
          omega
      rw [this _ hw, List.length_map]
    have hs := shown_ro (L := L) hR h0 (fun c w hst => by
      obtain ⟨⟨G, hh, _⟩, _, _⟩ := hst
      obtain ⟨r, hr, hsub⟩ := hR
      have hrep := (hh.rep r hr).sub hsub
      cases hrep with
      | mk _ _ _ _ hm _ =>
        rcases hm with h | ⟨b, off, ha, _⟩
        · simp at h
        · exact ⟨b, off, ha⟩) hfl ⟨c, w, hst⟩
    have hb1 : (x0 :: l).length * bt2 ≤ 140737488355328 := Nat.le_trans (Nat.mul_le_mul_left _ (Nat.le_succ _)) hby
    have hb2 : (x0 :: l).length ≤ 140737488355328 := Nat.le_trans (Nat.le_mul_of_pos_right _ (Nat.succ_pos _)) hby
    have hs2 : Shown L R (ρ y) (x0 :: l).length n2 ((x0 :: l).map f).flatten := by rw [hy]; exact hs
    have hall : (((x0 :: l).map f).flatten).all (·.oneCell') = true := by
      rw [List.all_eq_true]
      intro v hv
      obtain ⟨r, hr, hv⟩ := List.mem_flatten.1 hv
      obtain ⟨a, _, rfl⟩ := List.mem_map.1 hr
      exact List.all_eq_true.1 (h1 a) v hv
    have := gives_append (dst := dst) (ty := ty) (pos := pos) (after := after) (guard := guard) (s := .nil) (xs := []) (len := 0) (L := L) (f := fun Y => Y ++ L) tb hT hE hn2 hx ⟨rfl, rfl⟩ Seg.here hs2 (by simp) hall (by omega) (by rw [Nat.zero_add]; exact hb1)
    refine this c w hst a next Q ?_
    rintro v L' R' w' ⟨g, cap2, spare, rfl, hok', rfl, rfl⟩ hst'
    rw [List.nil_append, hf0, Nat.zero_add] at hok'
    refine kk _ _ _ w' ⟨.own g cap2 spare, ?_, hok', ?_, rfl⟩ hst'
    · rw [Nat.zero_add]; rfl
    · rw [List.nil_append, hf0]; rfl
end

theorem Off.leftu {ws : List Nat} {t0 t : Nat → Value} {d : Nat} {v : Value} (hd : memN d ws = true) (h : Off ws t0 t) : Off ws (Aw.upd t0 d v) t := fun k hk => by
  rw [h k hk]
  exact ((Off.upd hd (Off.refl (ws := ws) (t := t0))) k hk).symm
theorem Tri.cast {P : Program} {f : FuncId} {args args' : Array Value} {L : List Blk} {R : List Sl} {Post : VPost} (h : Tri P f args L R Post) (e : args = args') : Tri P f args' L R Post := e ▸ h
section
variable {P : Program} {n : Nat} {all : Array Oper} {op : Op} {ty : TypeId} {pos : String} {after : Array Edge} {rest : List Oper} {t : Nat → Value} {L : List Blk} {R : List Sl} {Q : TPost} {d : Tmp} {v : Value} {g : Option (Nat × Bool)}
theorem LJ_qg (hv : YV P ⟨some d, op, ty, pos, after, g⟩ (ev t) L R v) (hw : wantT all t g = true) (hd : Nat.blt d n = true) (h : LJ P n all rest (upd t d v) L R Q) : LJ P n all (⟨some d, op, ty, pos, after, g⟩ :: rest) t L R Q := LJ_quiet hv hw hd h
theorem LJ_gg {Post : VPost} (hg : Gives P ⟨some d, op, ty, pos, after, g⟩ (ev t) L R Post) (hw : wantT all t g = true) (hd : Nat.blt d n = true) (h : ∀ v L' R', Post v L' R' → LJ P n all rest (upd t d v) L' R' Q) : LJ P n all (⟨some d, op, ty, pos, after, g⟩ :: rest) t L R Q := LJ_gives hg hw hd h
theorem LJ_callg {f : FuncId} {xs : List Operand} {ts : Array TypeId} {args : List Value} {Post : VPost} (ha : xs.map (ev t) = args) (h : Tri P f args.toArray L R Post) (hw : wantT all t g = true) (hd : Nat.blt d n = true)
    (k : ∀ v L' R', Post v L' R' → LJ P n all rest (upd t d v) L' R' Q) : LJ P n all (⟨some d, .call ⟨.value (.func f), xs.toArray, ts⟩, ty, pos, after, g⟩ :: rest) t L R Q :=
  LJ_gg (gives_call (by rw [List.map_toArray, ha]) rfl h) hw hd k
theorem LJ_skg (hw : wantT all t g = false) (hd : Nat.blt d n = true) (h : LJ P n all rest (upd t d undef) L R Q) : LJ P n all (⟨some d, op, ty, pos, after, g⟩ :: rest) t L R Q := LJ_skip hw hd h
end
end Go.Aw

end
section
namespace Go.Proofs.Ytlgjgigciapkfaa
open Go.Aw Go
set_option maxRecDepth 20000
attribute [local irreducible] CJ LJ DJ Tri YV Gives seqK blockK loopK retK RV mergeK OwL.L

end Go.Proofs.Ytlgjgigciapkfaa

end
section
namespace Go.Proofs.Ytlgjgigciapkfaa
open Go.Aw Go


end Go.Proofs.Ytlgjgigciapkfaa

end
end
