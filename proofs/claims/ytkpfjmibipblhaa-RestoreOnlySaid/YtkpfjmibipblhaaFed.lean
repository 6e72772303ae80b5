import Derived.Test.YtkpfjmibipblhaaDraws
import Derived.ProofKit
import Derived.OpenShut
import Derived.ShutString
import Derived.ChangeOld
import Derived.Below
import Derived.Test.YtkpfjmibipblhaaChecks
import Derived.Test.YtkpfjmibipblhaaFans
import Derived.Test.YtkpfjmibipblhaaOwn
section
/-
  From a contract to a statement: the frame. By an AI agent; no person has read it.
-/
set_option linter.unusedSimpArgs false
set_option linter.unusedVariables false
namespace Go.Proofs.Ytkpfjmibipblhaa
open Go.Aw Go
open Go.ChangeShapes Go.WideShapes Go.ChangeAt Go.RowKit

theorem own_knob : ownKnob Try.prog.godebug = none := by kernel_rfl
theorem laidOut : laidOutB Try.prog = true := by kernel_rfl

abbrev Old (W : World) : Nat → Prop := fun b => b < W.heap.size

theorem holds_old {W : World} {R : List Sl} (h : ∀ r ∈ R, Rep W (Old W) r) : Holds [] (Old W) R W :=
  ⟨List.nodup_nil, (fun e he => by cases he), (fun e he => by cases he), (fun _ h => h), h⟩

theorem below_of {W W' : World} {G : Nat → Prop} {L' : List Blk} {R' : List Sl} (h : St ⟨W, inL [], G⟩ L' R' W') : Below W.heap.size W W' :=
  ⟨h.keep.os, h.keep.tape, h.keep.output, h.keep.size, fun k hk => h.keep.block k hk (fun ⟨e, he, _⟩ => by cases he)⟩

theorem wf_u8 {n : Int} (h : (Lit.int .u8 n).wf = true) : 0 ≤ n ∧ n ≤ 255 := by
  simp only [Lit.wf, Bool.and_eq_true, decide_eq_true_eq] at h
  exact h

theorem cell_old {W : World} {a : Addr} {v : Value} (h : W.cell? a = some v) : a.block < W.heap.size := by
  rcases Nat.lt_or_ge a.block W.heap.size with h' | h'
  · exact h'
  · unfold World.cell? at h
    rw [Array.getElem?_eq_none h'] at h
    simp at h

end Go.Proofs.Ytkpfjmibipblhaa
end
section
/-
  Arguments, opened by their types. By an AI agent; no person has read it.
-/
set_option linter.unusedSimpArgs false
set_option linter.unusedVariables false
namespace Go.Proofs.Ytkpfjmibipblhaa
open Go.Aw Go
open Go.ChangeShapes Go.WideShapes Go.ChangeAt Go.RowKit

def Rd (P : Program) (w : World) (t : TypeId) (cs : List Value) : Prop := ∃ (H : Type) (enc : TypeId × Value → H) (fuel : Nat) (x : DataW H × List MemPlace), DataW.trod enc P w 0 (fun _ => true) true fuel t cs = some x

def Opens (P : Program) (t : TypeId) {α : Type} (f : α → List Value) (subs : α → List Sl) (ok : α → Prop) : Prop :=
  ∀ (w : World) (cs : List Value), Rd P w t cs → ∃ a : α, cs = f a ∧ ok a ∧ ∀ s ∈ subs a, Rep w (Old w) s

theorem opens_int {P : Program} {t : TypeId} {k : IntKind} (ht : P.underlying t = some (.int k)) : Opens P t (fun n => [.int k n]) (fun _ => []) (fun n => (Lit.int k n).wf = true) := by
  rintro w cs ⟨H, enc, fuel, x, hx⟩
  obtain ⟨n, rfl, _, hw⟩ := DataW.trod_int ht hx
  exact ⟨n, rfl, hw, fun _ h => by cases h⟩
theorem opens_slice {P : Program} {t e : TypeId} {wd : Nat} {α : Type} {f : α → List Value} {subs : α → List Sl} {ok : α → Prop} (ht : P.underlying t = some (.slice e)) (hc : P.cellsOf e = wd) (hw : 0 < wd) (hf : ∀ a, (f a).length = wd) (he : Opens P e f subs ok) :
    Opens P t (fun x : Arr α => [x.val]) (fun x => [x.sl wd f (x.l.flatMap subs)]) (fun x => ∀ a ∈ x.l, ok a) := by
  rintro w cs ⟨H, enc, fuel, x, hx⟩
  rcases DataW.trod_slice ht hx with ⟨rfl, _⟩ | ⟨a, len, cap, elems, rest, n, _, rfl, _, _, hl, hm, hlen, hel, _, _⟩
  · exact ⟨⟨none, 0, []⟩, rfl, (fun _ h => by cases h), fun s hs => by rw [List.mem_singleton.1 hs]; exact rep_nil⟩
  · have each : ∀ k, k ≤ len → ∃ l : List α, l.length = k ∧ (∀ (i : Nat) (y : α), l[i]? = some y → w.cells? 0 (a.add (i * wd)) wd = some (f y)) ∧ (∀ y ∈ l, ok y) ∧ ∀ s ∈ l.flatMap subs, Rep w (Old w) s := by
      intro k
      induction k with
      | zero => exact fun _ => ⟨[], rfl, (fun i y h => by simp at h), (fun _ h => by cases h), fun _ h => by simp at h⟩
      | succ k ih =>
        intro hk
        obtain ⟨l, h1, h2, h3, h4⟩ := ih (by omega)
        have hb := hel k (by omega)
        rw [List.getElem?_eq_getElem (by omega), hc, Option.bind_eq_some_iff] at hb
        obtain ⟨cs, hcs, hy⟩ := hb
        obtain ⟨y, rfl, hok, hsub⟩ := he w cs ⟨H, enc, n, _, hy⟩
        refine ⟨l ++ [y], by simp [h1], fun i z hi => ?_, fun z hz => ?_, fun s hs => ?_⟩
        · rcases Nat.lt_or_ge i l.length with hlt | hge
          · rw [List.getElem?_append_left hlt] at hi
            exact h2 i z hi
          · rw [List.getElem?_append_right hge] at hi
            obtain ⟨h5, h6⟩ := List.getElem?_eq_some_iff.1 hi
            simp at h5
            obtain rfl : i = k := by omega
            simp at h6
            rw [← h6]
            exact hcs
        · rcases List.mem_append.1 hz with h | h
          · exact h3 z h
          · rw [List.mem_singleton.1 h]; exact hok
        · rw [List.flatMap_append] at hs
          rcases List.mem_append.1 hs with h | h
          · exact h4 s h
          · exact hsub s (by simpa using h)
    obtain ⟨l, h1, h2, h3, h4⟩ := each len (Nat.le_refl _)
    refine ⟨⟨some a, cap, l⟩, by rw [← h1], h3, fun s hs => ?_⟩
    rw [List.mem_singleton.1 hs]
    refine .mk (by simp) (by rw [h1]; exact hl) (by simp only [maxLen] at hm; show cap < _; omega) (fun r hr => by obtain ⟨y, _, rfl⟩ := List.mem_map.1 hr; exact hf y) ?_ h4
    rcases Nat.eq_zero_or_pos len with h0 | h0
    · left
      cases l with
      | nil => rfl
      | cons y l => simp at h1; omega
    · right
      have cell : ∀ (i j : Nat) (y : α), l[i]? = some y → j < wd → w.cell? ((a.add (i * wd)).add j) = (f y)[j]? := fun i j y hi hj => by
        obtain ⟨_, h7, h8⟩ := World.cells?_some (h2 i y hi)
        exact h8 j (by omega)
      obtain ⟨y0, hy0⟩ := get_some (l := l) (k := 0) (by omega)
      obtain ⟨v0, hv0⟩ := get_some (l := f y0) (k := 0) (by rw [hf]; omega)
      have hc0 := cell 0 0 y0 hy0 hw
      rw [hv0] at hc0
      obtain ⟨b, off, spot⟩ := a
      have hspot : spot = none := by simpa [Addr.add] using World.cell?_spot hc0
      subst hspot
      refine ⟨b, off, rfl, cell_old (a := ⟨b, off, none⟩) (v := v0) (by simpa [Addr.add] using hc0), fun i j hi hj => ?_⟩
      obtain ⟨y, hy⟩ := get_some (l := l) (k := i) hi
      have := cell i j y hy hj
      rw [add_none, add_none] at this
      rw [this, List.getElem?_map, hy]
      rfl

theorem Opens.conv {P : Program} {t : TypeId} {α : Type} {f : α → List Value} {subs subs' : α → List Sl} {ok ok' : α → Prop} (h : Opens P t f subs ok) (hs : ∀ a, subs' a = subs a) (ho : ∀ a, ok a → ok' a) : Opens P t f subs' ok' := fun w cs hr => by
  obtain ⟨a, h1, h2, h3⟩ := h w cs hr
  exact ⟨a, h1, ho a h2, by rw [hs a]; exact h3⟩

theorem flat_none {α : Type} (l : List α) : l.flatMap (fun _ => ([] : List Sl)) = [] := by induction l <;> simp_all
theorem op_u8 : Opens Try.prog 5 (fun n : Int => [.int .u8 n]) (fun _ => []) (fun n => (Lit.int .u8 n).wf = true) := opens_int Try.underlying5
theorem op_bytes : Opens Try.prog 22 (fun x : Arr Int => [x.val]) (fun x => [bsl x]) (fun x => ∀ n ∈ x.l, (Lit.int .u8 n).wf = true) :=
  (opens_slice (wd := 1) Try.underlying22 (by kernel_rfl) (by decide) (fun _ => rfl) op_u8).conv (fun x => by rw [flat_none]; rfl) (fun _ h => h)
end Go.Proofs.Ytkpfjmibipblhaa
end
section
/-
  Places that open roads connect. By an AI agent; no person has read it.
-/
set_option linter.unusedSimpArgs false
set_option linter.unusedVariables false
namespace Go.Proofs.Ytkpfjmibipblhaa
open Go.Aw Go

def blc (b : Bool) : List Value := [.bool b]
theorem blc_len (b : Bool) : (blc b).length = 1 := rfl
def surf (m : XMine) : List Bool := m.places.l.map XPlace.surface
end Go.Proofs.Ytkpfjmibipblhaa
end
section
/-
  Fits: FlowS, FlowM, FitsF, Copy, Mades, Wide, in one text. By an AI agent; no person has read it.
-/
set_option linter.unusedSimpArgs false
set_option linter.unusedVariables false
section
namespace Go.Proofs.Ytkpfjmibipblhaa
open Go.Aw Go

end Go.Proofs.Ytkpfjmibipblhaa

end
section
namespace Go.Proofs.Ytkpfjmibipblhaa
open Go.Aw Go

end Go.Proofs.Ytkpfjmibipblhaa

end
section
namespace Go.Proofs.Ytkpfjmibipblhaa
open Go.Aw Go

structure FitsF (a : XAir) (s : XSetting) (x : XState) : Prop where
  plen : x.pres.l.length = a.mine.places.l.length
  flen : x.flows.l.length = a.mine.roads.l.length
  pres : ∀ p ∈ x.pres.l, -70368744177664 ≤ p ∧ p ≤ 70368744177664
  flow : ∀ q ∈ x.flows.l, -1048576 ≤ q ∧ q ≤ 1048576
  road : ∀ i, i < a.mine.roads.l.length → roadUnfit a s x i = none
  place : ∀ i, i < a.mine.places.l.length → placeUnfit a x (netTo a x x.flows.l.length) i = none

theorem fitsF_of {a : XAir} {s : XSetting} {x : XState} (h0 : airErr a = 0) (h1 : fitB a s = true) (h : fitsS a s x = 0) : FitsF a s x := by
  by_cases hl : x.pres.l.length ≠ a.mine.places.l.length ∨ x.flows.l.length ≠ a.mine.roads.l.length
  · rw [fitsS, if_neg (by simp [h0]), if_neg (by simp [h1]), if_pos hl] at h
    cases h
  · rw [fitsS_at h0 h1 hl] at h
    have hp : x.pres.l.findSome? presBad = none := by
      cases e : x.pres.l.findSome? presBad with
      | none => rfl
      | some v =>
        rw [e] at h
        obtain ⟨p, _, hp⟩ := List.exists_of_findSome?_eq_some e
        unfold presBad at hp
        split at hp
        · cases hp; cases h
        · cases hp
    rw [hp] at h
    dsimp only at h
    have hq : x.flows.l.findSome? flowBad = none := by
      cases e : x.flows.l.findSome? flowBad with
      | none => rfl
      | some v =>
        rw [e] at h
        obtain ⟨p, _, hp⟩ := List.exists_of_findSome?_eq_some e
        unfold flowBad at hp
        split at hp
        · cases hp; cases h
        · cases hp
    rw [hq] at h
    dsimp only at h
    have hr : (List.range x.flows.l.length).findSome? (roadUnfit a s x) = none := by
      cases e : (List.range x.flows.l.length).findSome? (roadUnfit a s x) with
      | none => rfl
      | some v =>
        rw [e] at h
        obtain ⟨p, _, hp⟩ := List.exists_of_findSome?_eq_some e
        unfold roadUnfit at hp
        dsimp only at hp
        split at hp
        · cases hp; cases h
        · cases hp
    rw [hr] at h
    dsimp only at h
    have hk : (List.range x.pres.l.length).findSome? (placeUnfit a x (netTo a x x.flows.l.length)) = none := by
      cases e : (List.range x.pres.l.length).findSome? (placeUnfit a x (netTo a x x.flows.l.length)) with
      | none => rfl
      | some v =>
        rw [e] at h
        obtain ⟨p, _, hp⟩ := List.exists_of_findSome?_eq_some e
        unfold placeUnfit at hp
        split at hp
        · cases hp; cases h
        · cases hp
    refine ⟨by omega, by omega, fun p hm => ?_, fun q hm => ?_, fun i hi => ?_, fun i hi => ?_⟩
    · have := List.findSome?_eq_none_iff.1 hp p hm
      unfold presBad at this
      split at this
      · cases this
      · omega
    · have := List.findSome?_eq_none_iff.1 hq q hm
      unfold flowBad at this
      split at this
      · cases this
      · omega
    · exact List.findSome?_eq_none_iff.1 hr i (List.mem_range.2 (by omega))
    · exact List.findSome?_eq_none_iff.1 hk i (List.mem_range.2 (by omega))

end Go.Proofs.Ytkpfjmibipblhaa

end
section
namespace Go.Aw
open Go

theorem run_append_none {P : Program} (w : World) (t ty e : TypeId) (i : TypeInfo) (ht : P.underlying t = some (.slice e)) (hi : P.info? e = some i) (ar : Option Addr) (c : Nat) :
    (Builtin.append_ #[t, t] ty #[.slice none 0 0, .slice ar 0 c]).run P w = .ok (.slice none 0 0) w := by
  cases ar with
  | none => simp [Builtin.append_, run_underlying ht, sizeOf, typeInfo, hi, Builtin.lenOf, run_firstCells_none, Builtin.firstCells]
  | some a =>
    have hf := run_firstCells_some (P := P) w i.size 0 a 0 c [] (by simp) (by simp)
    simp [Builtin.append_, run_underlying ht, sizeOf, typeInfo, hi, Builtin.lenOf, hf]

section
variable {P : Program} {ρ : Operand → Value} {L : List Blk} {R : List Sl} {dst : Option Tmp} {ty : TypeId} {pos : String} {after : Array Edge} {guard : Option (Nat × Bool)} (tb : Tabs P) {T : TypeId} {x y : Operand}

theorem gives_copy {α : Type} {e n fl bt z k2 n2 fl2 bt2 z2} {f : α → List Value} {xs : Arr α} {subs : List Sl} (hT : getT tb.tab T = some ⟨.slice e, n, fl, bt, z⟩) (hE : getT tb.tab e = some ⟨k2, n2, fl2, bt2, z2⟩) (hn2 : z2.length = n2) (h0 : 0 < n2)
    (hx : ρ x = .slice none 0 0) (hy : ρ y = xs.val) (hR : InR (xs.sl n2 f subs) R) (h1 : ∀ a, (f a).all (·.oneCell') = true) (hby : xs.l.length * (bt2 + 1) ≤ 140737488355328) :
    Gives P ⟨dst, .call ⟨.builtin .append, #[x, y], #[T, T]⟩, ty, pos, after, guard⟩ ρ L R (fun v L' R' => ∃ o : Ow, v = (⟨o, xs.l⟩ : OwL α).val ∧ (⟨o, xs.l⟩ : OwL α).ok n2 f ∧ (⟨o, xs.l⟩ : OwL α).L e f ++ L = L' ∧ R = R') := by
  intro c w hst a next Q kk
  obtain ⟨ar, cap, l⟩ := xs
  cases l with
  | nil =>
    have hu := under_slice (tb.ok _ _ hT) rfl
    obtain ⟨ti, u, zv, i1, i2, i3, i4⟩ := facts_parts (tb.ok _ _ hE)
    have e1 : execOp ρ ⟨dst, .call ⟨.builtin .append, #[x, y], #[T, T]⟩, ty, pos, after, guard⟩ = (do pure (.value (← Builtin.append_ #[T, T] ty #[ρ x, ρ y]))) := by
      simp [execOp, resolve, invoke, builtin]
    have hr := run_append_none w T ty e ti hu i1 ar cap
    refine upon_value (w' := w) (v := .slice none 0 0) ?_ (kk _ _ _ w ⟨.nil, rfl, ⟨rfl, rfl⟩, rfl, rfl⟩ hst)
    rw [e1, hx, hy]
    simp only [Arr.val, List.length_nil, Sem.run_bind, hr, Result.andThen_ok, Sem.run_pure]
  | cons x0 l =>
    have hw : ∀ r ∈ (x0 :: l).map f, r.length = n2 := by
      have hst' := hst
      obtain ⟨⟨G, hh, _⟩, _, _⟩ := hst'
      obtain ⟨r, hr, hsub⟩ := hR
      have hrep := (hh.rep r hr).sub hsub
      cases hrep with
      | mk _ _ _ hw _ _ => exact hw
    have hf0 : ((x0 :: l).map f).flatten = (x0 :: l).flatMap f := rows_map _
    have hfl : ((x0 :: l).map f).flatten.length = (x0 :: l).length * n2 := by
      have : ∀ rows : List (List Value), (∀ r ∈ rows, r.length = n2) → rows.flatten.length = rows.length * n2 := by
        intro rows
        induction rows with
        | nil => intro _; simp
        | cons r rows ih =>
          intro h
          rw [List.flatten_cons, List.length_append, ih fun r hr => h r (by simp [hr]), h r (by simp), List.length_cons, Nat.succ_mul]
          omega
      rw [this _ hw, List.length_map]
    have hs := shown_ro (L := L) hR h0 (fun c w hst => by
      obtain ⟨⟨G, hh, _⟩, _, _⟩ := hst
      obtain ⟨r, hr, hsub⟩ := hR
      have hrep := (hh.rep r hr).sub hsub
      cases hrep with
      | mk _ _ _ _ hm _ =>
        rcases hm with h | ⟨b, off, ha, _⟩
        · simp at h
        · exact ⟨b, off, ha⟩) hfl ⟨c, w, hst⟩
    have hb1 : (x0 :: l).length * bt2 ≤ 140737488355328 := Nat.le_trans (Nat.mul_le_mul_left _ (Nat.le_succ _)) hby
    have hb2 : (x0 :: l).length ≤ 140737488355328 := Nat.le_trans (Nat.le_mul_of_pos_right _ (Nat.succ_pos _)) hby
    have hs2 : Shown L R (ρ y) (x0 :: l).length n2 ((x0 :: l).map f).flatten := by rw [hy]; exact hs
    have hall : (((x0 :: l).map f).flatten).all (·.oneCell') = true := by
      rw [List.all_eq_true]
      intro v hv
      obtain ⟨r, hr, hv⟩ := List.mem_flatten.1 hv
      obtain ⟨a, _, rfl⟩ := List.mem_map.1 hr
      exact List.all_eq_true.1 (h1 a) v hv
    have := gives_append (dst := dst) (ty := ty) (pos := pos) (after := after) (guard := guard) (s := .nil) (xs := []) (len := 0) (L := L) (f := fun Y => Y ++ L) tb hT hE hn2 hx ⟨rfl, rfl⟩ Seg.here hs2 (by simp) hall (by omega) (by rw [Nat.zero_add]; exact hb1)
    refine this c w hst a next Q ?_
    rintro v L' R' w' ⟨g, cap2, spare, rfl, hok', rfl, rfl⟩ hst'
    rw [List.nil_append, hf0, Nat.zero_add] at hok'
    refine kk _ _ _ w' ⟨.own g cap2 spare, ?_, hok', ?_, rfl⟩ hst'
    · rw [Nat.zero_add]; rfl
    · rw [List.nil_append, hf0]; rfl
end

theorem gives_callv {P : Program} {ρ : Operand → Value} {L : List Blk} {R : List Sl} {dst : Option Tmp} {ty : TypeId} {pos : String} {after : Array Edge} {guard : Option (Nat × Bool)} {cal : Operand} {xs : List Operand} {ts : Array TypeId} {f : FuncId} {cap : Array Value} {args : List Value} {Post : VPost}
    (hc : ρ cal = .func (.func f) #[] cap) (ha : xs.map ρ ++ cap.toList = args) (h : Tri P f args.toArray L R Post) : Gives P ⟨dst, .call ⟨.value cal, xs.toArray, ts⟩, ty, pos, after, guard⟩ ρ L R Post := by
  intro x w hs a next Q k
  have ha' : #[] ++ xs.toArray.map ρ ++ cap = args.toArray := by rw [← ha]; simp
  have hrun : (execOp ρ ⟨dst, .call ⟨.value cal, xs.toArray, ts⟩, ty, pos, after, guard⟩).run P w = .ok (.enter f args.toArray) w := by
    have h1 := h.1 args.toArray w
    simp only [execOp, resolve, hc, Deferred.ofValue]
    simp only [Array.empty_append] at ha'
    simp only [invoke, Sem.run_bind, Sem.run_pure, Result.andThen_ok, Array.empty_append, ha']
    exact h1
  rw [hrun]
  obtain ⟨⟨G, hh, hg⟩, ho, hk⟩ := hs
  refine (h.2 w G hh).mono ?_
  rintro e w' ⟨v, L', R', rfl, hp, hst⟩
  exact k v L' R' w' hp (St.trans ⟨⟨G, hh, hg⟩, ho, hk⟩ hg hst)
theorem yv_func {P : Program} {ρ : Operand → Value} {L : List Blk} {R : List Sl} {dst : Option Tmp} {ty : TypeId} {pos : String} {after : Array Edge} {guard : Option (Nat × Bool)} {fn : Fn} {cs : List Operand} {vs : List Value} (hv : cs.map ρ = vs) :
    YV P ⟨dst, .makeFunc fn #[] cs.toArray, ty, pos, after, guard⟩ ρ L R (.func fn #[] vs.toArray) := fun _ w _ => by
  subst hv
  simp [execOp, Instr.makeFunc]

section
variable {P : Program} {n : Nat} {all : Array Oper} {op : Op} {ty : TypeId} {pos : String} {after : Array Edge} {rest : List Oper} {t : Nat → Value} {L : List Blk} {R : List Sl} {Q : TPost} {d : Tmp} {v : Value} {g : Option (Nat × Bool)}
theorem LJ_qg (hv : YV P ⟨some d, op, ty, pos, after, g⟩ (ev t) L R v) (hw : wantT all t g = true) (hd : Nat.blt d n = true) (h : LJ P n all rest (upd t d v) L R Q) : LJ P n all (⟨some d, op, ty, pos, after, g⟩ :: rest) t L R Q := LJ_quiet hv hw hd h
theorem LJ_gg {Post : VPost} (hg : Gives P ⟨some d, op, ty, pos, after, g⟩ (ev t) L R Post) (hw : wantT all t g = true) (hd : Nat.blt d n = true) (h : ∀ v L' R', Post v L' R' → LJ P n all rest (upd t d v) L' R' Q) : LJ P n all (⟨some d, op, ty, pos, after, g⟩ :: rest) t L R Q := LJ_gives hg hw hd h
theorem LJ_callg {f : FuncId} {xs : List Operand} {ts : Array TypeId} {args : List Value} {Post : VPost} (ha : xs.map (ev t) = args) (h : Tri P f args.toArray L R Post) (hw : wantT all t g = true) (hd : Nat.blt d n = true)
    (k : ∀ v L' R', Post v L' R' → LJ P n all rest (upd t d v) L' R' Q) : LJ P n all (⟨some d, .call ⟨.value (.func f), xs.toArray, ts⟩, ty, pos, after, g⟩ :: rest) t L R Q :=
  LJ_gg (gives_call (by rw [List.map_toArray, ha]) rfl h) hw hd k
theorem LJ_skg (hw : wantT all t g = false) (hd : Nat.blt d n = true) (h : LJ P n all rest (upd t d undef) L R Q) : LJ P n all (⟨some d, op, ty, pos, after, g⟩ :: rest) t L R Q := LJ_skip hw hd h
end
end Go.Aw

end
section
namespace Go.Proofs.Ytkpfjmibipblhaa
open Go.Aw Go
set_option maxRecDepth 20000
attribute [local irreducible] CJ LJ DJ Tri YV Gives seqK blockK loopK retK RV mergeK OwL.L

end Go.Proofs.Ytkpfjmibipblhaa

end
section
namespace Go.Proofs.Ytkpfjmibipblhaa
open Go.Aw Go


end Go.Proofs.Ytkpfjmibipblhaa

end
end
section
/-
  Nets: NetS, NetW, Find, LeastW, RefUp, Bal, NetP, in one text. By an AI agent; no person has read it.
-/
set_option linter.unusedSimpArgs false
set_option linter.unusedVariables false
section
namespace Go.Proofs.Ytkpfjmibipblhaa
open Go.Aw Go

section
variable {F G : (Int → XSpan) → Int → Int} {a : XAir} {s : XSetting} {ps : List Int} {v : Int}
end

end Go.Proofs.Ytkpfjmibipblhaa

end
section
namespace Go.Proofs.Ytkpfjmibipblhaa
open Go.Aw Go
set_option maxRecDepth 20000
attribute [local irreducible] CJ LJ DJ Tri YV Gives seqK blockK loopK retK RV mergeK OwL.L

section
variable {F G : (Int → XSpan) → Int → Int} {a : XAir} {s : XSetting} {ps : List Int} {v : Int}
end
end Go.Proofs.Ytkpfjmibipblhaa

end
section
namespace Go.Proofs.Ytkpfjmibipblhaa
open Go.Aw Go
set_option maxRecDepth 20000
attribute [local irreducible] CJ LJ DJ Tri YV Gives seqK blockK loopK retK RV mergeK OwL.L

abbrev sgn (up : Bool) : Int := if up then 1 else -1
abbrev room (up : Bool) (start : Int) : Int := if up then 70368744177664 - start else start + 70368744177664
end Go.Proofs.Ytkpfjmibipblhaa

end
section
namespace Go.Proofs.Ytkpfjmibipblhaa
open Go.Aw Go
set_option maxRecDepth 20000
attribute [local irreducible] CJ LJ DJ Tri YV Gives seqK blockK loopK retK RV mergeK OwL.L

end Go.Proofs.Ytkpfjmibipblhaa

end
section
namespace Go.Proofs.Ytkpfjmibipblhaa
open Go.Aw Go
set_option maxRecDepth 20000
attribute [local irreducible] CJ LJ DJ Tri YV Gives seqK blockK loopK retK RV mergeK OwL.L

end Go.Proofs.Ytkpfjmibipblhaa

end
section
namespace Go.Proofs.Ytkpfjmibipblhaa
open Go.Aw Go
set_option maxRecDepth 20000
attribute [local irreducible] CJ LJ DJ Tri YV Gives seqK blockK loopK retK RV mergeK OwL.L

section
variable {a : XAir} {s : XSetting} {ps : Arr Int} {v : Int}
end

end Go.Proofs.Ytkpfjmibipblhaa

end
section
namespace Go.Proofs.Ytkpfjmibipblhaa
open Go.Aw Go

end Go.Proofs.Ytkpfjmibipblhaa

end
end
section
/-
  The parts of a mine, in plain numbers: places are labelled by a search from place to place. By an AI agent; no person has read it.
-/
set_option linter.unusedSimpArgs false
set_option linter.unusedVariables false
namespace Go.Proofs.Ytkpfjmibipblhaa
open Go.Aw Go

end Go.Proofs.Ytkpfjmibipblhaa
end
section
/-
  plan.part. By an AI agent; no person has read it.
-/
set_option linter.unusedSimpArgs false
set_option linter.unusedVariables false
namespace Go.Proofs.Ytkpfjmibipblhaa
open Go.Aw Go
set_option maxRecDepth 20000
attribute [local irreducible] CJ LJ DJ Tri YV Gives seqK blockK loopK retK RV mergeK OwL.L

theorem CJ_R {P n code t L R R'} {Q : TPost} (h : R = R') (k : CJ P n code t L R' Q) : CJ P n code t L R Q := h ▸ k
end Go.Proofs.Ytkpfjmibipblhaa
end
section
/-
  plan.Valid, plan.CutOff, certify.Lost. By an AI agent; no person has read it.
-/
set_option linter.unusedSimpArgs false
set_option linter.unusedVariables false
namespace Go.Proofs.Ytkpfjmibipblhaa
open Go.Aw Go
set_option maxRecDepth 20000
attribute [local irreducible] CJ LJ DJ Tri YV Gives seqK blockK loopK retK RV mergeK OwL.L

end Go.Proofs.Ytkpfjmibipblhaa
end
section
/-
  The reference's search for connected places. By an AI agent; no person has read it.
-/
set_option linter.unusedSimpArgs false
set_option linter.unusedVariables false
namespace Go.Proofs.Ytkpfjmibipblhaa
open Go.Aw Go
set_option maxRecDepth 20000
attribute [local irreducible] CJ LJ DJ Tri YV Gives seqK blockK loopK retK RV mergeK OwL.L

end Go.Proofs.Ytkpfjmibipblhaa
end
section
/-
  certify.Lost, and the reference's fixed places. By an AI agent; no person has read it.
-/
set_option linter.unusedSimpArgs false
set_option linter.unusedVariables false
namespace Go.Proofs.Ytkpfjmibipblhaa
open Go.Aw Go
set_option maxRecDepth 20000
attribute [local irreducible] CJ LJ DJ Tri YV Gives seqK blockK loopK retK RV mergeK OwL.L

end Go.Proofs.Ytkpfjmibipblhaa
end
section
/-
  Bounds, what certify.Check answers, and the reference's check. By an AI agent; no person has read it.
-/
set_option linter.unusedSimpArgs false
set_option linter.unusedVariables false
namespace Go.Proofs.Ytkpfjmibipblhaa
open Go.Aw Go
set_option maxRecDepth 20000
attribute [local irreducible] CJ LJ DJ Tri YV Gives seqK blockK loopK retK RV mergeK OwL.L

end Go.Proofs.Ytkpfjmibipblhaa
end
section
/-
  certify.Check. By an AI agent; no person has read it.
-/
set_option linter.unusedSimpArgs false
set_option linter.unusedVariables false
namespace Go.Proofs.Ytkpfjmibipblhaa
open Go.Aw Go
set_option maxRecDepth 20000
attribute [local irreducible] CJ LJ DJ Tri YV Gives seqK blockK loopK retK RV mergeK OwL.L

end Go.Proofs.Ytkpfjmibipblhaa
end
section
/-
  What the flows are that bounds allow: the shared law of certify.Flows and ref11.Flows. By an AI agent; no person has read it.
-/
set_option linter.unusedSimpArgs false
set_option linter.unusedVariables false
namespace Go.Proofs.Ytkpfjmibipblhaa
open Go.Aw Go
set_option maxRecDepth 20000
attribute [local irreducible] CJ LJ DJ Tri YV Gives seqK blockK loopK retK RV mergeK OwL.L

def nothingS : XSpan := ⟨-1125899906842624, 1125899906842624⟩
end Go.Proofs.Ytkpfjmibipblhaa
end
section
/-
  ref11.Flows. By an AI agent; no person has read it.
-/
set_option linter.unusedSimpArgs false
set_option linter.unusedVariables false
namespace Go.Proofs.Ytkpfjmibipblhaa
open Go.Aw Go
set_option maxRecDepth 20000
attribute [local irreducible] CJ LJ DJ Tri YV Gives seqK blockK loopK retK RV mergeK OwL.L

end Go.Proofs.Ytkpfjmibipblhaa
end
section
/-
  Bounds that are accepted hold the state that fits: the law of comparison. By an AI agent; no person has read it.
-/
set_option linter.unusedSimpArgs false
set_option linter.unusedVariables false
namespace Go.Proofs.Ytkpfjmibipblhaa
open Go.Aw Go

end Go.Proofs.Ytkpfjmibipblhaa
end
section
/-
  Raising and lowering, in plain numbers: P12.1 and P12.2. By an AI agent; no person has read it.
-/
set_option linter.unusedSimpArgs false
set_option linter.unusedVariables false
namespace Go.Proofs.Ytkpfjmibipblhaa
open Go.Aw Go

def nextS (g : Int → Bool) (start : Int) (up : Bool) : Option Int :=
  ((List.range ((room up start).toNat + 1)).find? fun (m : Nat) => g (start + sgn up * (m : Int))).map fun (m : Nat) => start + sgn up * (m : Int)
attribute [irreducible] nextS

end Go.Proofs.Ytkpfjmibipblhaa
end
section
/-
  The reference's raising and lowering. By an AI agent; no person has read it.
-/
set_option linter.unusedSimpArgs false
set_option linter.unusedVariables false
namespace Go.Proofs.Ytkpfjmibipblhaa
open Go.Aw Go
set_option maxRecDepth 20000
attribute [local irreducible] CJ LJ DJ Tri YV Gives seqK blockK loopK retK RV mergeK OwL.L

end Go.Proofs.Ytkpfjmibipblhaa
end
section
/-
  The reference's bounds. By an AI agent; no person has read it.
-/
set_option linter.unusedSimpArgs false
set_option linter.unusedVariables false
namespace Go.Proofs.Ytkpfjmibipblhaa
open Go.Aw Go
set_option maxRecDepth 20000
attribute [local irreducible] CJ LJ DJ Tri YV Gives seqK blockK loopK retK RV mergeK OwL.L

end Go.Proofs.Ytkpfjmibipblhaa
end
section
/-
  The program's raising and lowering. By an AI agent; no person has read it.
-/
set_option linter.unusedSimpArgs false
set_option linter.unusedVariables false
namespace Go.Proofs.Ytkpfjmibipblhaa
open Go.Aw Go
set_option maxRecDepth 20000
attribute [local irreducible] CJ LJ DJ Tri YV Gives seqK blockK loopK retK RV mergeK OwL.L

end Go.Proofs.Ytkpfjmibipblhaa
end
section
/-
  The program's bounds. By an AI agent; no person has read it.
-/
set_option linter.unusedSimpArgs false
set_option linter.unusedVariables false
namespace Go.Proofs.Ytkpfjmibipblhaa
open Go.Aw Go
set_option maxRecDepth 20000
attribute [local irreducible] CJ LJ DJ Tri YV Gives seqK blockK loopK retK RV mergeK OwL.L

end Go.Proofs.Ytkpfjmibipblhaa
end
section
/-
  The state of certify.Flows' loop, in plain numbers. By an AI agent; no person has read it.
-/
set_option linter.unusedSimpArgs false
set_option linter.unusedVariables false
namespace Go.Proofs.Ytkpfjmibipblhaa
open Go.Aw Go

end Go.Proofs.Ytkpfjmibipblhaa
end
section
/-
  certify.Flows. By an AI agent; no person has read it.
-/
set_option linter.unusedSimpArgs false
set_option linter.unusedVariables false
namespace Go.Proofs.Ytkpfjmibipblhaa
open Go.Aw Go
set_option maxRecDepth 20000
attribute [local irreducible] CJ LJ DJ Tri YV Gives seqK blockK loopK retK RV mergeK OwL.L

end Go.Proofs.Ytkpfjmibipblhaa
end
section
/-
  What is known of the air: airflow.Analyse and the reference's; the direction of a span. By an AI agent; no person has read it.
-/
set_option linter.unusedSimpArgs false
set_option linter.unusedVariables false
namespace Go.Proofs.Ytkpfjmibipblhaa
open Go.Aw Go
set_option maxRecDepth 20000
attribute [local irreducible] CJ LJ DJ Tri YV Gives seqK blockK loopK retK RV mergeK OwL.L

def dirS (x : XSpan) : Int := if x.high < x.low then 0 else if 0 < x.low then 1 else if x.high < 0 then -1 else 0
theorem direction_tri (x : XSpan) (L : List Blk) (R : List Sl) :
    Tri Try.prog 128 [x.val].toArray L R (fun v L' R' => v = .int .i64 (dirS x) ∧ L = L' ∧ R = R') := by
  refine tri_enter 17 Try.call128 Try.func128 rfl rfl rfl ?_
  refine qae ?_
  refine qax ?_
  intro b1
  refine qad ?_
  refine LJ_nil (seqK_normal (CJ_seq (CJ_block (CJ_seq (CJ_region ?_)))))
  refine qab ?_
  refine qac ?_
  refine qab ?_
  refine qac ?_
  refine qa5 ?_
  refine qaz ?_
  refine qaf ?_
  refine q_c (fun hc0 => ?_) (fun hc0 => ?_)
  ·
   refine qae ?_
   refine qad ?_
   refine qdb ?_
   refine q_i (L' := L) (R' := R) ?_
   exact ⟨by rw [dirS, if_pos hc0], rfl, rfl⟩
  refine qae ?_
  refine qab ?_
  refine qac ?_
  refine qa5 ?_
  refine qaz ?_
  refine qaf ?_
  refine q_c (fun hc1 => ?_) (fun hc1 => ?_)
  ·
   refine qae ?_
   refine qad ?_
   refine qdb ?_
   refine q_i (L' := L) (R' := R) ?_
   exact ⟨by rw [dirS, if_neg (by omega), if_pos hc1], rfl, rfl⟩
  refine qae ?_
  refine qab ?_
  refine qac ?_
  refine qaj ?_
  refine qaz ?_
  refine qaf ?_
  refine q_c (fun hc2 => ?_) (fun hc2 => ?_)
  ·
   refine qae ?_
   refine qad ?_
   refine qdb ?_
   refine q_i (L' := L) (R' := R) ?_
   exact ⟨by rw [dirS, if_neg (by omega), if_neg (by omega), if_pos hc2], rfl, rfl⟩
  refine CJ_skip (blockK_normal (seqK_normal (CJ_seq (CJ_region ?_))))
  refine qad ?_
  refine qa0 ?_
  refine q_i (L' := L) (R' := R) ?_
  exact ⟨by rw [dirS, if_neg (by omega), if_neg (by omega), if_neg (by omega)], rfl, rfl⟩

end Go.Proofs.Ytkpfjmibipblhaa
end
section
/-
  ref01.Spans: two lists of spans are alike. By an AI agent; no person has read it.
-/
set_option linter.unusedSimpArgs false
set_option linter.unusedVariables false
namespace Go.Proofs.Ytkpfjmibipblhaa
open Go.Aw Go
set_option maxRecDepth 20000
attribute [local irreducible] CJ LJ DJ Tri YV Gives seqK blockK loopK retK RV mergeK OwL.L

abbrev spsl (x : Arr XSpan) : Sl := x.sl 2 XSpan.cells []
end Go.Proofs.Ytkpfjmibipblhaa
end
section
/-
  Faces and their air: airflow.Fed and the reference's. By an AI agent; no person has read it.
-/
set_option linter.unusedSimpArgs false
set_option linter.unusedVariables false
namespace Go.Proofs.Ytkpfjmibipblhaa
open Go.Aw Go
set_option maxRecDepth 20000
attribute [local irreducible] CJ LJ DJ Tri YV Gives seqK blockK loopK retK RV mergeK OwL.L

end Go.Proofs.Ytkpfjmibipblhaa
end
