/-
  Assertion-level walks: the operations. By an AI agent; no person has read it.
-/
import Derived.Test.YtimnnhdeicpenaaAw
set_option linter.unusedSimpArgs false
set_option linter.unusedVariables false
namespace Go.Aw
open Go

/-! ### What the program's table says of a type, in literals -/

inductive TK where
  | scalar | bool | struct | array (n e : Nat) | slice (e : Nat) | ptr (e : Nat) | int (k : IntKind) | string | other

structure TI where
  k : TK
  sz : Nat
  fl : List (Nat × Nat)
  bt : Nat
  z : List Value

def tiOf (P : Program) (i : TypeInfo) (u : TypeDesc) (z : Value) : TI :=
  { k := match u with
      | .struct _ => .struct
      | .array n e => .array n e
      | .slice e => .slice e
      | .pointer e => .ptr e
      | .int k => .int k
      | .bool => .bool
      | .string => .string
      | _ => .other
    sz := i.size
    fl := match u with
      | .struct fs => fs.toList.map fun f => (f.offset, ((P.info? f.type).map (·.size)).getD 0)
      | _ => []
    bt := i.bytes
    z := z.cells.toList }

def factsOf (P : Program) (T : Nat) : Option TI :=
  match P.info? T, P.underlying T with
  | some i, some u => match i.zero with
    | some z => some (tiOf P i u z)
    | none => none
  | _, _ => none

def getT (tab : List (List (Option TI))) (T : Nat) : Option TI := ((tab[T / 16]?).bind (·[T % 16]?)).join

/-- a table that the program's own table bears out -/
structure Tabs (P : Program) where
  tab : List (List (Option TI))
  ok : ∀ T ti, getT tab T = some ti → factsOf P T = some ti

def chunk (P : Program) (tab : List (List (Option TI))) (c : Nat) : List (Option TI) :=
  (List.range 16).map fun j => match getT tab (16 * c + j) with
    | some _ => factsOf P (16 * c + j)
    | none => none
theorem tabs_ok {P : Program} {tab : List (List (Option TI))} (h : tab = (List.range tab.length).map (chunk P tab)) : ∀ T ti, getT tab T = some ti → factsOf P T = some ti := by
  intro T ti hg
  have hg' := hg
  unfold getT at hg
  rw [h] at hg
  rcases Nat.lt_or_ge (T / 16) tab.length with h1 | h1
  · rw [List.getElem?_map, List.getElem?_range h1] at hg
    simp only [Option.map_some, Option.bind_some, chunk] at hg
    rw [List.getElem?_map, List.getElem?_range (Nat.mod_lt _ (by omega))] at hg
    simp only [Option.map_some, Option.join_some] at hg
    rw [Nat.div_add_mod, hg'] at hg
    exact hg
  · rw [List.getElem?_map, List.getElem?_eq_none (by simpa using h1)] at hg
    simp at hg

section facts
variable {P : Program} {T : Nat} {ti : TI}

theorem facts_parts (h : factsOf P T = some ti) : ∃ i u z, P.info? T = some i ∧ P.underlying T = some u ∧ i.zero = some z ∧ ti = tiOf P i u z := by
  unfold factsOf at h
  split at h
  · rename_i i u hi hu
    split at h
    · rename_i z hz
      exact ⟨i, u, z, hi, hu, hz, (Option.some.inj h).symm⟩
    · cases h
  · cases h

theorem run_sizeOf (h : factsOf P T = some ti) (w : World) : (sizeOf T).run P w = .ok ti.sz w := by
  obtain ⟨i, u, z, hi, hu, hz, rfl⟩ := facts_parts h
  simp [sizeOf, typeInfo, hi, tiOf]

theorem run_zeroValue (h : factsOf P T = some ti) (w : World) : ∃ z : Value, (zeroValue T).run P w = .ok z w ∧ z.cells.toList = ti.z := by
  obtain ⟨i, u, z, hi, hu, hz, rfl⟩ := facts_parts h
  exact ⟨z, by simp [zeroValue, typeInfo, hi, hz], rfl⟩

theorem run_isAgg_struct (h : factsOf P T = some ti) (hk : ti.k = .struct) (w : World) : (isAgg T).run P w = .ok true w := by
  obtain ⟨i, u, z, hi, hu, hz, rfl⟩ := facts_parts h
  cases u <;> simp [tiOf] at hk
  simp [isAgg, run_underlying hu]

theorem run_isAgg_array {n e : Nat} (h : factsOf P T = some ti) (hk : ti.k = .array n e) (w : World) : (isAgg T).run P w = .ok true w := by
  obtain ⟨i, u, z, hi, hu, hz, rfl⟩ := facts_parts h
  cases u <;> simp [tiOf] at hk
  simp [isAgg, run_underlying hu]

def TK.isAgg : TK → Bool
  | .struct | .array _ _ => true
  | _ => false

theorem run_isAgg (h : factsOf P T = some ti) (w : World) : (Go.isAgg T).run P w = .ok ti.k.isAgg w := by
  obtain ⟨i, u, z, hi, hu, hz, rfl⟩ := facts_parts h
  cases u <;> simp [Go.isAgg, run_underlying hu, tiOf, TK.isAgg]

theorem under_slice {e : Nat} (h : factsOf P T = some ti) (hk : ti.k = .slice e) : P.underlying T = some (.slice e) := by
  obtain ⟨i, u, z, hi, hu, hz, rfl⟩ := facts_parts h
  cases u <;> simp [tiOf] at hk
  rw [hu, hk]

theorem under_array {n e : Nat} (h : factsOf P T = some ti) (hk : ti.k = .array n e) : P.underlying T = some (.array n e) := by
  obtain ⟨i, u, z, hi, hu, hz, rfl⟩ := facts_parts h
  cases u <;> simp [tiOf] at hk
  rw [hu, hk.1, hk.2]

theorem under_int {k : IntKind} (h : factsOf P T = some ti) (hk : ti.k = .int k) : P.underlying T = some (.int k) := by
  obtain ⟨i, u, z, hi, hu, hz, rfl⟩ := facts_parts h
  cases u <;> simp [tiOf] at hk
  rw [hu, hk]

theorem under_bool (h : factsOf P T = some ti) (hk : ti.k = .bool) : P.underlying T = some .bool := by
  obtain ⟨i, u, z, hi, hu, hz, rfl⟩ := facts_parts h
  cases u <;> simp [tiOf] at hk
  rw [hu]

theorem under_struct (h : factsOf P T = some ti) (hk : ti.k = .struct) :
    ∃ fs, P.underlying T = some (.struct fs) ∧ ti.fl = fs.toList.map fun f => (f.offset, ((P.info? f.type).map (·.size)).getD 0) := by
  obtain ⟨i, u, z, hi, hu, hz, rfl⟩ := facts_parts h
  cases u <;> simp [tiOf] at hk
  exact ⟨_, hu, rfl⟩
end facts

/-! ### Operations that leave the world alone -/

/-- where a block stands in the assertion -/
inductive In1 (e : Blk) : List Blk → Prop
  | here {L} : In1 e (e :: L)
  | cons {x L} (h : In1 e L) : In1 e (x :: L)
  | app {X L} (h : In1 e L) : In1 e (X ++ L)
theorem In1.mem {e : Blk} {L : List Blk} (h : In1 e L) : e ∈ L := by
  induction h with
  | here => simp
  | cons _ ih => exact List.mem_cons_of_mem _ ih
  | app _ ih => exact List.mem_append_right _ ih

theorem beq_dec (a b : Int) : (a == b) = decide (a = b) := by
  by_cases h : a = b <;> simp [h]

section quiet
variable {P : Program} {ρ : Operand → Value} {L : List Blk} {R : List Sl} {dst : Option Tmp} {ty : TypeId} {pos : String} {after : Array Edge} {guard : Option (Nat × Bool)}

theorem yv_move {x : Operand} {v : Value} (h : ρ x = v) : YV P ⟨dst, .move x, ty, pos, after, guard⟩ ρ L R v := fun _ _ _ => by simp [execOp, h]
theorem yv_assign {x : Operand} {v : Value} (h : ρ x = v) : YV P ⟨dst, .assign x, ty, pos, after, guard⟩ ρ L R v := fun _ _ _ => by simp [execOp, h]
theorem yv_pick {c x y : Operand} {b : Bool} (h : ρ c = .bool b) : YV P ⟨dst, .pick c x y, ty, pos, after, guard⟩ ρ L R (if b then ρ x else ρ y) := fun _ _ _ => by
  simp [execOp, h, asBool]
theorem yv_pick_true {c x y : Operand} {v : Value} (h : ρ c = .bool true) (hv : ρ x = v) : YV P ⟨dst, .pick c x y, ty, pos, after, guard⟩ ρ L R v := fun _ _ _ => by
  simp [execOp, h, asBool, hv]
theorem yv_pick_false {c x y : Operand} {v : Value} (h : ρ c = .bool false) (hv : ρ y = v) : YV P ⟨dst, .pick c x y, ty, pos, after, guard⟩ ρ L R v := fun _ _ _ => by
  simp [execOp, h, asBool, hv]

theorem wrap_id {n : Int} (h1 : -9223372036854775808 ≤ n) (h2 : n ≤ 9223372036854775807) : IntKind.i64.wrap n = n := by
  rw [IntKind.wrap_i64]; omega

variable {T T2 : TypeId} {x y : Operand} {k : IntKind} {a b : Int}

theorem yv_add (hx : ρ x = .int k a) (hy : ρ y = .int k b) : YV P ⟨dst, .binOp .add T x y T2, ty, pos, after, guard⟩ ρ L R (.int k (k.wrap (a + b))) := fun _ _ _ => by
  simp [execOp, hx, hy, eqGuard, binOp, Op.intArith]
theorem yv_sub (hx : ρ x = .int k a) (hy : ρ y = .int k b) : YV P ⟨dst, .binOp .sub T x y T2, ty, pos, after, guard⟩ ρ L R (.int k (k.wrap (a - b))) := fun _ _ _ => by
  simp [execOp, hx, hy, eqGuard, binOp, Op.intArith]
theorem yv_mul (hx : ρ x = .int k a) (hy : ρ y = .int k b) : YV P ⟨dst, .binOp .mul T x y T2, ty, pos, after, guard⟩ ρ L R (.int k (k.wrap (a * b))) := fun _ _ _ => by
  simp [execOp, hx, hy, eqGuard, binOp, Op.intArith]
theorem yv_add64 (hx : ρ x = .int .i64 a) (hy : ρ y = .int .i64 b) (h1 : -9223372036854775808 ≤ a + b) (h2 : a + b ≤ 9223372036854775807) :
    YV P ⟨dst, .binOp .add T x y T2, ty, pos, after, guard⟩ ρ L R (.int .i64 (a + b)) := by
  have := yv_add (P := P) (L := L) (R := R) (dst := dst) (ty := ty) (pos := pos) (after := after) (guard := guard) (T := T) (T2 := T2) hx hy
  rwa [wrap_id h1 h2] at this
theorem yv_sub64 (hx : ρ x = .int .i64 a) (hy : ρ y = .int .i64 b) (h1 : -9223372036854775808 ≤ a - b) (h2 : a - b ≤ 9223372036854775807) :
    YV P ⟨dst, .binOp .sub T x y T2, ty, pos, after, guard⟩ ρ L R (.int .i64 (a - b)) := by
  have := yv_sub (P := P) (L := L) (R := R) (dst := dst) (ty := ty) (pos := pos) (after := after) (guard := guard) (T := T) (T2 := T2) hx hy
  rwa [wrap_id h1 h2] at this
theorem yv_mul64 (hx : ρ x = .int .i64 a) (hy : ρ y = .int .i64 b) (h1 : -9223372036854775808 ≤ a * b) (h2 : a * b ≤ 9223372036854775807) :
    YV P ⟨dst, .binOp .mul T x y T2, ty, pos, after, guard⟩ ρ L R (.int .i64 (a * b)) := by
  have := yv_mul (P := P) (L := L) (R := R) (dst := dst) (ty := ty) (pos := pos) (after := after) (guard := guard) (T := T) (T2 := T2) hx hy
  rwa [wrap_id h1 h2] at this
theorem yv_quo (hx : ρ x = .int k a) (hy : ρ y = .int k b) (h : ¬ b = 0) : YV P ⟨dst, .binOp .quo T x y T2, ty, pos, after, guard⟩ ρ L R (.int k (k.wrap (a.tdiv b))) := fun _ _ _ => by
  simp [execOp, hx, hy, eqGuard, binOp, Op.intDiv, h]
theorem yv_rem (hx : ρ x = .int k a) (hy : ρ y = .int k b) (h : ¬ b = 0) : YV P ⟨dst, .binOp .rem T x y T2, ty, pos, after, guard⟩ ρ L R (.int k (a.tmod b)) := fun _ _ _ => by
  simp [execOp, hx, hy, eqGuard, binOp, Op.intDiv, h]
theorem yv_quo64 (hx : ρ x = .int .i64 a) (hy : ρ y = .int .i64 b) (h : ¬ b = 0) (h1 : -9223372036854775808 ≤ a.tdiv b) (h2 : a.tdiv b ≤ 9223372036854775807) :
    YV P ⟨dst, .binOp .quo T x y T2, ty, pos, after, guard⟩ ρ L R (.int .i64 (a.tdiv b)) := by
  have := yv_quo (P := P) (L := L) (R := R) (dst := dst) (ty := ty) (pos := pos) (after := after) (guard := guard) (T := T) (T2 := T2) hx hy h
  rwa [wrap_id h1 h2] at this

theorem yv_lss (hx : ρ x = .int k a) (hy : ρ y = .int k b) : YV P ⟨dst, .binOp .lss T x y T2, ty, pos, after, guard⟩ ρ L R (.bool (decide (a < b))) := fun _ _ _ => by
  simp [execOp, hx, hy, eqGuard, binOp, Op.intCmp]
theorem yv_leq (hx : ρ x = .int k a) (hy : ρ y = .int k b) : YV P ⟨dst, .binOp .leq T x y T2, ty, pos, after, guard⟩ ρ L R (.bool (decide (a ≤ b))) := fun _ _ _ => by
  simp [execOp, hx, hy, eqGuard, binOp, Op.intCmp]
theorem yv_gtr (hx : ρ x = .int k a) (hy : ρ y = .int k b) : YV P ⟨dst, .binOp .gtr T x y T2, ty, pos, after, guard⟩ ρ L R (.bool (decide (b < a))) := fun _ _ _ => by
  simp [execOp, hx, hy, eqGuard, binOp, Op.intCmp]
theorem yv_geq (hx : ρ x = .int k a) (hy : ρ y = .int k b) : YV P ⟨dst, .binOp .geq T x y T2, ty, pos, after, guard⟩ ρ L R (.bool (decide (b ≤ a))) := fun _ _ _ => by
  simp [execOp, hx, hy, eqGuard, binOp, Op.intCmp]
theorem yv_eql (hx : ρ x = .int k a) (hy : ρ y = .int k b) : YV P ⟨dst, .binOp .eql T x y T2, ty, pos, after, guard⟩ ρ L R (.bool (decide (a = b))) := fun _ _ _ => by
  simp [execOp, hx, hy, eqGuard, binOp, Op.intCmp, beq_dec]
theorem yv_neq (hx : ρ x = .int k a) (hy : ρ y = .int k b) : YV P ⟨dst, .binOp .neq T x y T2, ty, pos, after, guard⟩ ρ L R (.bool (decide (¬ a = b))) := fun _ _ _ => by
  simp [execOp, hx, hy, eqGuard, binOp, Op.intCmp, bne, beq_dec]

theorem yv_neg64 (hx : ρ x = .int .i64 a) (h1 : -9223372036854775807 ≤ a) (h2 : a ≤ 9223372036854775808) : YV P ⟨dst, .unOp .neg T x, ty, pos, after, guard⟩ ρ L R (.int .i64 (-a)) := fun _ _ _ => by
  have : IntKind.i64.wrap (0 - a) = -a := by rw [wrap_id (by omega) (by omega)]; omega
  simp only [Int.zero_sub] at this
  simp [execOp, hx, Op.unary, Op.intArith, this]
theorem yv_not {c : Bool} (hx : ρ x = .bool c) : YV P ⟨dst, .unOp .not T x, ty, pos, after, guard⟩ ρ L R (.bool (!c)) := fun _ _ _ => by
  simp [execOp, hx, Op.unary]

variable (tb : Tabs P)

theorem yv_convert {k k' : IntKind} {n1 n2 f1 f2 b1 b2 z1 z2} (h1 : getT tb.tab T = some ⟨.int k', n1, f1, b1, z1⟩) (h2 : getT tb.tab T2 = some ⟨.int k, n2, f2, b2, z2⟩) (hx : ρ x = .int k' a) :
    YV P ⟨dst, .convert T T2 x, ty, pos, after, guard⟩ ρ L R (.int k (k.wrap a)) := fun _ w _ => by
  have u1 := under_int (tb.ok _ _ h1) rfl
  have u2 := under_int (tb.ok _ _ h2) rfl
  simp [execOp, hx, convert, run_underlying u1, run_underlying u2, Conv.intToInt]
theorem yv_convert64 {k' : IntKind} {n1 n2 f1 f2 b1 b2 z1 z2} (h1 : getT tb.tab T = some ⟨.int k', n1, f1, b1, z1⟩) (h2 : getT tb.tab T2 = some ⟨.int .i64, n2, f2, b2, z2⟩) (hx : ρ x = .int k' a)
    (h3 : -9223372036854775808 ≤ a) (h4 : a ≤ 9223372036854775807) : YV P ⟨dst, .convert T T2 x, ty, pos, after, guard⟩ ρ L R (.int .i64 a) := by
  have := yv_convert (P := P) (L := L) (R := R) (dst := dst) (ty := ty) (pos := pos) (after := after) (guard := guard) tb h1 h2 hx
  rwa [wrap_id h3 h4] at this

theorem add_none (b off n : Nat) : (⟨b, off, none⟩ : Addr).add n = ⟨b, off + n, none⟩ := by
  unfold Addr.add; split <;> simp_all

theorem yv_field {f off sz n b o : Nat} {fl : List (Nat × Nat)} {bt z} (hT : getT tb.tab T = some ⟨.struct, n, fl, bt, z⟩) (hx : ρ x = .pointer (some ⟨b, o, none⟩)) (hf : fl[f]? = some (off, sz + 1)) :
    YV P ⟨dst, .fieldAddr T x f, ty, pos, after, guard⟩ ρ L R (.pointer (some ⟨b, o + off, none⟩)) := fun _ w _ => by
  obtain ⟨fs, hu, hfl⟩ := under_struct (tb.ok _ _ hT) rfl
  simp only at hfl
  subst hfl
  rw [List.getElem?_map] at hf
  obtain ⟨fd, hfd, he⟩ := Option.map_eq_some_iff.1 hf
  obtain ⟨h1, h2⟩ := Prod.mk.inj he
  have hfd' : fs[f]? = some fd := by rw [← Array.getElem?_toList]; exact hfd
  have hsz : ∃ i, P.info? fd.type = some i ∧ i.size = sz + 1 := by
    cases hi : P.info? fd.type with
    | none => rw [hi] at h2; simp at h2
    | some i => rw [hi] at h2; exact ⟨i, rfl, by simpa using h2⟩
  obtain ⟨i, hi, hs⟩ := hsz
  simp [execOp, hx, Instr.fieldAt, run_underlying hu, hfd', Instr.sureAddr, fieldPlace, sizeOf, typeInfo, hi, hs, add_none, h1]

theorem yv_field_eo {f off sz n wd i j : Nat} {ar : Option Addr} {fl : List (Nat × Nat)} {bt z} (hT : getT tb.tab T = some ⟨.struct, n, fl, bt, z⟩) (hx : ρ x = .pointer (some ⟨adB ar, eo ar wd i j, none⟩)) (hf : fl[f]? = some (off, sz + 1)) :
    YV P ⟨dst, .fieldAddr T x f, ty, pos, after, guard⟩ ρ L R (.pointer (some ⟨adB ar, eo ar wd i (j + off), none⟩)) := by
  have := yv_field (P := P) (L := L) (R := R) (dst := dst) (ty := ty) (pos := pos) (after := after) (guard := guard) tb hT hx hf
  have e : eo ar wd i j + off = eo ar wd i (j + off) := by simp [eo, Nat.add_assoc]
  rwa [e] at this

/-- an element's place in a slice: the slice's header is known to point to a plain place -/
theorem yv_index {e n n2 bt z bt2 z2 k2} {fl fl2 : List (Nat × Nat)} {len cap i : Nat} {b o : Nat} (hT : getT tb.tab T = some ⟨.slice e, n, fl, bt, z⟩) (hE : getT tb.tab e = some ⟨k2, n2, fl2, bt2, z2⟩)
    (hx : ρ x = .slice (some ⟨b, o, none⟩) len cap) (hy : ρ y = .int k a) (hi : a = (i : Int)) (hlt : i < len) :
    YV P ⟨dst, .indexAddr T x y, ty, pos, after, guard⟩ ρ L R (.pointer (some ⟨adB (some ⟨b, o, none⟩), eo (some ⟨b, o, none⟩) n2 i 0, none⟩)) := fun _ w _ => by
  have hu := under_slice (tb.ok _ _ hT) rfl
  have hs := run_sizeOf (tb.ok _ _ hE)
  simp only at hs
  subst hi
  simp [execOp, hx, hy, Instr.indexAt, asIntOf, run_underlying hu, hs, hlt, add_none, adB, eo, adO]

/-- the same at a read-only slice whose header is a letter -/
theorem yv_index_ro {e n n2 bt z bt2 z2 k2} {fl fl2 : List (Nat × Nat)} {len cap i : Nat} {ar : Option Addr} {rows : List (List Value)} {subs : List Sl} (hT : getT tb.tab T = some ⟨.slice e, n, fl, bt, z⟩) (hE : getT tb.tab e = some ⟨k2, n2, fl2, bt2, z2⟩)
    (hx : ρ x = .slice ar len cap) (hy : ρ y = .int k a) (hR : InR (.mk n2 ar len cap rows subs) R) (hi : a = (i : Int)) (hlt : i < len) :
    YV P ⟨dst, .indexAddr T x y, ty, pos, after, guard⟩ ρ L R (.pointer (some ⟨adB ar, eo ar n2 i 0, none⟩)) := fun c w hst => by
  obtain ⟨⟨G, hh, hg⟩, ho, hk⟩ := hst
  obtain ⟨r, hr, hsub⟩ := hR
  have hrep := (hh.rep r hr).sub hsub
  cases hrep with
  | mk hl hc hm hw hmem hs =>
    rcases hmem with h0 | ⟨b, off, ha, _, _⟩
    · subst h0; simp only [List.length_nil] at hl; omega
    · subst ha
      exact yv_index tb hT hE hx hy hi hlt c w ⟨⟨G, hh, hg⟩, ho, hk⟩

theorem cell_own {c : Ctx} {w : World} (h : St c L R w) {e : Blk} (he : e ∈ L) (o : Nat) : w.cell? ⟨e.b, o, none⟩ = e.cs[o]? := by
  obtain ⟨⟨G, hh, hg⟩, ho, hk⟩ := h
  simp [World.cell?, hh.own e he]

theorem run_load1 {w : World} {T : TypeId} {ti : TI} (h : factsOf P T = some ti) (hk : ti.k.isAgg = false) {b o : Nat} {v : Value} (hc : w.cell? ⟨b, o, none⟩ = some v) :
    (loadVar T ⟨b, o, none⟩).run P w = .ok v w := by
  simp [loadVar, run_isAgg h, hk, load, Sem.run, hc]

theorem run_loadN {w : World} {T : TypeId} {ti : TI} (h : factsOf P T = some ti) (hk : ti.k.isAgg = true) {b o : Nat} {row : List Value} (hn : row.length = ti.sz)
    (hc : ∀ j v, row[j]? = some v → w.cell? ⟨b, o + j, none⟩ = some v) : (loadVar T ⟨b, o, none⟩).run P w = .ok (.agg row.toArray) w := by
  have hl := run_loadCells_list (P := P) w ⟨b, o, none⟩ row (fun j v hj => by rw [add_none]; exact hc j v hj)
  simp [loadVar, run_isAgg h, hk, run_sizeOf h, ← hn, hl]

theorem yv_load1 {n b o : Nat} {fl bt z v} {kk : TK} {cs : List Value} {T' : TypeId} (hx : ρ x = .pointer (some ⟨b, o, none⟩)) (hT : getT tb.tab T = some ⟨kk, n, fl, bt, z⟩) (hk : kk.isAgg = false)
    (hin : In1 ⟨b, cs, T'⟩ L) (hv : cs[o]? = some v) : YV P ⟨dst, .load T x, ty, pos, after, guard⟩ ρ L R v := fun c w hst => by
  have := run_load1 (P := P) (w := w) (tb.ok _ _ hT) hk (b := b) (o := o) (v := v) (by rw [cell_own hst hin.mem]; exact hv)
  simp [execOp, hx, Instr.loadAt, Instr.sureAddr, this]

def sub (cs : List Value) (o n : Nat) : List Value := (cs.drop o).take n

theorem yv_loadN {n b o : Nat} {fl bt z} {kk : TK} {cs row : List Value} {T' : TypeId} (hx : ρ x = .pointer (some ⟨b, o, none⟩)) (hT : getT tb.tab T = some ⟨kk, n, fl, bt, z⟩) (hk : kk.isAgg = true)
    (hin : In1 ⟨b, cs, T'⟩ L) (hv : sub cs o n = row) (hn : row.length = n) : YV P ⟨dst, .load T x, ty, pos, after, guard⟩ ρ L R (.agg row.toArray) := fun c w hst => by
  have := run_loadN (P := P) (w := w) (tb.ok _ _ hT) hk (b := b) (o := o) (row := row) hn (fun j v hj => by
    rw [cell_own hst hin.mem]
    rw [← hv, sub, List.getElem?_take] at hj
    split at hj
    · simpa using hj
    · cases hj)
  simp [execOp, hx, Instr.loadAt, Instr.sureAddr, this]

/-- a part of a row of a read-only slice -/
theorem cell_ro {c : Ctx} {w : World} (h : St c L R w) {wd len cap i j : Nat} {ar : Option Addr} {rows : List (List Value)} {subs : List Sl} (hR : InR (.mk wd ar len cap rows subs) R) {row : List Value} (hr : rows[i]? = some row) {v : Value} (hj : row[j]? = some v) :
    w.cell? ⟨adB ar, eo ar wd i j, none⟩ = some v := by
  obtain ⟨⟨G, hh, hg⟩, ho, hk⟩ := h
  obtain ⟨r, hr', hsub⟩ := hR
  have hrep := (hh.rep r hr').sub hsub
  cases hrep with
  | mk hl hc hm hw hmem hs =>
    have hi : i < rows.length := (List.getElem?_eq_some_iff.1 hr).1
    rcases hmem with h0 | ⟨b, off, ha, _, hcell⟩
    · subst h0; simp at hi
    · subst ha
      have hjw : j < wd := by
        have h1 := (List.getElem?_eq_some_iff.1 hj).1
        have h2 := hw row (List.mem_of_getElem? hr)
        omega
      rw [show adB (some ⟨b, off, none⟩) = b from rfl, show eo (some ⟨b, off, none⟩) wd i j = off + i * wd + j from rfl, hcell i j (by omega) hjw, hr]
      exact hj

theorem yv_load1_ro {α : Type} {n wd len cap i j : Nat} {fl bt z v} {kk : TK} {ar : Option Addr} {f : α → List Value} {l : List α} {xx : α} {subs : List Sl} (hx : ρ x = .pointer (some ⟨adB ar, eo ar wd i j, none⟩)) (hT : getT tb.tab T = some ⟨kk, n, fl, bt, z⟩) (hk : kk.isAgg = false)
    (hR : InR (.mk wd ar len cap (l.map f) subs) R) (hr : l[i]? = some xx) (hj : (f xx)[j]? = some v) : YV P ⟨dst, .load T x, ty, pos, after, guard⟩ ρ L R v := fun c w hst => by
  have := run_load1 (P := P) (w := w) (tb.ok _ _ hT) hk (v := v) (cell_ro hst hR (row := f xx) (by rw [List.getElem?_map, hr]; rfl) hj)
  simp [execOp, hx, Instr.loadAt, Instr.sureAddr, this]

theorem yv_loadN_ro {α : Type} {n wd len cap i j : Nat} {fl bt z} {kk : TK} {ar : Option Addr} {f : α → List Value} {l : List α} {xx : α} {row : List Value} {subs : List Sl} (hx : ρ x = .pointer (some ⟨adB ar, eo ar wd i j, none⟩)) (hT : getT tb.tab T = some ⟨kk, n, fl, bt, z⟩) (hk : kk.isAgg = true)
    (hR : InR (.mk wd ar len cap (l.map f) subs) R) (hr : l[i]? = some xx) (hv : sub (f xx) j n = row) (hn : row.length = n) : YV P ⟨dst, .load T x, ty, pos, after, guard⟩ ρ L R (.agg row.toArray) := fun c w hst => by
  have := run_loadN (P := P) (w := w) (tb.ok _ _ hT) hk (b := adB ar) (o := eo ar wd i j) (row := row) hn (fun jj v hj => by
    rw [← hv, sub, List.getElem?_take] at hj
    split at hj
    · have := cell_ro hst hR (row := f xx) (i := i) (j := j + jj) (v := v) (by rw [List.getElem?_map, hr]; rfl) (by simpa using hj)
      rw [← this]
      simp [eo, Nat.add_assoc]
    · cases hj)
  simp [execOp, hx, Instr.loadAt, Instr.sureAddr, this]

theorem yv_len {ts : Array TypeId} {e n fl bt z} {ar : Option Addr} {len cap : Nat} (hts : ts[0]? = some T) (hT : getT tb.tab T = some ⟨.slice e, n, fl, bt, z⟩) (hx : ρ x = .slice ar len cap) :
    YV P ⟨dst, .call ⟨.builtin .len, #[x], ts⟩, ty, pos, after, guard⟩ ρ L R (.int .i64 (len : Int)) := fun _ w _ => by
  have hu := under_slice (tb.ok _ _ hT) rfl
  simp [execOp, resolve, invoke, builtin, Builtin.len_, hts, hx, run_underlying hu, goInt]

theorem yv_nilCheck {ad : Addr} (hx : ρ x = .pointer (some ad)) : YV P ⟨dst, .nilCheck x, ty, pos, after, guard⟩ ρ L R (.pointer (some ad)) := fun _ w _ => by
  simp [execOp, hx]

theorem yv_min2 {ts : Array TypeId} (hx : ρ x = .int k a) (hy : ρ y = .int k b) : YV P ⟨dst, .call ⟨.builtin .min, #[x, y], ts⟩, ty, pos, after, guard⟩ ρ L R (.int k (min a b)) := fun _ w _ => by
  simp only [execOp, resolve, invoke, builtin, Builtin.min_, List.map_toArray, List.map_cons, List.map_nil, hx, hy]
  have : (if b < a then b else a) = min a b := by rw [Int.min_def]; split <;> split <;> omega
  simp [Builtin.min2, this]
theorem yv_max2 {ts : Array TypeId} (hx : ρ x = .int k a) (hy : ρ y = .int k b) : YV P ⟨dst, .call ⟨.builtin .max, #[x, y], ts⟩, ty, pos, after, guard⟩ ρ L R (.int k (max a b)) := fun _ w _ => by
  simp only [execOp, resolve, invoke, builtin, Builtin.max_, List.map_toArray, List.map_cons, List.map_nil, hx, hy]
  have : (if b > a then b else a) = max a b := by rw [Int.max_def]; split <;> split <;> omega
  simp [Builtin.max2, this]

theorem yv_extract {i : Nat} {vs : Array Value} {v : Value} (hx : ρ x = .tuple vs) (hv : vs[i]? = some v) : YV P ⟨dst, .extract x i, ty, pos, after, guard⟩ ρ L R v := fun _ w _ => by
  simp [execOp, hx, Instr.extract, hv]

end quiet
end Go.Aw
