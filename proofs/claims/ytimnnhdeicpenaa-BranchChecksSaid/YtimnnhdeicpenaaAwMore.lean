/-
  Assertion-level walks: more operations that leave the world alone. By an AI agent; no person has read it.
-/
import Derived.Test.YtimnnhdeicpenaaAwPhase
set_option linter.unusedSimpArgs false
set_option linter.unusedVariables false
namespace Go.Aw
open Go

section
variable {P : Program} {ρ : Operand → Value} {L : List Blk} {R : List Sl} {dst : Option Tmp} {ty : TypeId} {pos : String} {after : Array Edge} {guard : Option (Nat × Bool)} {T T2 : TypeId} {x y z : Operand} {a b c : Int} {k : IntKind}

theorem wrapU {n : Int} (h1 : 0 ≤ n) (h2 : n ≤ 18446744073709551615) : IntKind.u64.wrap n = n := by
  rw [IntKind.wrap_u64]; omega

theorem yv_addU (hx : ρ x = .int .u64 a) (hy : ρ y = .int .u64 b) (h1 : 0 ≤ a + b) (h2 : a + b ≤ 18446744073709551615) :
    YV P ⟨dst, .binOp .add T x y T2, ty, pos, after, guard⟩ ρ L R (.int .u64 (a + b)) := by
  have := yv_add (P := P) (L := L) (R := R) (dst := dst) (ty := ty) (pos := pos) (after := after) (guard := guard) (T := T) (T2 := T2) hx hy
  rwa [wrapU h1 h2] at this
theorem yv_mulU (hx : ρ x = .int .u64 a) (hy : ρ y = .int .u64 b) (h1 : 0 ≤ a * b) (h2 : a * b ≤ 18446744073709551615) :
    YV P ⟨dst, .binOp .mul T x y T2, ty, pos, after, guard⟩ ρ L R (.int .u64 (a * b)) := by
  have := yv_mul (P := P) (L := L) (R := R) (dst := dst) (ty := ty) (pos := pos) (after := after) (guard := guard) (T := T) (T2 := T2) hx hy
  rwa [wrapU h1 h2] at this
theorem yv_quoU (hx : ρ x = .int .u64 a) (hy : ρ y = .int .u64 b) (ha : 0 ≤ a) (ha2 : a ≤ 18446744073709551615) (hb : 0 < b) : YV P ⟨dst, .binOp .quo T x y T2, ty, pos, after, guard⟩ ρ L R (.int .u64 (a / b)) := by
  have := yv_quo (P := P) (L := L) (R := R) (dst := dst) (ty := ty) (pos := pos) (after := after) (guard := guard) (T := T) (T2 := T2) hx hy (by omega)
  rw [Int.tdiv_eq_ediv_of_nonneg ha] at this
  have h1 : 0 ≤ a / b := Int.ediv_nonneg ha (by omega)
  have h2 : a / b ≤ a := Int.ediv_le_self _ ha
  rwa [wrapU h1 (by omega)] at this
theorem yv_remU (hx : ρ x = .int .u64 a) (hy : ρ y = .int .u64 b) (ha : 0 ≤ a) (hb : 0 < b) : YV P ⟨dst, .binOp .rem T x y T2, ty, pos, after, guard⟩ ρ L R (.int .u64 (a % b)) := by
  have := yv_rem (P := P) (L := L) (R := R) (dst := dst) (ty := ty) (pos := pos) (after := after) (guard := guard) (T := T) (T2 := T2) hx hy (by omega)
  rwa [Int.tmod_eq_emod_of_nonneg ha] at this

theorem yv_mask32 (hx : ρ x = .int .u64 a) (hy : ρ y = .int .u64 4294967295) (h1 : 0 ≤ a) (h2 : a ≤ 18446744073709551615) :
    YV P ⟨dst, .binOp .and T x y T2, ty, pos, after, guard⟩ ρ L R (.int .u64 (a % 4294967296)) := fun _ _ _ => by
  obtain ⟨n, rfl⟩ : ∃ n : Nat, a = (n : Int) := ⟨a.toNat, by omega⟩
  have e : (BitVec.ofInt IntKind.u64.bits ((n : Nat) : Int) &&& BitVec.ofInt IntKind.u64.bits 4294967295).toNat = n % 4294967296 := by
    show (BitVec.ofInt 64 ((n : Nat) : Int) &&& BitVec.ofInt 64 4294967295).toNat = n % 4294967296
    rw [BitVec.ofInt_natCast, BitVec.toNat_and, BitVec.toNat_ofNat, Nat.mod_eq_of_lt (by omega)]
    exact Nat.and_two_pow_sub_one_eq_mod n 32
  have e2 : IntKind.u64.wrap ((n % 4294967296 : Nat) : Int) = ((n : Int) % 4294967296) := by rw [wrapU (by omega) (by omega)]; omega
  have hb : Op.intBits .and .u64 ((n : Nat) : Int) 4294967295 = (pure (.int .u64 ((n : Int) % 4294967296)) : Sem Value) := by
    unfold Op.intBits
    dsimp only
    rw [e, e2]
  simp [execOp, hx, hy, eqGuard, binOp, hb]

theorem yv_shr32 (hx : ρ x = .int .u64 a) (hy : ρ y = .int k 32) : YV P ⟨dst, .binOp .shr T x y T2, ty, pos, after, guard⟩ ρ L R (.int .u64 (a / 4294967296)) := fun _ _ _ => by
  have e : a.fdiv (2 ^ 32) = a / 4294967296 := by rw [Int.fdiv_eq_ediv_of_nonneg _ (by decide)]; rfl
  have e0 : min (32 : Int).toNat IntKind.u64.bits = 32 := by decide
  have hb : Op.shift .shr .u64 a k 32 = (pure (.int .u64 (a / 4294967296)) : Sem Value) := by
    unfold Op.shift
    rw [if_neg (by decide)]
    dsimp only
    rw [e0, e]
  simp [execOp, hx, hy, eqGuard, binOp, hb]

theorem yv_min3 {ts : Array TypeId} (hx : ρ x = .int k a) (hy : ρ y = .int k b) (hz : ρ z = .int k c) : YV P ⟨dst, .call ⟨.builtin .min, #[x, y, z], ts⟩, ty, pos, after, guard⟩ ρ L R (.int k (min (min a b) c)) := fun _ w _ => by
  simp only [execOp, resolve, invoke, builtin, Builtin.min_, List.map_toArray, List.map_cons, List.map_nil, hx, hy, hz]
  have h1 : (if b < a then b else a) = min a b := by rw [Int.min_def]; split <;> split <;> omega
  have h2 : (if c < min a b then c else min a b) = min (min a b) c := by rw [Int.min_def (min a b) c]; split <;> split <;> omega
  simp [Builtin.min2, h1, h2]
theorem yv_max3 {ts : Array TypeId} (hx : ρ x = .int k a) (hy : ρ y = .int k b) (hz : ρ z = .int k c) : YV P ⟨dst, .call ⟨.builtin .max, #[x, y, z], ts⟩, ty, pos, after, guard⟩ ρ L R (.int k (max (max a b) c)) := fun _ w _ => by
  simp only [execOp, resolve, invoke, builtin, Builtin.max_, List.map_toArray, List.map_cons, List.map_nil, hx, hy, hz]
  have h1 : (if b > a then b else a) = max a b := by rw [Int.max_def]; split <;> split <;> omega
  have h2 : (if c > max a b then c else max a b) = max (max a b) c := by rw [Int.max_def (max a b) c]; split <;> split <;> omega
  simp [Builtin.max2, h1, h2]

variable (tb : Tabs P)

theorem yv_convertU {k' : IntKind} {n1 n2 f1 f2 b1 b2 z1 z2} (h1 : getT tb.tab T = some ⟨.int k', n1, f1, b1, z1⟩) (h2 : getT tb.tab T2 = some ⟨.int .u64, n2, f2, b2, z2⟩) (hx : ρ x = .int k' a)
    (h3 : 0 ≤ a) (h4 : a ≤ 18446744073709551615) : YV P ⟨dst, .convert T T2 x, ty, pos, after, guard⟩ ρ L R (.int .u64 a) := by
  have := yv_convert (P := P) (L := L) (R := R) (dst := dst) (ty := ty) (pos := pos) (after := after) (guard := guard) tb h1 h2 hx
  rwa [wrapU h3 h4] at this

def fieldT (P : Program) (T f : Nat) : Option TypeId := match P.underlying T with
  | some (.struct fs) => (fs[f]?).map (·.type)
  | _ => none

/-- a field of a struct that is a value: of one cell -/
theorem yv_fieldv {e f off n n2 sz : Nat} {fl fl2 : List (Nat × Nat)} {bt z bt2 z2 k2} {cs : List Value} {v : Value} (hT : getT tb.tab T = some ⟨.struct, n, fl, bt, z⟩) (hft : fieldT P T f = some e) (hE : getT tb.tab e = some ⟨k2, n2, fl2, bt2, z2⟩) (hk : k2.isAgg = false)
    (hx : ρ x = .agg cs.toArray) (hf : fl[f]? = some (off, sz)) (hv : cs[off]? = some v) :
    YV P ⟨dst, .field T x f, ty, pos, after, guard⟩ ρ L R v := fun _ w _ => by
  obtain ⟨fs, hu, hfl⟩ := under_struct (tb.ok _ _ hT) rfl
  simp only at hfl
  subst hfl
  rw [List.getElem?_map] at hf
  obtain ⟨fd, hfd, he⟩ := Option.map_eq_some_iff.1 hf
  obtain ⟨h1, h2⟩ := Prod.mk.inj he
  have hfd' : fs[f]? = some fd := by rw [← Array.getElem?_toList]; exact hfd
  have hte : fd.type = e := by simpa [fieldT, hu, hfd'] using hft
  have hag := run_isAgg (tb.ok _ _ hE) w
  rw [show (TI.mk k2 n2 fl2 bt2 z2).k.isAgg = false from hk, ← hte] at hag
  subst h1
  simp [execOp, hx, Instr.field, run_underlying hu, hfd', asAgg, part, hag, hv]
end
end Go.Aw
