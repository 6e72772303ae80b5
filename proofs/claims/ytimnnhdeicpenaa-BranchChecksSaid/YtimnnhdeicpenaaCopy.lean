/-
  A read-only slice copied by an append to nil. By an AI agent; no person has read it.
-/
import Derived.Test.YtimnnhdeicpenaaOwn
set_option linter.unusedSimpArgs false
set_option linter.unusedVariables false
namespace Go.Aw
open Go

theorem run_append_none {P : Program} (w : World) (t ty e : TypeId) (i : TypeInfo) (ht : P.underlying t = some (.slice e)) (hi : P.info? e = some i) (ar : Option Addr) (c : Nat) :
    (Builtin.append_ #[t, t] ty #[.slice none 0 0, .slice ar 0 c]).run P w = .ok (.slice none 0 0) w := by
  cases ar with
  | none => simp [Builtin.append_, run_underlying ht, sizeOf, typeInfo, hi, Builtin.lenOf, run_firstCells_none, Builtin.firstCells]
  | some a =>
    have hf := run_firstCells_some (P := P) w i.size 0 a 0 c [] (by simp) (by simp)
    simp [Builtin.append_, run_underlying ht, sizeOf, typeInfo, hi, Builtin.lenOf, hf]

section
variable {P : Program} {ρ : Operand → Value} {L : List Blk} {R : List Sl} {dst : Option Tmp} {ty : TypeId} {pos : String} {after : Array Edge} {guard : Option (Nat × Bool)} (tb : Tabs P) {T : TypeId} {x y : Operand}

theorem yv_eql_bool {T2 : TypeId} {a b : Bool} {n1 f1 b1 z1} (hT : getT tb.tab T = some ⟨.bool, n1, f1, b1, z1⟩) (hx : ρ x = .bool a) (hy : ρ y = .bool b) : YV P ⟨dst, .binOp .eql T x y T2, ty, pos, after, guard⟩ ρ L R (.bool (decide (a = b))) := fun _ _ _ => by
  have hb := fun w => run_equal_bool (P := P) w T a b (under_bool (tb.ok _ _ hT) rfl)
  simp [execOp, hx, hy, eqGuard, binOp, hb]
  cases a <;> cases b <;> rfl

/-- 'append(nil, y...)' -/
theorem gives_copy {α : Type} {e n fl bt z k2 n2 fl2 bt2 z2} {f : α → List Value} {xs : Arr α} {subs : List Sl} (hT : getT tb.tab T = some ⟨.slice e, n, fl, bt, z⟩) (hE : getT tb.tab e = some ⟨k2, n2, fl2, bt2, z2⟩) (hn2 : z2.length = n2) (h0 : 0 < n2)
    (hx : ρ x = .slice none 0 0) (hy : ρ y = xs.val) (hR : InR (xs.sl n2 f subs) R) (h1 : ∀ a, (f a).all (·.oneCell') = true) (hby : xs.l.length * (bt2 + 1) ≤ 140737488355328) :
    Gives P ⟨dst, .call ⟨.builtin .append, #[x, y], #[T, T]⟩, ty, pos, after, guard⟩ ρ L R (fun v L' R' => ∃ o : Ow, v = (⟨o, xs.l⟩ : OwL α).val ∧ (⟨o, xs.l⟩ : OwL α).ok n2 f ∧ (⟨o, xs.l⟩ : OwL α).L e f ++ L = L' ∧ R = R') := by
  intro c w hst a next Q kk
  obtain ⟨ar, cap, l⟩ := xs
  cases l with
  | nil =>
    have hu := under_slice (tb.ok _ _ hT) rfl
    obtain ⟨ti, u, zv, i1, i2, i3, i4⟩ := facts_parts (tb.ok _ _ hE)
    have e1 : execOp ρ ⟨dst, .call ⟨.builtin .append, #[x, y], #[T, T]⟩, ty, pos, after, guard⟩ = (do pure (.value (← Builtin.append_ #[T, T] ty #[ρ x, ρ y]))) := by
      simp [execOp, resolve, invoke, builtin]
    have hr := run_append_none w T ty e ti hu i1 ar cap
    refine upon_value (w' := w) (v := .slice none 0 0) ?_ (kk _ _ _ w ⟨.nil, rfl, ⟨rfl, rfl⟩, rfl, rfl⟩ hst)
    rw [e1, hx, hy]
    simp only [Arr.val, List.length_nil, Sem.run_bind, hr, Result.andThen_ok, Sem.run_pure]
  | cons x0 l =>
    have hw : ∀ r ∈ (x0 :: l).map f, r.length = n2 := by
      have hst' := hst
      obtain ⟨⟨G, hh, _⟩, _, _⟩ := hst'
      obtain ⟨r, hr, hsub⟩ := hR
      have hrep := (hh.rep r hr).sub hsub
      cases hrep with
      | mk _ _ _ hw _ _ => exact hw
    have hf0 : ((x0 :: l).map f).flatten = (x0 :: l).flatMap f := rows_map _
    have hfl : ((x0 :: l).map f).flatten.length = (x0 :: l).length * n2 := by
      have : ∀ rows : List (List Value), (∀ r ∈ rows, r.length = n2) → rows.flatten.length = rows.length * n2 := by
        intro rows
        induction rows with
        | nil => intro _; simp
        | cons r rows ih =>
          intro h
          rw [List.flatten_cons, List.length_append, ih fun r hr => h r (by simp [hr]), h r (by simp), List.length_cons, Nat.succ_mul]
          omega
      rw [this _ hw, List.length_map]
    have hs := shown_ro (L := L) hR h0 (fun c w hst => by
      obtain ⟨⟨G, hh, _⟩, _, _⟩ := hst
      obtain ⟨r, hr, hsub⟩ := hR
      have hrep := (hh.rep r hr).sub hsub
      cases hrep with
      | mk _ _ _ _ hm _ =>
        rcases hm with h | ⟨b, off, ha, _⟩
        · simp at h
        · exact ⟨b, off, ha⟩) hfl ⟨c, w, hst⟩
    have hb1 : (x0 :: l).length * bt2 ≤ 140737488355328 := Nat.le_trans (Nat.mul_le_mul_left _ (Nat.le_succ _)) hby
    have hb2 : (x0 :: l).length ≤ 140737488355328 := Nat.le_trans (Nat.le_mul_of_pos_right _ (Nat.succ_pos _)) hby
    have hs2 : Shown L R (ρ y) (x0 :: l).length n2 ((x0 :: l).map f).flatten := by rw [hy]; exact hs
    have hall : (((x0 :: l).map f).flatten).all (·.oneCell') = true := by
      rw [List.all_eq_true]
      intro v hv
      obtain ⟨r, hr, hv⟩ := List.mem_flatten.1 hv
      obtain ⟨a, _, rfl⟩ := List.mem_map.1 hr
      exact List.all_eq_true.1 (h1 a) v hv
    have := gives_append (dst := dst) (ty := ty) (pos := pos) (after := after) (guard := guard) (s := .nil) (xs := []) (len := 0) (L := L) (f := fun Y => Y ++ L) tb hT hE hn2 hx ⟨rfl, rfl⟩ Seg.here hs2 (by simp) hall (by omega) (by rw [Nat.zero_add]; exact hb1)
    refine this c w hst a next Q ?_
    rintro v L' R' w' ⟨g, cap2, spare, rfl, hok', rfl, rfl⟩ hst'
    rw [List.nil_append, hf0, Nat.zero_add] at hok'
    refine kk _ _ _ w' ⟨.own g cap2 spare, ?_, hok', ?_, rfl⟩ hst'
    · rw [Nat.zero_add]; rfl
    · rw [List.nil_append, hf0]; rfl
end
end Go.Aw
