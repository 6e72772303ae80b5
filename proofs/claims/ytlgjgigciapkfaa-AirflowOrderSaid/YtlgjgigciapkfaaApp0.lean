/-
  Appending nothing. By an AI agent; no person has read it.
-/
import Derived.Test.YtlgjgigciapkfaaData
import Derived.Test.YtlgjgigciapkfaaOwn
set_option linter.unusedSimpArgs false
set_option linter.unusedVariables false
namespace Go.Proofs.Ytlgjgigciapkfaa
open Go.Aw Go
theorem run_append_zero {P : Program} (w : World) (t ty e : TypeId) (i : TypeInfo) (ht : P.underlying t = some (.slice e)) (hi : P.info? e = some i) (b off sLen sCap : Nat) (a : Option Addr) (c : Nat) (hl : sLen ≤ sCap) :
    (Builtin.append_ #[t, t] ty #[.slice (some ⟨b, off, none⟩) sLen sCap, .slice a 0 c]).run P w = .ok (.slice (some ⟨b, off, none⟩) sLen sCap) w := by
  have hst := run_storeCells_cells (P := P) b (off + sLen * i.size) [] 0 w (by simp) (by simp) (by simp)
  cases a with
  | none => simp [Builtin.append_, run_underlying ht, sizeOf, typeInfo, hi, Builtin.lenOf, hl, Builtin.firstCells, storeCells]
  | some a =>
    have hf := run_firstCells_some (P := P) w i.size 0 a 0 c [] (by simp) (by simp)
    simp [Builtin.append_, run_underlying ht, sizeOf, typeInfo, hi, Builtin.lenOf, hl, hf, storeCells]
section
variable {P : Program} {ρ : Operand → Value} {L : List Blk} {R : List Sl} {dst : Option Tmp} {ty : TypeId} {pos : String} {after : Array Edge} {guard : Option (Nat × Bool)} (tb : Tabs P) {T : TypeId} {x y : Operand}
theorem gives_append0 {e n fl bt z k2 n2 fl2 bt2 z2} {b sLen sCap c : Nat} {ar : Option Addr} (hT : getT tb.tab T = some ⟨.slice e, n, fl, bt, z⟩) (hE : getT tb.tab e = some ⟨k2, n2, fl2, bt2, z2⟩) (hx : ρ x = .slice (some ⟨b, 0, none⟩) sLen sCap) (hy : ρ y = .slice ar 0 c) (hl : sLen ≤ sCap) :
    Gives P ⟨dst, .call ⟨.builtin .append, #[x, y], #[T, T]⟩, ty, pos, after, guard⟩ ρ L R (fun v L' R' => v = .slice (some ⟨b, 0, none⟩) sLen sCap ∧ L = L' ∧ R = R') := by
  intro c1 w hst a next Q kk
  have hu := under_slice (tb.ok _ _ hT) rfl
  obtain ⟨ti, u, zv, i1, i2, i3, i4⟩ := facts_parts (tb.ok _ _ hE)
  have e1 : execOp ρ ⟨dst, .call ⟨.builtin .append, #[x, y], #[T, T]⟩, ty, pos, after, guard⟩ = (do pure (.value (← Builtin.append_ #[T, T] ty #[ρ x, ρ y]))) := by
    simp [execOp, resolve, invoke, builtin]
  have hr := run_append_zero w T ty e ti hu i1 b 0 sLen sCap ar c hl
  refine upon_value (w' := w) (v := .slice (some ⟨b, 0, none⟩) sLen sCap) ?_ (kk _ _ _ w ⟨rfl, rfl, rfl⟩ hst)
  rw [e1, hx, hy]
  simp only [Sem.run_bind, hr, Result.andThen_ok, Sem.run_pure]
end
/-! ### appending an own list -/
theorem all_flat {α : Type} {f : α → List Value} (h1 : ∀ x, (f x).all (·.oneCell') = true) : ∀ l : List α, (l.flatMap f).all (·.oneCell') = true
  | [] => rfl
  | x :: l => by rw [List.flatMap_cons, List.all_append, h1 x, all_flat h1 l]; rfl
theorem shown_ow {α : Type} {f : α → List Value} {wd : Nat} {T' : TypeId} {q : OwL α} {L : List Blk} {R : List Sl} (hf : ∀ x, (f x).length = wd) (hok : q.ok wd f) (hin : InB (q.L T' f) L) (hm : 0 < q.l.length) : Shown L R q.val q.l.length wd (q.l.flatMap f) := by
  obtain ⟨g, cap, spare, ho⟩ := OwL.own_of hok hm
  refine ⟨⟨g, 0, none⟩, cap, by rw [OwL.val, ho]; rfl, rows_length hf q.l, fun c w hst j u hj => ?_⟩
  have hmem : (⟨g, q.l.flatMap f ++ spare, T'⟩ : Blk) ∈ L := hin _ (by rw [OwL.L, ho]; simp [Ow.L])
  rw [add_none, Nat.zero_add, cell_own hst hmem]
  rw [List.getElem?_append_left (List.getElem?_eq_some_iff.1 hj).1]
  exact hj
section
variable {P : Program} {ρ : Operand → Value} {L : List Blk} {R : List Sl} {dst : Option Tmp} {ty : TypeId} {pos : String} {after : Array Edge} {guard : Option (Nat × Bool)} (tb : Tabs P) {T : TypeId} {x y : Operand}
/-- 'append(p, q...)' -/
theorem gives_appendN {α : Type} {e n fl bt z k2 n2 fl2 bt2 z2} {f : α → List Value} (p q : OwL α) {T' : TypeId} {F : OwL α → List Blk} (hT : getT tb.tab T = some ⟨.slice e, n, fl, bt, z⟩) (hE : getT tb.tab e = some ⟨k2, n2, fl2, bt2, z2⟩) (hn2 : z2.length = n2)
    (hx : ρ x = p.val) (hy : ρ y = q.val) (hok : p.ok n2 f) (hokq : q.ok n2 f) (hf : ∀ x, (f x).length = n2) (hseg : OSeg e f p L F) (hB : InB (q.L T' f) L) (hm : 0 < q.l.length) (h1 : ∀ x, (f x).all (·.oneCell') = true) (hby : (p.l.length + q.l.length) * (bt2 + 1) ≤ 140737488355328) :
    Gives P ⟨dst, .call ⟨.builtin .append, #[x, y], #[T, T]⟩, ty, pos, after, guard⟩ ρ L R (fun v L' R' => ∃ o : Ow, v = (⟨o, p.l ++ q.l⟩ : OwL α).val ∧ (⟨o, p.l ++ q.l⟩ : OwL α).ok n2 f ∧ F ⟨o, p.l ++ q.l⟩ = L' ∧ R = R') := by
  have hsh : Shown L R q.val q.l.length n2 (q.l.flatMap f) := shown_ow hf hokq hB hm
  rw [← hy] at hsh
  obtain ⟨A, B, hL, hF⟩ := hseg.split
  subst hL
  have hb1 : (p.l.length + q.l.length) * bt2 ≤ 140737488355328 := Nat.le_trans (Nat.mul_le_mul_left _ (Nat.le_succ _)) hby
  have hb2 : p.l.length + q.l.length ≤ 140737488355328 := Nat.le_trans (Nat.le_mul_of_pos_right _ (Nat.succ_pos _)) hby
  have hx' : ρ x = p.o.val p.l.length := by rw [hx, Ow.val_of_ok hok]; rfl
  have := gives_append (dst := dst) (ty := ty) (pos := pos) (after := after) (guard := guard) tb hT hE hn2 hx' hok (seg_mid A _ B) hsh hm (all_flat h1 _) (by omega) hb1
  intro c w hst ac next Q kk
  refine this c w hst ac next Q ?_
  rintro v L' R' w' ⟨g, cap, spare, rfl, hok', rfl, rfl⟩ hst'
  have e : p.l.flatMap f ++ q.l.flatMap f = (p.l ++ q.l).flatMap f := by simp
  rw [e] at hok'
  have hl : (p.l ++ q.l).length = p.l.length + q.l.length := by simp
  refine kk _ _ _ w' ⟨.own g cap spare, ?_, ?_, ?_, rfl⟩ hst'
  · rw [OwL.val]; dsimp only; rw [hl]; rfl
  · rw [OwL.ok]; dsimp only; rw [hl]; exact hok'
  · rw [hF, OwL.L]; dsimp only; rw [← e]
/-- 'append(p, q...)' where p is not empty -/
theorem gives_appendQ {α : Type} {e n fl bt z k2 n2 fl2 bt2 z2} {f : α → List Value} (p q : OwL α) {T' : TypeId} {F : OwL α → List Blk} (hT : getT tb.tab T = some ⟨.slice e, n, fl, bt, z⟩) (hE : getT tb.tab e = some ⟨k2, n2, fl2, bt2, z2⟩) (hn2 : z2.length = n2)
    (hx : ρ x = p.val) (hy : ρ y = q.val) (hok : p.ok n2 f) (hokq : q.ok n2 f) (hf : ∀ x, (f x).length = n2) (hseg : OSeg e f p L F) (hB : InB (q.L T' f) L) (hm : 0 < p.l.length) (h1 : ∀ x, (f x).all (·.oneCell') = true) (hby : (p.l.length + q.l.length) * (bt2 + 1) ≤ 140737488355328) :
    Gives P ⟨dst, .call ⟨.builtin .append, #[x, y], #[T, T]⟩, ty, pos, after, guard⟩ ρ L R (fun v L' R' => ∃ o : Ow, v = (⟨o, p.l ++ q.l⟩ : OwL α).val ∧ (⟨o, p.l ++ q.l⟩ : OwL α).ok n2 f ∧ F ⟨o, p.l ++ q.l⟩ = L' ∧ R = R') := by
  rcases Nat.eq_zero_or_pos q.l.length with h0 | h0
  · have hnil : q.l = [] := List.eq_nil_of_length_eq_zero h0
    obtain ⟨g, cap, spare, ho⟩ := OwL.own_of hok hm
    have hcap : p.l.length ≤ cap := by
      rw [OwL.ok, ho] at hok
      exact hok.2.1
    have hy' : ρ y = .slice q.o.addr 0 q.o.cap := by rw [hy, OwL.val, h0]
    have hx' : ρ x = .slice (some ⟨g, 0, none⟩) p.l.length cap := by rw [hx, OwL.val, ho]; rfl
    have := gives_append0 (L := L) (R := R) (dst := dst) (ty := ty) (pos := pos) (after := after) (guard := guard) tb hT hE hx' hy' hcap
    obtain ⟨A, B, hL, hF⟩ := hseg.split
    intro c w hst ac next Q kk
    refine this c w hst ac next Q ?_
    rintro v L' R' w' ⟨rfl, rfl, rfl⟩ hst'
    rw [hnil, List.append_nil] at kk
    exact kk _ _ _ w' ⟨p.o, by rw [OwL.val, ho]; rfl, hok, by rw [hF, hL], rfl⟩ hst'
  · exact gives_appendN tb p q hT hE hn2 hx hy hok hokq hf hseg hB h0 h1 hby
end
end Go.Proofs.Ytlgjgigciapkfaa
