/-
  Assertion-level walks: operations that make or change memory. By an AI agent; no person has read it.
-/
import Derived.Test.YtimnnhdeicpenaaAwFn
set_option linter.unusedSimpArgs false
set_option linter.unusedVariables false
namespace Go.Aw
open Go

theorem upon_value {P : Program} {o : Oper} {ρ : Operand → Value} {a : Act} {next : Act → World → Prop} {Q : Exit → Act → World → Prop} {w w' : World} {v : Value} (h : (execOp ρ o).run P w = .ok (.value v) w') (k : next (a.put o.dst v) w') : o.upon P a next Q ((execOp ρ o).run P w) := by
  rw [h]; exact k
theorem upon_skip {P : Program} {o : Oper} {ρ : Operand → Value} {a : Act} {next : Act → World → Prop} {Q : Exit → Act → World → Prop} {w w' : World} (h : (execOp ρ o).run P w = .ok .skip w') (k : next (a.put o.dst undef) w') : o.upon P a next Q ((execOp ρ o).run P w) := by
  rw [h]; exact k

/-- a new block -/
theorem St.alloc {c : Ctx} {L : List Blk} {R : List Sl} {w : World} (h : St c L R w) (cs : Array Value) (T : TypeId) : St c (⟨w.heap.size, cs.toList, T⟩ :: L) R (w.alloc (.cells cs T)) := by
  obtain ⟨⟨G, hh, hg⟩, ho, hk⟩ := h
  have old : ∀ b, b < w.heap.size → (w.alloc (.cells cs T)).heap[b]? = w.heap[b]? := fun b hb => by
    show (w.heap.push _)[b]? = _
    rw [Array.getElem?_push, if_neg (by omega)]
  refine ⟨⟨G, ⟨?_, ?_, ?_, fun b hb => ?_, fun r hr => (hh.rep r hr).mono (fun _ h => h) (fun b hb => old b (hh.gs b hb))⟩, hg⟩, ?_, ⟨hk.os, hk.tape, hk.output, ?_, fun b hb hn => ?_, fun a => ?_⟩⟩
  · simp only [List.map_cons, List.nodup_cons]
    refine ⟨fun hm => ?_, hh.nd⟩
    obtain ⟨e, he, hb⟩ := List.mem_map.1 hm
    have := hh.lt he
    omega
  · intro e he
    rcases List.mem_cons.1 he with rfl | he
    · show (w.heap.push _)[w.heap.size]? = _
      simp
    · rw [old _ (hh.lt he)]; exact hh.own e he
  · intro e he
    rcases List.mem_cons.1 he with rfl | he
    · exact fun h => absurd (hh.gs _ h) (Nat.lt_irrefl _)
    · exact hh.ng e he
  · have := hh.gs b hb
    simp; omega
  · intro e he
    rcases List.mem_cons.1 he with rfl | he
    · exact .inr hk.size
    · exact ho e he
  · have := hk.size
    simp; omega
  · rw [old b (Nat.lt_of_lt_of_le hb hk.size)]; exact hk.block b hb hn
  · rw [RowKit.frozen?_alloc_cells]; exact hk.frz a

theorem St.drew {c : Ctx} {L : List Blk} {R : List Sl} {w : World} (h : St c L R w) : St c L R w.drew := by
  obtain ⟨⟨G, hh, hg⟩, ho, hk⟩ := h
  exact ⟨⟨G, ⟨hh.nd, hh.own, hh.ng, hh.gs, fun r hr => Rep.mono (w := w) (w' := w.drew) (G := G) (fun _ h => h) (fun _ _ => rfl) (hh.rep r hr)⟩, hg⟩, ho, ⟨hk.os, hk.tape, hk.output, hk.size, hk.block, hk.frz⟩⟩

/-- one block of the assertion turned -/
inductive Upd1 (b : Nat) (cs : List Value) (T : TypeId) (cs' : List Value) : List Blk → List Blk → Prop
  | here {L} : Upd1 b cs T cs' (⟨b, cs, T⟩ :: L) (⟨b, cs', T⟩ :: L)
  | cons {x L L'} (h : Upd1 b cs T cs' L L') : Upd1 b cs T cs' (x :: L) (x :: L')
  | app {X L L'} (h : Upd1 b cs T cs' L L') : Upd1 b cs T cs' (X ++ L) (X ++ L')

theorem Upd1.mem {b cs T cs' L L'} (h : Upd1 b cs T cs' L L') : (⟨b, cs, T⟩ : Blk) ∈ L := by
  induction h with
  | here => simp
  | cons _ ih => exact List.mem_cons_of_mem _ ih
  | app _ ih => exact List.mem_append_right _ ih
theorem Upd1.bs {b cs T cs' L L'} (h : Upd1 b cs T cs' L L') : L'.map (·.b) = L.map (·.b) := by
  induction h with
  | here => rfl
  | cons _ ih => simp [ih]
  | app _ ih => simp [ih]
theorem Upd1.back {b cs T cs' L L'} (h : Upd1 b cs T cs' L L') : ∀ e ∈ L', e = ⟨b, cs', T⟩ ∨ e ∈ L := by
  induction h with
  | here => intro e he; rcases List.mem_cons.1 he with h | h; exact .inl h; exact .inr (List.mem_cons_of_mem _ h)
  | cons _ ih => intro e he; rcases List.mem_cons.1 he with h | h; exact .inr (by rw [h]; simp); exact (ih e h).imp id (List.mem_cons_of_mem _)
  | app _ ih => intro e he; rcases List.mem_append.1 he with h | h; exact .inr (List.mem_append_left _ h); exact (ih e h).imp id (List.mem_append_right _)

theorem frozen_setRow (w : World) (g : Nat) (cs : Array Value) (a : Addr) : (w.setRow g cs).frozen? a = w.frozen? a := by
  by_cases h : a.block = g
  · subst h
    unfold World.frozen?
    cases hb : w.heap[a.block]? with
    | none => simp [World.setRow, Array.getElem?_modify, hb]
    | some o => cases o <;> simp [World.setRow, Array.getElem?_modify, hb]
  · exact World.frozen?_of_block (w := w) (setRow_other w g _ cs h)

theorem St.setRow {c : Ctx} {L L' : List Blk} {R : List Sl} {w : World} {b : Nat} {cs cs' : List Value} {T : TypeId} (h : St c L R w) (hu : Upd1 b cs T cs' L L') : St c L' R (w.setRow b cs'.toArray) := by
  obtain ⟨⟨G, hh, hg⟩, ho, hk⟩ := h
  have hb := hh.own _ hu.mem
  have hbG := hh.ng _ hu.mem
  have nd' : (L'.map (·.b)).Nodup := by rw [hu.bs]; exact hh.nd
  -- an entry of L' with the number b is the new one
  have same : ∀ e ∈ L', e.b = b → e = ⟨b, cs', T⟩ := by
    have : ∀ {L L' : List Blk}, Upd1 b cs T cs' L L' → (L.map (·.b)).Nodup → ∀ e ∈ L', e.b = b → e = ⟨b, cs', T⟩ := by
      intro L L' hu
      induction hu with
      | here =>
        intro nd e he hb
        rcases List.mem_cons.1 he with h | h
        · exact h
        · simp only [List.map_cons, List.nodup_cons] at nd
          exact absurd (List.mem_map.2 ⟨e, h, hb⟩) nd.1
      | cons hu ih =>
        intro nd e he hb
        simp only [List.map_cons, List.nodup_cons] at nd
        rcases List.mem_cons.1 he with h | h
        · refine absurd (List.mem_map.2 ⟨_, hu.mem, ?_⟩) nd.1
          rw [← h]; exact hb.symm
        · exact ih nd.2 e h hb
      | app hu ih =>
        intro nd e he hb
        rw [List.map_append, List.nodup_append] at nd
        rcases List.mem_append.1 he with h | h
        · exact absurd hb (nd.2.2 e.b (List.mem_map.2 ⟨e, h, rfl⟩) b (List.mem_map.2 ⟨_, hu.mem, rfl⟩))
        · exact ih nd.2.1 e h hb
    exact this hu hh.nd
  refine ⟨⟨G, ⟨nd', fun e he => ?_, fun e he => ?_, fun x hx => by simpa using hh.gs x hx, fun r hr => (hh.rep r hr).mono (fun _ h => h) (fun x hx => setRow_other w b x _ (fun e => hbG (e ▸ hx)))⟩, hg⟩, fun e he => ?_, ⟨hk.os, hk.tape, hk.output, by simpa using hk.size, fun x hx hn => ?_, fun a => ?_⟩⟩
  · by_cases hbe : e.b = b
    · rw [same e he hbe]
      exact setRow_heap w b _ _ T _ hb
    · rw [setRow_other w b _ _ hbe]
      rcases hu.back e he with h | h
      · exact absurd (by rw [h]) hbe
      · exact hh.own e h
  · rcases hu.back e he with h | h
    · rw [h]; exact hbG
    · exact hh.ng e h
  · rcases hu.back e he with h | h
    · have := ho _ hu.mem
      rw [h]; exact this
    · exact ho e h
  · by_cases hxb : x = b
    · subst hxb
      rcases ho _ hu.mem with h | h
      · exact absurd h hn
      · exact absurd h (Nat.not_le.2 hx)
    · rw [setRow_other w b x _ hxb]; exact hk.block x hx hn
  · rw [frozen_setRow]; exact hk.frz a

section
variable {P : Program} {ρ : Operand → Value} {L L' : List Blk} {R : List Sl} {dst : Option Tmp} {ty : TypeId} {pos : String} {after : Array Edge} {guard : Option (Nat × Bool)} (tb : Tabs P) {T : TypeId} {x y : Operand}

theorem gives_alloc {k n fl bt z} (hT : getT tb.tab T = some ⟨k, n, fl, bt, z⟩) :
    Gives P ⟨dst, .alloc T, ty, pos, after, guard⟩ ρ L R (fun v L' R' => ∃ b, v = .pointer (some ⟨b, 0, none⟩) ∧ L' = ⟨b, z, T⟩ :: L ∧ R' = R) := by
  intro c w hs a next Q kk
  obtain ⟨zv, hz1, hz2⟩ := run_zeroValue (tb.ok _ _ hT) w
  simp only at hz2
  refine upon_value (w' := w.alloc (.cells zv.cells T)) (v := .pointer (some ⟨w.heap.size, 0, none⟩)) ?_ (kk _ _ _ _ ⟨w.heap.size, rfl, rfl, rfl⟩ ?_)
  · simp [execOp, Instr.alloc, hz1, newVar, newRow]
  · rw [← hz2]; exact hs.alloc _ _

theorem gives_box1 {v : Value} (hx : ρ x = v) (h1 : v.oneCell' = true) :
    Gives P ⟨dst, .box T x, ty, pos, after, guard⟩ ρ L R (fun u L' R' => ∃ b, u = .pointer (some ⟨b, 0, none⟩) ∧ L' = ⟨b, [v], T⟩ :: L ∧ R' = R) := by
  intro c w hs a next Q kk
  have hc : v.cells = #[v] := by cases v <;> first | rfl | (simp [Value.oneCell'] at h1)
  refine upon_value (w' := w.alloc (.cells #[v] T)) (v := .pointer (some ⟨w.heap.size, 0, none⟩)) ?_ (kk _ _ _ _ ⟨w.heap.size, rfl, rfl, rfl⟩ (hs.alloc _ _))
  simp [execOp, hx, Instr.box, newVar, newRow, hc]

theorem gives_boxN {row : List Value} (hx : ρ x = .agg row.toArray) :
    Gives P ⟨dst, .box T x, ty, pos, after, guard⟩ ρ L R (fun u L' R' => ∃ b, u = .pointer (some ⟨b, 0, none⟩) ∧ L' = ⟨b, row, T⟩ :: L ∧ R' = R) := by
  intro c w hs a next Q kk
  refine upon_value (w' := w.alloc (.cells row.toArray T)) (v := .pointer (some ⟨w.heap.size, 0, none⟩)) ?_ (kk _ _ _ _ ⟨w.heap.size, rfl, rfl, rfl⟩ (hs.alloc _ _))
  simp [execOp, hx, Instr.box, newVar, newRow, Value.cells]

theorem run_store_own {c : Ctx} {w : World} (hs : St c L R w) {b o : Nat} {cs vs : List Value} {T' : TypeId} {ti : TI} (hT : factsOf P T = some ti) (hn : vs.length = ti.sz) (hu : Upd1 b cs T' (cs.take o ++ vs ++ cs.drop (o + vs.length)) L L')
    (hfit : o + vs.length ≤ cs.length) (h1 : ∀ v ∈ vs, v.oneCell' = true) {val : Value} (hv : val.cells = vs.toArray) :
    (storeVar T ⟨b, o, none⟩ val).run P w = .ok () (w.setRow b (cs.take o ++ vs ++ cs.drop (o + vs.length)).toArray) := by
  have hb : w.heap[b]? = some (.cells cs.toArray T' (0, 0)) := by
    obtain ⟨⟨G, hh, _⟩, _, _⟩ := hs
    exact hh.own _ hu.mem
  have hst := run_storeCells_at P b o T' vs 0 cs.toArray w hb (by simpa using hfit) h1
  simp only [Nat.add_zero] at hst
  simp only [storeVar, Sem.run_bind, run_sizeOf hT, Result.andThen_ok, hv]
  simp [hn, hst]

theorem gives_storeN {k n fl bt z b o} {cs vs cs' : List Value} {T' : TypeId} (hT : getT tb.tab T = some ⟨k, n, fl, bt, z⟩) (hx : ρ x = .pointer (some ⟨b, o, none⟩)) (hy : ρ y = .agg vs.toArray) (hn : vs.length = n)
    (hu : Upd1 b cs T' cs' L L') (hfit : Nat.ble (o + vs.length) cs.length = true) (hcs : cs.take o ++ vs ++ cs.drop (o + vs.length) = cs') (h1 : vs.all (·.oneCell') = true) :
    Gives P ⟨none, .store T x y, ty, pos, after, guard⟩ ρ L R (fun _ L'' R' => L'' = L' ∧ R' = R) := by
  intro c w hs a next Q kk
  subst hcs
  have := run_store_own (P := P) hs (tb.ok _ _ hT) hn hu (Nat.le_of_ble_eq_true hfit) (List.all_eq_true.1 h1) (val := .agg vs.toArray) rfl
  refine upon_skip (w' := w.setRow b _) ?_ (kk undef L' R _ ⟨rfl, rfl⟩ (hs.setRow hu))
  simp [execOp, hx, hy, Instr.storeAt, Instr.sureAddr, this]

theorem set_eq (cs : List Value) (o : Nat) (v : Value) (h : o < cs.length) : cs.take o ++ [v] ++ cs.drop (o + 1) = cs.set o v := by
  rw [List.set_eq_take_append_cons_drop, if_pos h]
  simp

theorem gives_store1 {k n fl bt z b o} {cs cs' : List Value} {v : Value} {T' : TypeId} (hT : getT tb.tab T = some ⟨k, n, fl, bt, z⟩) (hx : ρ x = .pointer (some ⟨b, o, none⟩)) (hy : ρ y = v) (hn : n = 1)
    (hu : Upd1 b cs T' cs' L L') (hfit : Nat.blt o cs.length = true) (hcs : cs.set o v = cs') (h1 : v.oneCell' = true) :
    Gives P ⟨none, .store T x y, ty, pos, after, guard⟩ ρ L R (fun _ L'' R' => L'' = L' ∧ R' = R) := by
  intro c w hs a next Q kk
  have hlt : o < cs.length := by simpa using hfit
  subst hcs
  rw [← set_eq cs o v hlt] at hu
  have hc : v.cells = #[v] := by cases v <;> first | rfl | (simp [Value.oneCell'] at h1)
  have := run_store_own (P := P) (vs := [v]) hs (tb.ok _ _ hT) (by simp [hn]) hu (by simpa using Nat.succ_le_of_lt hlt) (by simpa using h1) hc
  refine upon_skip (w' := w.setRow b _) ?_ (kk undef L' R _ ⟨rfl, rfl⟩ (hs.setRow hu))
  simp [execOp, hx, hy, Instr.storeAt, Instr.sureAddr, this]

/-! building values -/

def putAt : List Value → Nat → List Value → List Value
  | cs, _, [] => cs
  | cs, o, v :: vs => putAt (cs.set o v) (o + 1) vs

def fillL (fl : List (Nat × Nat)) (cs : List Value) : List (Nat × List Value) → Option (List Value)
  | [] => some cs
  | (i, vs) :: rest => match fl[i]? with
    | some (off, size) => bif Nat.beq vs.length size && Nat.ble (off + vs.length) cs.length then fillL fl (putAt cs off vs) rest else none
    | none => none

theorem foldl_put : ∀ (vs : List Value) (off j : Nat) (cs : Array Value), (vs.zipIdx j).foldl (fun cs (p : Value × Nat) => cs.setIfInBounds (off + p.2) p.1) cs = (putAt cs.toList (off + j) vs).toArray
  | [], _, _, cs => by simp [putAt]
  | v :: vs, off, j, cs => by
    simp only [List.zipIdx_cons, List.foldl_cons, putAt]
    rw [foldl_put vs off (j + 1)]
    simp [Nat.add_assoc]

theorem putAt_length : ∀ (vs : List Value) (cs : List Value) (o : Nat), (putAt cs o vs).length = cs.length
  | [], _, _ => rfl
  | v :: vs, cs, o => by simp [putAt, putAt_length vs]

theorem fill_eq (fl : List (Nat × Nat)) (place : Nat → Option (Nat × Nat)) (hp : ∀ i, place i = fl[i]?) : ∀ (parts : List (Nat × Value)) (cs : List Value) (out : List Value),
    fillL fl cs (parts.map fun p => (p.1, p.2.cells.toList)) = some out → Instr.fill place cs.toArray parts = some out.toArray
  | [], cs, out, h => by simp only [List.map_nil, fillL, Option.some.injEq] at h; simp [Instr.fill, h]
  | (i, v) :: rest, cs, out, h => by
    simp only [List.map_cons, fillL] at h
    simp only [Instr.fill, hp]
    cases hf : fl[i]? with
    | none => rw [hf] at h; cases h
    | some p =>
      obtain ⟨off, size⟩ := p
      rw [hf] at h
      simp only at h
      cases hb : (Nat.beq v.cells.toList.length size && Nat.ble (off + v.cells.toList.length) cs.length) with
      | false => rw [hb] at h; cases h
      | true =>
        rw [hb, cond_true] at h
        simp only [Bool.and_eq_true, Nat.beq_eq, Nat.ble_eq, Array.length_toList] at hb
        have := fill_eq fl place hp rest _ out h
        simp only
        rw [if_neg (by simp [hb.1]; omega)]
        have hz : v.cells.zipIdx.foldl (fun cs (x : Value × Nat) => cs.setIfInBounds (off + x.2) x.1) cs.toArray = (putAt cs off v.cells.toList).toArray := by
          rw [← Array.foldl_toList]
          have := foldl_put v.cells.toList off 0 cs.toArray
          simpa using this
        rw [show (v.cells.zipIdx.foldl (fun cs (c, j) => cs.setIfInBounds (off + j) c) cs.toArray) = (putAt cs off v.cells.toList).toArray from hz]
        exact this

def evP (ρ : Operand → Value) : List (Nat × Operand) → List (Nat × List Value)
  | [] => []
  | (i, x) :: l => (i, (ρ x).cells.toList) :: evP ρ l
theorem evP_eq (ρ : Operand → Value) (l : List (Nat × Operand)) : evP ρ l = (l.map fun p => (p.1, ρ p.2)).map fun p => (p.1, p.2.cells.toList) := by
  induction l with
  | nil => rfl
  | cons p l ih => obtain ⟨i, x⟩ := p; simp [evP, ih]

theorem run_places (w : World) : ∀ (l : List Field), (∀ f ∈ l, ((P.info? f.type).map (·.size)).getD 0 ≠ 0) →
    (l.mapM fun f => (do pure (f.offset, ← sizeOf f.type) : Sem (Nat × Nat))).run P w = .ok (l.map fun f => (f.offset, ((P.info? f.type).map (·.size)).getD 0)) w := by
  intro l
  induction l with
  | nil => intro _; simp
  | cons f l ih =>
    intro hl
    have h1 := hl f (by simp)
    cases hj : P.info? f.type with
    | none => rw [hj] at h1; simp at h1
    | some j =>
      have ih' := ih fun g hg => hl g (by simp [hg])
      have hs : (sizeOf f.type).run P w = .ok j.size w := by simp [sizeOf, typeInfo, hj]
      rw [List.mapM_cons]
      simp only [Sem.run_bind, hs, Result.andThen_ok, Sem.run_pure, ih', List.map_cons, hj, Option.map_some, Option.getD_some]

theorem yv_build {n fl bt z} {ps : List (Nat × Operand)} {qs : List (Nat × List Value)} {out : List Value} (hT : getT tb.tab T = some ⟨.struct, n, fl, bt, z⟩) (hz0 : fl.all (fun p => !Nat.beq p.2 0) = true) (hq : evP ρ ps = qs) (hf : fillL fl z qs = some out) :
    YV P ⟨dst, .build T ps.toArray, ty, pos, after, guard⟩ ρ L R (.agg out.toArray) := fun _ w _ => by
  obtain ⟨fs, hu, hfl⟩ := under_struct (tb.ok _ _ hT) rfl
  obtain ⟨zv, hz1, hz2⟩ := run_zeroValue (tb.ok _ _ hT) w
  simp only at hfl hz2
  subst hq
  rw [evP_eq] at hf
  have hall : ∀ f ∈ fs.toList, ((P.info? f.type).map (·.size)).getD 0 ≠ 0 := by
    intro f hm h0
    rw [hfl, List.all_map, List.all_eq_true] at hz0
    have := hz0 f hm
    simp [h0] at this
  have hpl := run_places (P := P) w fs.toList hall
  rw [← hfl] at hpl
  have hfill := fill_eq fl (fun i => fl.toArray[i]?) (fun i => by simp) (ps.map fun p => (p.1, ρ p.2)) z out hf
  have hzc : zv.cells = z.toArray := by rw [← hz2]
  have hmap : (ps.toArray.map fun (p : Nat × Operand) => (p.1, ρ p.2)).toList = ps.map fun p => (p.1, ρ p.2) := by simp
  have hfs : fs = fs.toList.toArray := by simp
  have hm : (fs.mapM fun f => (do pure (f.offset, ← sizeOf f.type) : Sem (Nat × Nat))).run P w = .ok fl.toArray w := by
    rw [hfs, List.mapM_toArray]
    simp only [Sem.run_map, hpl, Result.andThen_ok]
  have hgoal : (Instr.build T (ps.toArray.map fun (p : Nat × Operand) => (p.1, ρ p.2))).run P w = .ok (.agg out.toArray) w := by
    unfold Instr.build
    simp only [Sem.run_bind, hz1, Result.andThen_ok, run_underlying hu, hm, hzc, hmap]
    rw [hfill]
    simp
  show (execOp ρ ⟨dst, .build T ps.toArray, ty, pos, after, guard⟩).run P w = _
  have e : execOp ρ ⟨dst, .build T ps.toArray, ty, pos, after, guard⟩ = (do pure (.value (← Instr.build T (ps.toArray.map fun (p : Nat × Operand) => (p.1, ρ p.2))))) := rfl
  rw [e]
  simp only [Sem.run_bind, hgoal, Result.andThen_ok]
  rfl
end
end Go.Aw
