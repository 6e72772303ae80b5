import Derived.Test.YtkpfjmibipblhaaGraph
import Derived.Test.YtkpfjmibipblhaaOwn
section
/-
  Fits: FlowS, FlowM, FitsF, Copy, Mades, Wide, in one text. By an AI agent; no person has read it.
-/
set_option linter.unusedSimpArgs false
set_option linter.unusedVariables false
section
namespace Go.Proofs.Ytkpfjmibipblhaa
open Go.Aw Go

end Go.Proofs.Ytkpfjmibipblhaa

end
section
namespace Go.Proofs.Ytkpfjmibipblhaa
open Go.Aw Go

end Go.Proofs.Ytkpfjmibipblhaa

end
section
namespace Go.Proofs.Ytkpfjmibipblhaa
open Go.Aw Go

end Go.Proofs.Ytkpfjmibipblhaa

end
section
namespace Go.Aw
open Go

theorem run_append_none {P : Program} (w : World) (t ty e : TypeId) (i : TypeInfo) (ht : P.underlying t = some (.slice e)) (hi : P.info? e = some i) (ar : Option Addr) (c : Nat) :
    (Builtin.append_ #[t, t] ty #[.slice none 0 0, .slice ar 0 c]).run P w = .ok (.slice none 0 0) w := by
  cases ar with
  | none => simp [Builtin.append_, run_underlying ht, sizeOf, typeInfo, hi, Builtin.lenOf, run_firstCells_none, Builtin.firstCells]
  | some a =>
    have hf := run_firstCells_some (P := P) w i.size 0 a 0 c [] (by simp) (by simp)
    simp [Builtin.append_, run_underlying ht, sizeOf, typeInfo, hi, Builtin.lenOf, hf]

section
variable {P : Program} {ρ : Operand → Value} {L : List Blk} {R : List Sl} {dst : Option Tmp} {ty : TypeId} {pos : String} {after : Array Edge} {guard : Option (Nat × Bool)} (tb : Tabs P) {T : TypeId} {x y : Operand}

theorem yv_eql_bool {T2 : TypeId} {a b : Bool} {n1 f1 b1 z1} (hT : getT tb.tab T = some ⟨.bool, n1, f1, b1, z1⟩) (hx : ρ x = .bool a) (hy : ρ y = .bool b) : YV P ⟨dst, .binOp .eql T x y T2, ty, pos, after, guard⟩ ρ L R (.bool (decide (a = b))) := fun _ _ _ => by
  have hb := fun w => run_equal_bool (P := P) w T a b (under_bool (tb.ok _ _ hT) rfl)
  simp [execOp, hx, hy, eqGuard, binOp, hb]
  cases a <;> cases b <;> rfl

theorem gives_copy {α : Type} {e n fl bt z k2 n2 fl2 bt2 z2} {f : α → List Value} {xs : Arr α} {subs : List Sl} (hT : getT tb.tab T = some ⟨.slice e, n, fl, bt, z⟩) (hE : getT tb.tab e = some ⟨k2, n2, fl2, bt2, z2⟩) (hn2 : z2.length = n2) (h0 : 0 < n2)
    (hx : ρ x = .slice none 0 0) (hy : ρ y = xs.val) (hR : InR (xs.sl n2 f subs) R) (h1 : ∀ a, (f a).all (·.oneCell') = true) (hby : xs.l.length * (bt2 + 1) ≤ 140737488355328) :
    Gives P ⟨dst, .call ⟨.builtin .append, #[x, y], #[T, T]⟩, ty, pos, after, guard⟩ ρ L R (fun v L' R' => ∃ o : Ow, v = (⟨o, xs.l⟩ : OwL α).val ∧ (⟨o, xs.l⟩ : OwL α).ok n2 f ∧ (⟨o, xs.l⟩ : OwL α).L e f ++ L = L' ∧ R = R') := by
  intro c w hst a next Q kk
  obtain ⟨ar, cap, l⟩ := xs
  cases l with
  | nil =>
    have hu := under_slice (tb.ok _ _ hT) rfl
    obtain ⟨ti, u, zv, i1, i2, i3, i4⟩ := facts_parts (tb.ok _ _ hE)
    have e1 : execOp ρ ⟨dst, .call ⟨.builtin .append, #[x, y], #[T, T]⟩, ty, pos, after, guard⟩ = (do pure (.value (← Builtin.append_ #[T, T] ty #[ρ x, ρ y]))) := by
      simp [execOp, resolve, invoke, builtin]
    have hr := run_append_none w T ty e ti hu i1 ar cap
    refine upon_value (w' := w) (v := .slice none 0 0) ?_ (kk _ _ _ w ⟨.nil, rfl, ⟨rfl, rfl⟩, rfl, rfl⟩ hst)
    rw [e1, hx, hy]
    simp only [Arr.val, List.length_nil, Sem.run_bind, hr, Result.andThen_ok, Sem.run_pure]
  | cons x0 l =>
    have hw : ∀ r ∈ (x0 :: l).map f, r.length = n2 := by
      have hst' := hst
      obtain ⟨⟨G, hh, _⟩, _, _⟩ := hst'
      obtain ⟨r, hr, hsub⟩ := hR
      have hrep := (hh.rep r hr).sub hsub
      cases hrep with
      | mk _ _ _ hw _ _ => exact hw
    have hf0 : ((x0 :: l).map f).flatten = (x0 :: l).flatMap f := rows_map _
    have hfl : ((x0 :: l).map f).flatten.length = (x0 :: l).length * n2 := by
      have : ∀ rows : List (List Value), (∀ r ∈ rows, r.length = n2) → rows.flatten.length = rows.length * n2 := by
        intro rows
        induction rows with
        | nil => intro _; simp
        | cons r rows ih =>
          intro h
          rw [List.flatten_cons, List.length_append, ih fun r hr => h r (by simp [hr]), h r (by simp), List.length_cons, Nat.succ_mul]
          omega
      rw [this _ hw, List.length_map]
    have hs := shown_ro (L := L) hR h0 (fun c w hst => by
      obtain ⟨⟨G, hh, _⟩, _, _⟩ := hst
      obtain ⟨r, hr, hsub⟩ := hR
      have hrep := (hh.rep r hr).sub hsub
      cases hrep with
      | mk _ _ _ _ hm _ =>
        rcases hm with h | ⟨b, off, ha, _⟩
        · simp at h
        · exact ⟨b, off, ha⟩) hfl ⟨c, w, hst⟩
    have hb1 : (x0 :: l).length * bt2 ≤ 140737488355328 := Nat.le_trans (Nat.mul_le_mul_left _ (Nat.le_succ _)) hby
    have hb2 : (x0 :: l).length ≤ 140737488355328 := Nat.le_trans (Nat.le_mul_of_pos_right _ (Nat.succ_pos _)) hby
    have hs2 : Shown L R (ρ y) (x0 :: l).length n2 ((x0 :: l).map f).flatten := by rw [hy]; exact hs
    have hall : (((x0 :: l).map f).flatten).all (·.oneCell') = true := by
      rw [List.all_eq_true]
      intro v hv
      obtain ⟨r, hr, hv⟩ := List.mem_flatten.1 hv
      obtain ⟨a, _, rfl⟩ := List.mem_map.1 hr
      exact List.all_eq_true.1 (h1 a) v hv
    have := gives_append (dst := dst) (ty := ty) (pos := pos) (after := after) (guard := guard) (s := .nil) (xs := []) (len := 0) (L := L) (f := fun Y => Y ++ L) tb hT hE hn2 hx ⟨rfl, rfl⟩ Seg.here hs2 (by simp) hall (by omega) (by rw [Nat.zero_add]; exact hb1)
    refine this c w hst a next Q ?_
    rintro v L' R' w' ⟨g, cap2, spare, rfl, hok', rfl, rfl⟩ hst'
    rw [List.nil_append, hf0, Nat.zero_add] at hok'
    refine kk _ _ _ w' ⟨.own g cap2 spare, ?_, hok', ?_, rfl⟩ hst'
    · rw [Nat.zero_add]; rfl
    · rw [List.nil_append, hf0]; rfl
end

theorem Off.leftu {ws : List Nat} {t0 t : Nat → Value} {d : Nat} {v : Value} (hd : memN d ws = true) (h : Off ws t0 t) : Off ws (Aw.upd t0 d v) t := fun k hk => by
  rw [h k hk]
  exact ((Off.upd hd (Off.refl (ws := ws) (t := t0))) k hk).symm
theorem gives_callv {P : Program} {ρ : Operand → Value} {L : List Blk} {R : List Sl} {dst : Option Tmp} {ty : TypeId} {pos : String} {after : Array Edge} {guard : Option (Nat × Bool)} {cal : Operand} {xs : List Operand} {ts : Array TypeId} {f : FuncId} {cap : Array Value} {args : List Value} {Post : VPost}
    (hc : ρ cal = .func (.func f) #[] cap) (ha : xs.map ρ ++ cap.toList = args) (h : Tri P f args.toArray L R Post) : Gives P ⟨dst, .call ⟨.value cal, xs.toArray, ts⟩, ty, pos, after, guard⟩ ρ L R Post := by
  intro x w hs a next Q k
  have ha' : #[] ++ xs.toArray.map ρ ++ cap = args.toArray := by rw [← ha]; simp
  have hrun : (execOp ρ ⟨dst, .call ⟨.value cal, xs.toArray, ts⟩, ty, pos, after, guard⟩).run P w = .ok (.enter f args.toArray) w := by
    have h1 := h.1 args.toArray w
    simp only [execOp, resolve, hc, Deferred.ofValue]
    simp only [Array.empty_append] at ha'
    simp only [invoke, Sem.run_bind, Sem.run_pure, Result.andThen_ok, Array.empty_append, ha']
    exact h1
  rw [hrun]
  obtain ⟨⟨G, hh, hg⟩, ho, hk⟩ := hs
  refine (h.2 w G hh).mono ?_
  rintro e w' ⟨v, L', R', rfl, hp, hst⟩
  exact k v L' R' w' hp (St.trans ⟨⟨G, hh, hg⟩, ho, hk⟩ hg hst)
theorem yv_func {P : Program} {ρ : Operand → Value} {L : List Blk} {R : List Sl} {dst : Option Tmp} {ty : TypeId} {pos : String} {after : Array Edge} {guard : Option (Nat × Bool)} {fn : Fn} {cs : List Operand} {vs : List Value} (hv : cs.map ρ = vs) :
    YV P ⟨dst, .makeFunc fn #[] cs.toArray, ty, pos, after, guard⟩ ρ L R (.func fn #[] vs.toArray) := fun _ w _ => by
  subst hv
  simp [execOp, Instr.makeFunc]

section
variable {P : Program} {n : Nat} {all : Array Oper} {op : Op} {ty : TypeId} {pos : String} {after : Array Edge} {rest : List Oper} {t : Nat → Value} {L : List Blk} {R : List Sl} {Q : TPost} {d : Tmp} {v : Value} {g : Option (Nat × Bool)}
theorem LJ_qg (hv : YV P ⟨some d, op, ty, pos, after, g⟩ (ev t) L R v) (hw : wantT all t g = true) (hd : Nat.blt d n = true) (h : LJ P n all rest (upd t d v) L R Q) : LJ P n all (⟨some d, op, ty, pos, after, g⟩ :: rest) t L R Q := LJ_quiet hv hw hd h
theorem LJ_gg {Post : VPost} (hg : Gives P ⟨some d, op, ty, pos, after, g⟩ (ev t) L R Post) (hw : wantT all t g = true) (hd : Nat.blt d n = true) (h : ∀ v L' R', Post v L' R' → LJ P n all rest (upd t d v) L' R' Q) : LJ P n all (⟨some d, op, ty, pos, after, g⟩ :: rest) t L R Q := LJ_gives hg hw hd h
theorem LJ_callg {f : FuncId} {xs : List Operand} {ts : Array TypeId} {args : List Value} {Post : VPost} (ha : xs.map (ev t) = args) (h : Tri P f args.toArray L R Post) (hw : wantT all t g = true) (hd : Nat.blt d n = true)
    (k : ∀ v L' R', Post v L' R' → LJ P n all rest (upd t d v) L' R' Q) : LJ P n all (⟨some d, .call ⟨.value (.func f), xs.toArray, ts⟩, ty, pos, after, g⟩ :: rest) t L R Q :=
  LJ_gg (gives_call (by rw [List.map_toArray, ha]) rfl h) hw hd k
theorem LJ_skg (hw : wantT all t g = false) (hd : Nat.blt d n = true) (h : LJ P n all rest (upd t d undef) L R Q) : LJ P n all (⟨some d, op, ty, pos, after, g⟩ :: rest) t L R Q := LJ_skip hw hd h
end
end Go.Aw

end
section
namespace Go.Proofs.Ytkpfjmibipblhaa
open Go.Aw Go
set_option maxRecDepth 20000
attribute [local irreducible] CJ LJ DJ Tri YV Gives seqK blockK loopK retK RV mergeK OwL.L

end Go.Proofs.Ytkpfjmibipblhaa

end
section
namespace Go.Proofs.Ytkpfjmibipblhaa
open Go.Aw Go


end Go.Proofs.Ytkpfjmibipblhaa

end
end
section
/-
  Nets: NetS, NetW, Find, LeastW, RefUp, Bal, NetP, in one text. By an AI agent; no person has read it.
-/
set_option linter.unusedSimpArgs false
set_option linter.unusedVariables false
section
namespace Go.Proofs.Ytkpfjmibipblhaa
open Go.Aw Go

section
variable {F G : (Int → XSpan) → Int → Int} {a : XAir} {s : XSetting} {ps : List Int} {v : Int}
end

end Go.Proofs.Ytkpfjmibipblhaa

end
section
namespace Go.Proofs.Ytkpfjmibipblhaa
open Go.Aw Go
set_option maxRecDepth 20000
attribute [local irreducible] CJ LJ DJ Tri YV Gives seqK blockK loopK retK RV mergeK OwL.L

section
variable {F G : (Int → XSpan) → Int → Int} {a : XAir} {s : XSetting} {ps : List Int} {v : Int}
end
end Go.Proofs.Ytkpfjmibipblhaa

end
section
namespace Go.Proofs.Ytkpfjmibipblhaa
open Go.Aw Go
set_option maxRecDepth 20000
attribute [local irreducible] CJ LJ DJ Tri YV Gives seqK blockK loopK retK RV mergeK OwL.L

abbrev sgn (up : Bool) : Int := if up then 1 else -1
abbrev room (up : Bool) (start : Int) : Int := if up then 70368744177664 - start else start + 70368744177664
end Go.Proofs.Ytkpfjmibipblhaa

end
section
namespace Go.Proofs.Ytkpfjmibipblhaa
open Go.Aw Go
set_option maxRecDepth 20000
attribute [local irreducible] CJ LJ DJ Tri YV Gives seqK blockK loopK retK RV mergeK OwL.L

end Go.Proofs.Ytkpfjmibipblhaa

end
section
namespace Go.Proofs.Ytkpfjmibipblhaa
open Go.Aw Go
set_option maxRecDepth 20000
attribute [local irreducible] CJ LJ DJ Tri YV Gives seqK blockK loopK retK RV mergeK OwL.L

end Go.Proofs.Ytkpfjmibipblhaa

end
section
namespace Go.Proofs.Ytkpfjmibipblhaa
open Go.Aw Go
set_option maxRecDepth 20000
attribute [local irreducible] CJ LJ DJ Tri YV Gives seqK blockK loopK retK RV mergeK OwL.L

section
variable {a : XAir} {s : XSetting} {ps : Arr Int} {v : Int}
end

end Go.Proofs.Ytkpfjmibipblhaa

end
section
namespace Go.Proofs.Ytkpfjmibipblhaa
open Go.Aw Go

end Go.Proofs.Ytkpfjmibipblhaa

end
end
section
/-
  The parts of a mine, in plain numbers: places are labelled by a search from place to place. By an AI agent; no person has read it.
-/
set_option linter.unusedSimpArgs false
set_option linter.unusedVariables false
namespace Go.Proofs.Ytkpfjmibipblhaa
open Go.Aw Go

end Go.Proofs.Ytkpfjmibipblhaa
end
section
/-
  plan.part. By an AI agent; no person has read it.
-/
set_option linter.unusedSimpArgs false
set_option linter.unusedVariables false
namespace Go.Proofs.Ytkpfjmibipblhaa
open Go.Aw Go
set_option maxRecDepth 20000
attribute [local irreducible] CJ LJ DJ Tri YV Gives seqK blockK loopK retK RV mergeK OwL.L

theorem CJ_R {P n code t L R R'} {Q : TPost} (h : R = R') (k : CJ P n code t L R' Q) : CJ P n code t L R Q := h ▸ k
end Go.Proofs.Ytkpfjmibipblhaa
end
section
/-
  plan.Valid, plan.CutOff, certify.Lost. By an AI agent; no person has read it.
-/
set_option linter.unusedSimpArgs false
set_option linter.unusedVariables false
namespace Go.Proofs.Ytkpfjmibipblhaa
open Go.Aw Go
set_option maxRecDepth 20000
attribute [local irreducible] CJ LJ DJ Tri YV Gives seqK blockK loopK retK RV mergeK OwL.L

end Go.Proofs.Ytkpfjmibipblhaa
end
section
/-
  The reference's search for connected places. By an AI agent; no person has read it.
-/
set_option linter.unusedSimpArgs false
set_option linter.unusedVariables false
namespace Go.Proofs.Ytkpfjmibipblhaa
open Go.Aw Go
set_option maxRecDepth 20000
attribute [local irreducible] CJ LJ DJ Tri YV Gives seqK blockK loopK retK RV mergeK OwL.L

end Go.Proofs.Ytkpfjmibipblhaa
end
section
/-
  certify.Lost, and the reference's fixed places. By an AI agent; no person has read it.
-/
set_option linter.unusedSimpArgs false
set_option linter.unusedVariables false
namespace Go.Proofs.Ytkpfjmibipblhaa
open Go.Aw Go
set_option maxRecDepth 20000
attribute [local irreducible] CJ LJ DJ Tri YV Gives seqK blockK loopK retK RV mergeK OwL.L

end Go.Proofs.Ytkpfjmibipblhaa
end
section
/-
  Bounds, what certify.Check answers, and the reference's check. By an AI agent; no person has read it.
-/
set_option linter.unusedSimpArgs false
set_option linter.unusedVariables false
namespace Go.Proofs.Ytkpfjmibipblhaa
open Go.Aw Go
set_option maxRecDepth 20000
attribute [local irreducible] CJ LJ DJ Tri YV Gives seqK blockK loopK retK RV mergeK OwL.L

end Go.Proofs.Ytkpfjmibipblhaa
end
section
/-
  certify.Check. By an AI agent; no person has read it.
-/
set_option linter.unusedSimpArgs false
set_option linter.unusedVariables false
namespace Go.Proofs.Ytkpfjmibipblhaa
open Go.Aw Go
set_option maxRecDepth 20000
attribute [local irreducible] CJ LJ DJ Tri YV Gives seqK blockK loopK retK RV mergeK OwL.L

end Go.Proofs.Ytkpfjmibipblhaa
end
section
/-
  What the flows are that bounds allow: the shared law of certify.Flows and ref11.Flows. By an AI agent; no person has read it.
-/
set_option linter.unusedSimpArgs false
set_option linter.unusedVariables false
namespace Go.Proofs.Ytkpfjmibipblhaa
open Go.Aw Go
set_option maxRecDepth 20000
attribute [local irreducible] CJ LJ DJ Tri YV Gives seqK blockK loopK retK RV mergeK OwL.L

def nothingS : XSpan := ⟨-1125899906842624, 1125899906842624⟩
end Go.Proofs.Ytkpfjmibipblhaa
end
section
/-
  ref11.Flows. By an AI agent; no person has read it.
-/
set_option linter.unusedSimpArgs false
set_option linter.unusedVariables false
namespace Go.Proofs.Ytkpfjmibipblhaa
open Go.Aw Go
set_option maxRecDepth 20000
attribute [local irreducible] CJ LJ DJ Tri YV Gives seqK blockK loopK retK RV mergeK OwL.L

end Go.Proofs.Ytkpfjmibipblhaa
end
section
/-
  Bounds that are accepted hold the state that fits: the law of comparison. By an AI agent; no person has read it.
-/
set_option linter.unusedSimpArgs false
set_option linter.unusedVariables false
namespace Go.Proofs.Ytkpfjmibipblhaa
open Go.Aw Go

end Go.Proofs.Ytkpfjmibipblhaa
end
section
/-
  Raising and lowering, in plain numbers: P12.1 and P12.2. By an AI agent; no person has read it.
-/
set_option linter.unusedSimpArgs false
set_option linter.unusedVariables false
namespace Go.Proofs.Ytkpfjmibipblhaa
open Go.Aw Go

def nextS (g : Int → Bool) (start : Int) (up : Bool) : Option Int :=
  ((List.range ((room up start).toNat + 1)).find? fun (m : Nat) => g (start + sgn up * (m : Int))).map fun (m : Nat) => start + sgn up * (m : Int)
attribute [irreducible] nextS

end Go.Proofs.Ytkpfjmibipblhaa
end
section
/-
  The reference's raising and lowering. By an AI agent; no person has read it.
-/
set_option linter.unusedSimpArgs false
set_option linter.unusedVariables false
namespace Go.Proofs.Ytkpfjmibipblhaa
open Go.Aw Go
set_option maxRecDepth 20000
attribute [local irreducible] CJ LJ DJ Tri YV Gives seqK blockK loopK retK RV mergeK OwL.L

end Go.Proofs.Ytkpfjmibipblhaa
end
section
/-
  The reference's bounds. By an AI agent; no person has read it.
-/
set_option linter.unusedSimpArgs false
set_option linter.unusedVariables false
namespace Go.Proofs.Ytkpfjmibipblhaa
open Go.Aw Go
set_option maxRecDepth 20000
attribute [local irreducible] CJ LJ DJ Tri YV Gives seqK blockK loopK retK RV mergeK OwL.L

end Go.Proofs.Ytkpfjmibipblhaa
end
section
/-
  The program's raising and lowering. By an AI agent; no person has read it.
-/
set_option linter.unusedSimpArgs false
set_option linter.unusedVariables false
namespace Go.Proofs.Ytkpfjmibipblhaa
open Go.Aw Go
set_option maxRecDepth 20000
attribute [local irreducible] CJ LJ DJ Tri YV Gives seqK blockK loopK retK RV mergeK OwL.L

end Go.Proofs.Ytkpfjmibipblhaa
end
section
/-
  The program's bounds. By an AI agent; no person has read it.
-/
set_option linter.unusedSimpArgs false
set_option linter.unusedVariables false
namespace Go.Proofs.Ytkpfjmibipblhaa
open Go.Aw Go
set_option maxRecDepth 20000
attribute [local irreducible] CJ LJ DJ Tri YV Gives seqK blockK loopK retK RV mergeK OwL.L

end Go.Proofs.Ytkpfjmibipblhaa
end
section
/-
  The state of certify.Flows' loop, in plain numbers. By an AI agent; no person has read it.
-/
set_option linter.unusedSimpArgs false
set_option linter.unusedVariables false
namespace Go.Proofs.Ytkpfjmibipblhaa
open Go.Aw Go

end Go.Proofs.Ytkpfjmibipblhaa
end
section
/-
  certify.Flows. By an AI agent; no person has read it.
-/
set_option linter.unusedSimpArgs false
set_option linter.unusedVariables false
namespace Go.Proofs.Ytkpfjmibipblhaa
open Go.Aw Go
set_option maxRecDepth 20000
attribute [local irreducible] CJ LJ DJ Tri YV Gives seqK blockK loopK retK RV mergeK OwL.L

end Go.Proofs.Ytkpfjmibipblhaa
end
section
/-
  What is known of the air: airflow.Analyse and the reference's; the direction of a span. By an AI agent; no person has read it.
-/
set_option linter.unusedSimpArgs false
set_option linter.unusedVariables false
namespace Go.Proofs.Ytkpfjmibipblhaa
open Go.Aw Go
set_option maxRecDepth 20000
attribute [local irreducible] CJ LJ DJ Tri YV Gives seqK blockK loopK retK RV mergeK OwL.L

def dirS (x : XSpan) : Int := if x.high < x.low then 0 else if 0 < x.low then 1 else if x.high < 0 then -1 else 0
theorem direction_tri (x : XSpan) (L : List Blk) (R : List Sl) :
    Tri Try.prog 128 [x.val].toArray L R (fun v L' R' => v = .int .i64 (dirS x) ∧ L = L' ∧ R = R') := by
  refine tri_enter 17 Try.call128 Try.func128 rfl rfl rfl ?_
  refine qae ?_
  refine qax ?_
  intro b1
  refine qad ?_
  refine LJ_nil (seqK_normal (CJ_seq (CJ_block (CJ_seq (CJ_region ?_)))))
  refine qab ?_
  refine qac ?_
  refine qab ?_
  refine qac ?_
  refine qa5 ?_
  refine qaz ?_
  refine qaf ?_
  refine q_c (fun hc0 => ?_) (fun hc0 => ?_)
  ·
   refine qae ?_
   refine qad ?_
   refine qdb ?_
   refine q_i (L' := L) (R' := R) ?_
   exact ⟨by rw [dirS, if_pos hc0], rfl, rfl⟩
  refine qae ?_
  refine qab ?_
  refine qac ?_
  refine qa5 ?_
  refine qaz ?_
  refine qaf ?_
  refine q_c (fun hc1 => ?_) (fun hc1 => ?_)
  ·
   refine qae ?_
   refine qad ?_
   refine qdb ?_
   refine q_i (L' := L) (R' := R) ?_
   exact ⟨by rw [dirS, if_neg (by omega), if_pos hc1], rfl, rfl⟩
  refine qae ?_
  refine qab ?_
  refine qac ?_
  refine qaj ?_
  refine qaz ?_
  refine qaf ?_
  refine q_c (fun hc2 => ?_) (fun hc2 => ?_)
  ·
   refine qae ?_
   refine qad ?_
   refine qdb ?_
   refine q_i (L' := L) (R' := R) ?_
   exact ⟨by rw [dirS, if_neg (by omega), if_neg (by omega), if_pos hc2], rfl, rfl⟩
  refine CJ_skip (blockK_normal (seqK_normal (CJ_seq (CJ_region ?_))))
  refine qad ?_
  refine qa0 ?_
  refine q_i (L' := L) (R' := R) ?_
  exact ⟨by rw [dirS, if_neg (by omega), if_neg (by omega), if_neg (by omega)], rfl, rfl⟩

end Go.Proofs.Ytkpfjmibipblhaa
end
section
/-
  ref01.Spans: two lists of spans are alike. By an AI agent; no person has read it.
-/
set_option linter.unusedSimpArgs false
set_option linter.unusedVariables false
namespace Go.Proofs.Ytkpfjmibipblhaa
open Go.Aw Go
set_option maxRecDepth 20000
attribute [local irreducible] CJ LJ DJ Tri YV Gives seqK blockK loopK retK RV mergeK OwL.L

abbrev spsl (x : Arr XSpan) : Sl := x.sl 2 XSpan.cells []
end Go.Proofs.Ytkpfjmibipblhaa
end
section
/-
  Faces and their air: airflow.Fed and the reference's. By an AI agent; no person has read it.
-/
set_option linter.unusedSimpArgs false
set_option linter.unusedVariables false
namespace Go.Proofs.Ytkpfjmibipblhaa
open Go.Aw Go
set_option maxRecDepth 20000
attribute [local irreducible] CJ LJ DJ Tri YV Gives seqK blockK loopK retK RV mergeK OwL.L

end Go.Proofs.Ytkpfjmibipblhaa
end
section
/-
  What measurements say later: sensor.Check, window.At, window.Meet. By an AI agent; no person has read it.
-/
set_option linter.unusedSimpArgs false
set_option linter.unusedVariables false
namespace Go.Proofs.Ytkpfjmibipblhaa
open Go.Aw Go
set_option maxRecDepth 20000
attribute [local irreducible] CJ LJ DJ Tri YV Gives seqK blockK loopK retK RV mergeK OwL.L

section
variable {A9 B9 : Prop}
theorem ya8aa (a : A9) (h : A9 → B9 := by exact LJ_q (by first | exact yv_pick_true rfl rfl | exact yv_pick_false rfl rfl | exact yv_pick rfl) rfl) : B9 := h a
theorem ya8ab (a : A9) (h : A9 → B9 := by exact LJ_qg (yv_load1 tb rfl rfl rfl (by repeat (first | exact zi0 | apply zi1 | apply zi2)) (by rfl)) rfl rfl) : B9 := h a
end
structure XSens where
  address : Int
  kind : Int
  target : Int
  offset : Int
  scale : Int
  error : Int
  drift : Int
  life : Int
  deriving Inhabited
def XSens.cells (s : XSens) : List Value := [.int .i64 s.address, .int .i64 s.kind, .int .i64 s.target, .int .i64 s.offset, .int .i64 s.scale, .int .i64 s.error, .int .i64 s.drift, .int .i64 s.life]
abbrev XSens.val (s : XSens) : Value := .agg #[.int .i64 s.address, .int .i64 s.kind, .int .i64 s.target, .int .i64 s.offset, .int .i64 s.scale, .int .i64 s.error, .int .i64 s.drift, .int .i64 s.life]
structure XMeas where
  sensor : Int
  time : Int
  span : XSpan
  deriving Inhabited
abbrev sesl (x : Arr XSens) : Sl := x.sl 8 XSens.cells []
theorem sensIn_tri (lo hi : Int) (x : Arr Int) (L : List Blk) (R : List Sl) (hx : InR (isl x) R) (hn : x.l.length ≤ 100) :
    Tri Try.prog 125 [.int .i64 lo, .int .i64 hi, x.val].toArray L R (fun v L' R' => v = .bool (decide (∀ n ∈ x.l, lo ≤ n ∧ n ≤ hi)) ∧ L = L' ∧ R = R') := by
  refine tri_enter 24 Try.call125 Try.func125 rfl rfl rfl ?_
  refine qae ?_
  refine qaz ?_
  refine qaw ?_
  refine qbm ?_
  refine qag ?_
  refine qaa ?_
  refine qa2 ?_
  refine CJ_forget [(0, Value.int _ _), (1, Value.int _ _), (9, Value.slice _ _ _), (10, Value.int _ _), (11, Value.int _ _)] (by repeat' (first | exact trivial | refine And.intro rfl ?_)) fun tq0 => ?_
  refine q_s [6, 8, 11, 12, 13, 14, 15, 16, 17, 18, 19, 20, 21, 22, 23] (fun g : {k : Nat // k ≤ x.l.length ∧ ∀ n ∈ x.l.take k, lo ≤ n ∧ n ≤ hi} => [(11, .int .i64 ((g.1 : Nat) : Int))]) (fun g => x.l.length - g.1) (⟨0, by omega, by simp⟩) ?_
  rintro ⟨k, hk, hal⟩ junk
  try dsimp only
  refine qae ?_
  refine qaj ?_
  refine qa4 ?_
  refine q_c (fun hc0 => ?_) (fun hc0 => ?_)
  ·
   have h1 := get_D (l := x.l) (k := k) 0 (by omega)
   refine qbb ?_
   refine LJ_q (by first | exact yv_index_ro tb rfl rfl rfl rfl (by first | assumption | exact zr (by simp)) (i := k) (by first | rfl | omega | (simp; omega)) (by omega) | exact yv_index tb rfl rfl rfl rfl (i := k) (by first | rfl | omega | (simp; omega)) (by omega)) rfl ?_
   refine qa7 ?_
   refine qad ?_
   refine qam ?_
   refine qaa ?_
   refine qaa ?_
   refine qaj ?_
   refine qah ?_
   apply LJ_or (G := [_, _, _]) (j := 3) (cj := 18) rfl rfl (by rfl) rfl (show _ = Value.bool _ from rfl) rfl
   ·
    intro hg4
    replace hg4 := qb hg4
    refine qaa ?_
    refine qaa ?_
    refine qa5 ?_
    exact qai
   intro junk4
   refine qaf ?_
   refine q_c (fun hc1 => ?_) (fun hc1 => ?_)
   ·
    refine qae ?_
    refine qaz ?_
    refine qbt ?_
    refine q_b (L' := L) (R' := R) ?_
    exact ⟨by rw [decide_eq_false (fun h => by have := h _ (List.mem_of_getElem? h1); omega)], rfl, rfl⟩
   refine qbj ?_
   refine qar ?_
   refine qaa ?_
   refine qav ?_
   exact loopK_mk (⟨k + 1, by omega, fun n hn => by
   rw [List.take_add_one, h1] at hn
   simp only [Option.toList_some, List.mem_append, List.mem_singleton] at hn
   rcases hn with h | h
   · exact hal n h
   · omega⟩) (by repeat (first | exact Off.refl | apply Off.upd rfl | apply Off.havoc rfl | apply Off.updL rfl | apply Off.left rfl)) (by repeat' (first | exact trivial | refine And.intro rfl ?_)) (by repeat (first | exact zs0 _ | exact zs1 _ | apply zs2 | apply zs3 | apply zs4 | apply zs5)) (allR_self _) (by dsimp only; omega)
  refine qbk ?_
  refine qaz ?_
  refine qa0 ?_
  refine q_b (L' := L) (R' := R) ?_
  exact ⟨by rw [decide_eq_true (fun n hn => by rw [List.take_of_length_le (by omega)] at hal; exact hal n hn)], rfl, rfl⟩

def SensOk (s : XSens) : Prop := (0 ≤ s.address ∧ s.address ≤ 255) ∧ 0 ≤ s.target ∧ (-1000000 ≤ s.offset ∧ s.offset ≤ 1000000) ∧ (-1000000 ≤ s.scale ∧ s.scale ≤ 1000000) ∧ (0 ≤ s.error ∧ s.error ≤ 1000000) ∧ (0 ≤ s.drift ∧ s.drift ≤ 1000000) ∧ (1 ≤ s.life ∧ s.life ≤ 1000000)
instance (s : XSens) : Decidable (SensOk s) := by unfold SensOk; infer_instance
def sensErr (s : XSens) : Int := if ¬ (1 ≤ s.kind ∧ s.kind ≤ 6) then 5 else if SensOk s then 0 else 1
theorem sensCheck_tri (s : XSens) (L : List Blk) (R : List Sl) :
    Tri Try.prog 93 [s.val].toArray L R (fun v L' R' => v = .int .i64 (sensErr s) ∧ L = L' ∧ R = R') := by
  refine tri_enter 44 Try.call93 Try.func93 rfl rfl rfl ?_
  refine qae ?_
  refine qax ?_
  intro b1
  refine qad ?_
  refine LJ_nil (seqK_normal (CJ_seq (CJ_block (CJ_seq (CJ_region ?_)))))
  refine qab ?_
  refine qac ?_
  refine qcx ?_
  rintro v L' R' ⟨b6, rfl, rfl, hR6⟩
  replace hR6 := hR6.symm; subst hR6
  refine LJ_frz (wd := 1) (len := 1) (cap := 1) (rows := [icell s.kind]) (subs := []) rfl (by decide) (by decide) (fun r hr => by rw [List.mem_singleton.1 hr]; rfl) (by decide) rfl (fun s hs => by cases hs) ?_
  refine q_l rfl (sensIn_tri 1 6 ⟨some ⟨b6, 0, none⟩, 1, [s.kind]⟩ _ _ (inR_self (.head _)) (by simp)) ?_
  refine qb4 ?_
  refine qaz ?_
  refine qaf ?_
  refine q_c (fun hc0 => ?_) (fun hc0 => ?_)
  ·
   refine qae ?_
   refine qad ?_
   refine qdb ?_
   refine retK_ret (L' := L) (R' := R) (res1 rfl (rv_tmp (show _ = Value.int _ _ from rfl))) ?hp ?hL ?hR
   case hp => exact ⟨by simp at hc0; rw [sensErr, if_pos (by omega)], rfl, rfl⟩
   case hL => exact (by repeat (first | exact zs0 _ | exact zs1 _ | apply zs2 | apply zs3 | apply zs4 | apply zs5))
   case hR => exact fun r h => inR_self (by simp [h])
  refine qae ?_
  refine qab ?_
  refine qac ?_
  refine qcx ?_
  rintro v L' R' ⟨b12, rfl, rfl, hR12⟩
  replace hR12 := hR12.symm; subst hR12
  refine LJ_frz (wd := 1) (len := 1) (cap := 1) (rows := [icell s.address]) (subs := []) rfl (by decide) (by decide) (fun r hr => by rw [List.mem_singleton.1 hr]; rfl) (by decide) rfl (fun s hs => by cases hs) ?_
  refine q_l rfl (sensIn_tri 0 255 ⟨some ⟨b12, 0, none⟩, 1, [s.address]⟩ _ _ (inR_self (.head _)) (by simp)) ?_
  refine qb4 ?_
  refine qah ?_
  refine LJ_case (k := 15) (show _ = Value.bool _ from rfl) (fun hg6 => ?_) (fun hg6 => ?_)
  ·
   replace hg6 := qb hg6
   iterate 3 refine LJ_skg rfl rfl ?_
   refine ya8aa ?_
   refine qah ?_
   ·
    skip
    iterate 7 refine LJ_skg rfl rfl ?_
    refine ya8aa ?_
    refine qaz ?_
    refine qaf ?_
    refine CJ_cond_true rfl ?_
    refine qae ?_
    refine qad ?_
    refine qdb ?_
    refine retK_ret (L' := L) (R' := R) (res1 rfl (rv_tmp (show _ = Value.int _ _ from rfl))) ?hp ?hL ?hR
    case hp => exact ⟨by rw [sensErr, if_neg (by simp at hc0; omega), if_neg (by first | (simp at hc1; rw [SensOk]; omega) | (simp at hg6; rw [SensOk]; omega))], rfl, rfl⟩
    case hL => exact (by repeat (first | exact zs0 _ | exact zs1 _ | apply zs2 | apply zs3 | apply zs4 | apply zs5))
    case hR => exact fun r h => inR_self (by simp [h])
  replace hg6 := qb hg6
  refine LJ_qg (yv_field tb rfl rfl rfl) rfl rfl ?_
  refine ya8ab ?_
  refine LJ_qg (yv_lss rfl rfl) rfl rfl ?_
  refine ya8aa ?_
  refine qah ?_
  refine LJ_case (k := 20) (show _ = Value.bool _ from rfl) (fun hg11 => ?_) (fun hg11 => ?_)
  ·
   replace hg11 := qb hg11
   iterate 7 refine LJ_skg rfl rfl ?_
   refine ya8aa ?_
   refine qaz ?_
   refine qaf ?_
   refine CJ_cond_true rfl ?_
   refine qae ?_
   refine qad ?_
   refine qdb ?_
   refine retK_ret (L' := L) (R' := R) (res1 rfl (rv_tmp (show _ = Value.int _ _ from rfl))) ?hp ?hL ?hR
   case hp => exact ⟨by rw [sensErr, if_neg (by simp at hc0; omega), if_neg (by first | (simp at hc1; rw [SensOk]; omega) | (simp at hg6; rw [SensOk]; omega))], rfl, rfl⟩
   case hL => exact (by repeat (first | exact zs0 _ | exact zs1 _ | apply zs2 | apply zs3 | apply zs4 | apply zs5))
   case hR => exact fun r h => inR_self (by simp [h])
  replace hg11 := qb hg11
  refine LJ_qg (yv_field tb rfl rfl rfl) rfl rfl ?_
  refine ya8ab ?_
  refine LJ_qg (yv_field tb rfl rfl rfl) rfl rfl ?_
  refine ya8ab ?_
  refine LJ_gg (gives_buildSlice (qs := [(0, (Value.int _ _).cells.toList), (1, (Value.int _ _).cells.toList)]) (out := [_, _]) tb rfl rfl rfl rfl rfl rfl rfl) rfl rfl ?_
  rintro v L' R' ⟨b25, rfl, rfl, hR25⟩
  replace hR25 := hR25.symm; subst hR25
  refine LJ_frz (wd := 1) (len := 2) (cap := 2) (rows := [icell s.offset, icell s.scale]) (subs := []) rfl (by decide) (by decide) (fun r hr => by simp only [List.mem_cons, List.not_mem_nil, or_false] at hr; rcases hr with rfl | rfl <;> rfl) (by decide) rfl (fun s hs => by cases hs) ?_
  refine LJ_callg rfl (sensIn_tri (-1000000) 1000000 ⟨some ⟨b25, 0, none⟩, 2, [s.offset, s.scale]⟩ _ _ (inR_self (.head _)) (by simp)) rfl rfl ?_
  rintro v L' R' ⟨rfl, rfl, rfl⟩
  refine LJ_qg (yv_not rfl) rfl rfl ?_
  refine ya8aa ?_
  refine qaz ?_
  refine qaf ?_
  refine q_c (fun hc1 => ?_) (fun hc1 => ?_)
  ·
   refine qae ?_
   refine qad ?_
   refine qdb ?_
   refine retK_ret (L' := L) (R' := R) (res1 rfl (rv_tmp (show _ = Value.int _ _ from rfl))) ?hp ?hL ?hR
   case hp => exact ⟨by rw [sensErr, if_neg (by simp at hc0; omega), if_neg (by first | (simp at hc1; rw [SensOk]; omega) | (simp at hg6; rw [SensOk]; omega))], rfl, rfl⟩
   case hL => exact (by repeat (first | exact zs0 _ | exact zs1 _ | apply zs2 | apply zs3 | apply zs4 | apply zs5))
   case hR => exact fun r h => inR_self (by simp [h])
  refine qae ?_
  refine qab ?_
  refine qac ?_
  refine qab ?_
  refine qac ?_
  refine LJ_g (gives_buildSlice (qs := [(0, (Value.int _ _).cells.toList), (1, (Value.int _ _).cells.toList)]) (out := [_, _]) tb rfl rfl rfl rfl rfl rfl rfl) rfl ?_
  rintro v L' R' ⟨b34, rfl, rfl, hR34⟩
  replace hR34 := hR34.symm; subst hR34
  refine LJ_frz (wd := 1) (len := 2) (cap := 2) (rows := [icell s.error, icell s.drift]) (subs := []) rfl (by decide) (by decide) (fun r hr => by simp only [List.mem_cons, List.not_mem_nil, or_false] at hr; rcases hr with rfl | rfl <;> rfl) (by decide) rfl (fun s hs => by cases hs) ?_
  refine q_l rfl (sensIn_tri 0 1000000 ⟨some ⟨b34, 0, none⟩, 2, [s.error, s.drift]⟩ _ _ (inR_self (.head _)) (by simp)) ?_
  refine qb4 ?_
  refine qah ?_
  refine LJ_case (k := 37) (show _ = Value.bool _ from rfl) (fun hg8 => ?_) (fun hg8 => ?_)
  ·
   replace hg8 := qb hg8
   iterate 5 refine LJ_skg rfl rfl ?_
   refine ya8aa ?_
   refine qaz ?_
   refine qaf ?_
   refine CJ_cond_true rfl ?_
   refine qae ?_
   refine qad ?_
   refine qdb ?_
   refine retK_ret (L' := L) (R' := R) (res1 rfl (rv_tmp (show _ = Value.int _ _ from rfl))) ?hp ?hL ?hR
   case hp => exact ⟨by rw [sensErr, if_neg (by simp at hc0; omega), if_neg (by first | (simp at hc2; rw [SensOk]; omega) | (simp at hg8; rw [SensOk]; omega))], rfl, rfl⟩
   case hL => exact (by repeat (first | exact zs0 _ | exact zs1 _ | apply zs2 | apply zs3 | apply zs4 | apply zs5))
   case hR => exact fun r h => inR_self (by simp [h])
  replace hg8 := qb hg8
  refine LJ_qg (yv_field tb rfl rfl rfl) rfl rfl ?_
  refine ya8ab ?_
  refine LJ_gg (gives_buildSlice (qs := [(0, (Value.int _ _).cells.toList)]) (out := [_]) tb rfl rfl rfl rfl rfl rfl rfl) rfl rfl ?_
  rintro v L' R' ⟨b40, rfl, rfl, hR40⟩
  replace hR40 := hR40.symm; subst hR40
  refine LJ_frz (wd := 1) (len := 1) (cap := 1) (rows := [icell s.life]) (subs := []) rfl (by decide) (by decide) (fun r hr => by rw [List.mem_singleton.1 hr]; rfl) (by decide) rfl (fun s hs => by cases hs) ?_
  refine LJ_callg rfl (sensIn_tri 1 1000000 ⟨some ⟨b40, 0, none⟩, 1, [s.life]⟩ _ _ (inR_self (.head _)) (by simp)) rfl rfl ?_
  rintro v L' R' ⟨rfl, rfl, rfl⟩
  refine LJ_qg (yv_not rfl) rfl rfl ?_
  refine ya8aa ?_
  refine qaz ?_
  refine qaf ?_
  refine q_c (fun hc2 => ?_) (fun hc2 => ?_)
  ·
   refine qae ?_
   refine qad ?_
   refine qdb ?_
   refine retK_ret (L' := L) (R' := R) (res1 rfl (rv_tmp (show _ = Value.int _ _ from rfl))) ?hp ?hL ?hR
   case hp => exact ⟨by rw [sensErr, if_neg (by simp at hc0; omega), if_neg (by first | (simp at hc2; rw [SensOk]; omega) | (simp at hg8; rw [SensOk]; omega))], rfl, rfl⟩
   case hL => exact (by repeat (first | exact zs0 _ | exact zs1 _ | apply zs2 | apply zs3 | apply zs4 | apply zs5))
   case hR => exact fun r h => inR_self (by simp [h])
  refine CJ_skip (blockK_normal (seqK_normal (CJ_seq (CJ_region ?_))))
  refine qad ?_
  refine qa0 ?_
  refine retK_ret (L' := L) (R' := R) (res1 rfl (rv_tmp (show _ = Value.int _ _ from rfl))) ?hp ?hL ?hR
  case hp => exact ⟨by simp at hc0 hg6 hc1 hg8 hc2; rw [sensErr, if_neg (by omega), if_pos (by rw [SensOk]; omega)], rfl, rfl⟩
  case hL => exact (by repeat (first | exact zs0 _ | exact zs1 _ | apply zs2 | apply zs3 | apply zs4 | apply zs5))
  case hR => exact fun r h => inR_self (by simp [h])

def goneS (s : XSens) (m : XMeas) (t : Int) : Prop := sensErr s ≠ 0 ∨ m.sensor < 0 ∨ m.span = nothingS ∨ t < m.time ∨ s.life < t - m.time
instance (s : XSens) (m : XMeas) (t : Int) : Decidable (goneS s m t) := by unfold goneS; infer_instance
end Go.Proofs.Ytkpfjmibipblhaa
end
section
/-
  Statements about chapter 10: what they share. By an AI agent; no person has read it.
-/
set_option linter.unusedSimpArgs false
set_option linter.unusedVariables false
namespace Go.Proofs.Ytkpfjmibipblhaa
open Go.Aw Go
set_option maxRecDepth 20000
attribute [local irreducible] CJ LJ DJ Tri YV Gives seqK blockK loopK retK RV mergeK OwL.L

end Go.Proofs.Ytkpfjmibipblhaa
end
section
/-
  Statements about chapter 11: what they share. By an AI agent; no person has read it.
-/
set_option linter.unusedSimpArgs false
set_option linter.unusedVariables false
namespace Go.Proofs.Ytkpfjmibipblhaa
open Go.Aw Go
set_option maxRecDepth 20000
attribute [local irreducible] CJ LJ DJ Tri YV Gives seqK blockK loopK retK RV mergeK OwL.L

end Go.Proofs.Ytkpfjmibipblhaa
end
section
/-
  Statements about chapter 11: errors; bounds as arguments. By an AI agent; no person has read it.
-/
set_option linter.unusedSimpArgs false
set_option linter.unusedVariables false
namespace Go.Proofs.Ytkpfjmibipblhaa
open Go.Aw Go
set_option maxRecDepth 20000
attribute [local irreducible] CJ LJ DJ Tri YV Gives seqK blockK loopK retK RV mergeK OwL.L

end Go.Proofs.Ytkpfjmibipblhaa
end
section
/-
  Flows and measurements: airflow.Narrow, airflow.Tighten. By an AI agent; no person has read it.
-/
set_option linter.unusedSimpArgs false
set_option linter.unusedVariables false
namespace Go.Proofs.Ytkpfjmibipblhaa
open Go.Aw Go
set_option maxRecDepth 20000
attribute [local irreducible] CJ LJ DJ Tri YV Gives seqK blockK loopK retK RV mergeK OwL.L

def narFor (n : Nat) (kind : Int) (l : List XSens) (x : XMeas) : Prop := (0 ≤ x.sensor ∧ x.sensor < l.length) ∧ (l.getD x.sensor.toNat default).kind = kind ∧ 0 ≤ (l.getD x.sensor.toNat default).target ∧ (l.getD x.sensor.toNat default).target < n
instance (n : Nat) (kind : Int) (l : List XSens) (x : XMeas) : Decidable (narFor n kind l x) := by unfold narFor; infer_instance
end Go.Proofs.Ytkpfjmibipblhaa
end
