/-
  Assertion-level walks: regions that draw their order, as a tree: where several operations may come up, each is walked. By an AI agent; no person has read it.
-/
import Derived.Test.YtimnnhdeicpenaaAwMore
set_option linter.unusedSimpArgs false
set_option linter.unusedVariables false
namespace Go.Aw
open Go

def WZ (P : Program) (n : Nat) (ops : Array Oper) (Lc Lc2 : List Blk) (Q : TPost) (p2 : List Nat) (m : Nat) (done : Array Bool) (t : Nat → Value) (L : List Blk) (R : List Sl) : Prop :=
  ∀ c a w, Closed ops done → done.size = ops.size → (∀ k ∈ p2, done.getD k true = false) → Fr n t a → St c L R w → Lc.Sublist L → ∀ fuel, m + p2.length ≤ fuel → wpZ P ops (liftK n c Q) (St c Lc R) (St c Lc2 R) p2 fuel done a w

def stepOk (ops : Array Oper) (p1 : List Nat) (done : Array Bool) (i : Nat) : Bool := p1.contains i && ((Region.ready .any ops done).contains i && Region.free .any ops done i)
def branchOk (ops : Array Oper) (p1 : List Nat) (done : Array Bool) (l : List Nat) : Bool := !l.isEmpty && ((Region.ready .any ops done == l) && l.all fun j => p1.contains j)
def endOk (ops : Array Oper) (done : Array Bool) (p2 : List Nat) : Bool := planOk ops done p2 && (List.range ops.size).all fun i => done.getD i true || p2.contains i
def treeOk {P : Program} (tb : Tabs P) (n : Nat) (ops : Array Oper) (late p1 p2 : List Nat) : Bool := Region.noSelect ops && (allocsOk tb n ops && zOk late ops p1 p2)

section
variable {P : Program} {tb : Tabs P} {n m : Nat} {ops : Array Oper} {late p1 p2 : List Nat} {Lc Lc2 : List Blk} {Q : TPost} {done : Array Bool} {t : Nat → Value} {L : List Blk} {R : List Sl}

/-- an operation that leaves the world alone, taken as soon as it may come up -/
theorem WZ_quiet {i : Nat} {o : Oper} {v : Value} (hT : treeOk tb n ops late p1 p2 = true) (hL2 : Lc2.Sublist Lc) (hok : stepOk ops p1 done i = true) (hio : ops[i]? = some o) (hk : okind o.op = 0) (hw : wantT ops t o.guard = true) (hd : dOk n o.dst = true)
    (hv : YV P o (ev t) (lcOf late Lc Lc2 o.dst) R v) (h : WZ P n ops Lc Lc2 Q p2 m (done.setIfInBounds i true) (updo t o.dst v) L R) : WZ P n ops Lc Lc2 Q p2 (m + 1) done t L R := by
  intro c a w hcl hds hInv hfr hst hLc fuel hfu
  simp only [treeOk, Bool.and_eq_true] at hT
  simp only [stepOk, Bool.and_eq_true] at hok
  obtain ⟨hsel, _, hz⟩ := hT
  obtain ⟨hi1, hr, hfree⟩ := hok
  have hi1 : i ∈ p1 := by simpa using hi1
  have hr : i ∈ Region.ready .any ops done := by simpa using hr
  obtain ⟨f, rfl⟩ : ∃ f, fuel = f + 1 := ⟨fuel - 1, by omega⟩
  have hka : kindAt ops i = 0 := by simp [kindAt, hio, hk]
  have hS : St c Lc R w := hst.weak hLc (fun r hr => ⟨r, hr, .here⟩)
  have hlc := lcOf_eq (late := late) (Lc := Lc) (Lc2 := Lc2) hio
  have hSif : ∀ w', (if lateAt late ops i = true then St c Lc2 R else St c Lc R) w' → St c (lcOf late Lc Lc2 o.dst) R w' := by
    intro w' hw'
    rw [hlc]
    split at hw'
    · rename_i h; rw [if_pos h]; exact hw'
    · rename_i h; rw [if_neg h]; exact hw'
  have hexec : execOp a.eval o = execOp (ev t) o := by rw [hfr.eval]
  refine wpZ_take (late := late) hz hi1 hka hio (Region.noSelect_spec hsel) (fun _ _ _ h => h.1.elim) f done a w hcl hds hInv (fun j oj hj hne hl hno => Region.free_spec hio hfree j oj hj hne hl hno) hr
    (v := v) (.inl ⟨by rw [hfr.wanted]; exact hw, fun w' hw' => by rw [hexec]; exact hv c w' (hSif w' hw')⟩) hS (fun w hw => hw.weak hL2 (fun r hr => ⟨r, hr, .here⟩)) ?_
  refine h c _ w (hcl.set hr) (by simp [hds]) (fun k hk2 => ?_) (hfr.put hd v) hst hLc f (by omega)
  have hne : i ≠ k := fun e => zOk_dis hz hk2 (e ▸ hi1)
  rw [getD_set_ne true hne]
  exact hInv k hk2

/-- a step that may turn the world -/
def WStep (P : Program) (n : Nat) (ops : Array Oper) (Lc Lc2 : List Blk) (Q : TPost) (p2 : List Nat) (m : Nat) (done : Array Bool) (t : Nat → Value) (L : List Blk) (R : List Sl) (j : Nat) : Prop :=
  ∃ o, ops[j]? = some o ∧ wantT ops t o.guard = true ∧ dOk n o.dst = true ∧ ∃ Post, Gives P o (ev t) L R Post ∧ ∀ v L' R', Post v L' R' → Lc.Sublist L' ∧ (∀ r ∈ R, InR r R') ∧ WZ P n ops Lc Lc2 Q p2 m (done.setIfInBounds j true) (updo t o.dst v) L' R'
def WSteps (P : Program) (n : Nat) (ops : Array Oper) (Lc Lc2 : List Blk) (Q : TPost) (p2 : List Nat) (m : Nat) (done : Array Bool) (t : Nat → Value) (L : List Blk) (R : List Sl) : List Nat → Prop
  | [] => True
  | j :: l => WStep P n ops Lc Lc2 Q p2 m done t L R j ∧ WSteps P n ops Lc Lc2 Q p2 m done t L R l
theorem WSteps.mem {l : List Nat} (h : WSteps P n ops Lc Lc2 Q p2 m done t L R l) {j : Nat} (hj : j ∈ l) : WStep P n ops Lc Lc2 Q p2 m done t L R j := by
  induction l with
  | nil => cases hj
  | cons x l ih =>
    rcases List.mem_cons.1 hj with rfl | hj
    · exact h.1
    · exact ih h.2 hj

theorem WZ_branch (l : List Nat) (hT : treeOk tb n ops late p1 p2 = true) (hL2 : Lc2.Sublist Lc) (hok : branchOk ops p1 done l = true) (h : WSteps P n ops Lc Lc2 Q p2 m done t L R l) : WZ P n ops Lc Lc2 Q p2 (m + 1) done t L R := by
  intro c a w hcl hds hInv hfr hst hLc fuel hfu
  simp only [treeOk, Bool.and_eq_true] at hT
  simp only [branchOk, Bool.and_eq_true] at hok
  obtain ⟨hsel, _, hz⟩ := hT
  obtain ⟨hne, hre, hall⟩ := hok
  have hre : Region.ready .any ops done = l := by simpa using hre
  obtain ⟨f, rfl⟩ : ∃ f, fuel = f + 1 := ⟨fuel - 1, by omega⟩
  refine wpZ_all (by rw [hre]; intro e; rw [e] at hne; cases hne) fun j hj => ?_
  have hj' : j ∈ l := by rw [← hre]; exact hj
  obtain ⟨o, hio, hw, hd, Post, hg, hnext⟩ := h.mem hj'
  have hj1 : j ∈ p1 := by simpa using List.all_eq_true.1 hall j hj'
  unfold wpOp
  simp only [hio]
  rw [hfr.wanted, hw, if_pos rfl]
  refine .inl ?_
  unfold Oper.wp
  rw [hfr.eval]
  refine hg c w hst a _ _ ?_
  intro v L' R' w' hp hst'
  obtain ⟨hLc', hR', hW⟩ := hnext v L' R' hp
  refine ⟨⟨(hst'.weak hLc' hR').weak hL2 (fun r hr => ⟨r, hr, .here⟩), .inr (hst'.weak hLc' hR')⟩, ?_⟩
  refine wpZ_mono (S' := St c Lc R') (S2' := St c Lc2 R') (fun x hx => hx.weak (List.Sublist.refl _) hR') (fun x hx => hx.weak (List.Sublist.refl _) hR') _ _ _ _ ?_
  refine hW c _ w' (hcl.set hj) (by simp [hds]) (fun k hk2 => ?_) (hfr.put hd v) hst' hLc' f (by omega)
  have hne : j ≠ k := fun e => zOk_dis hz hk2 (e ▸ hj1)
  rw [getD_set_ne true hne]
  exact hInv k hk2

theorem WZ_end (os : List Oper) (hT : treeOk tb n ops late p1 p2 = true) (hL2 : Lc2.Sublist Lc) (hok : endOk ops done p2 = true) (hos : p2.map (ops[·]?) = os.map some) (h : DJ P tb n ops Lc2 Q os t L R) : WZ P n ops Lc Lc2 Q p2 m done t L R := by
  intro c a w hcl hds hInv hfr hst hLc fuel hfu
  simp only [treeOk, Bool.and_eq_true] at hT
  simp only [endOk, Bool.and_eq_true] at hok
  obtain ⟨hsel, hal, hz⟩ := hT
  obtain ⟨hpl, hcov⟩ := hok
  refine dj_end2 (tb := tb) hsel hal hos hpl ⟨rfl, fun i d => ?_, (fun e he => by cases he), (fun e he => by cases he), List.nodup_nil, List.nodup_nil⟩ hds (by omega) (fun i hi hd => ?_) hfr hst (hL2.trans hLc) h
  · simp
  · have := List.all_eq_true.1 hcov i (List.mem_range.2 hi)
    rw [hd] at this
    simpa using this
end

theorem WZ_endL {P : Program} {tb : Tabs P} {n m : Nat} {opl : List Oper} {late p1 p2 : List Nat} {Lc Lc2 : List Blk} {Q : TPost} {done : Array Bool} {t : Nat → Value} {L : List Blk} {R : List Sl} (hT : treeOk tb n opl.toArray late p1 p2 = true) (hL2 : Lc2.Sublist Lc) (hok : endOk opl.toArray done p2 = true) (hp2 : p2.all (fun k => Nat.blt k opl.length) = true)
    (h : DJ P tb n opl.toArray Lc2 Q (pickOps opl p2) t L R) : WZ P n opl.toArray Lc Lc2 Q p2 m done t L R :=
  WZ_end (pickOps opl p2) hT hL2 hok (pick_map opl p2 fun i hi => by simpa using List.all_eq_true.1 hp2 i hi) h

theorem CJ_tree {P : Program} (tb : Tabs P) {n id : Nat} {ops : List Oper} {t : Nat → Value} {L : List Blk} {R : List Sl} {Q : TPost} (late p1 p2 : List Nat) (Lc Lc2 : List Blk) (m : Nat) (hm : P.follows .mixedOrders = true) (hT : treeOk tb n ops.toArray late p1 p2 = true) (hmm : Nat.ble (m + p2.length) ops.length = true)
    (hp2 : p2.all (fun k => Nat.blt k ops.length) = true) (hLc : Lc.Sublist L) (h : treeOk tb n ops.toArray late p1 p2 = true → WZ P n ops.toArray Lc Lc2 Q p2 m (Array.replicate ops.length false) t L R) : CJ P n (.region id ops.toArray true) t L R Q := by
  intro c a w hf hs
  refine wp_region_any hm (wpAny_of_wpZ (S := St c Lc R) (S2 := St c Lc2 R) (p2 := p2) _ _ _ _ ?_)
  have e : ops.toArray.size = ops.length := by simp
  have hcl := Closed.zero (ops := ops.toArray)
  rw [e] at hcl
  refine h hT c a _ hcl (by simp) (fun k hk => ?_) hf (St.drew hs) hLc _ ?_
  · have := List.all_eq_true.1 hp2 k hk
    simp at this
    simp [this]
  · have := Nat.le_of_ble_eq_true hmm
    simpa using this

section
variable {P : Program} {tb : Tabs P} {n m : Nat} {ops : Array Oper} {late p1 p2 : List Nat} {Lc Lc2 : List Blk} {Q : TPost} {done : Array Bool} {t : Nat → Value} {L : List Blk} {R : List Sl} {op : Op} {ty : TypeId} {pos : String} {after : Array Edge} {d : Tmp} {v : Value} {g : Option (Nat × Bool)}
theorem WZ_q (i : Nat) (hT : treeOk tb n ops late p1 p2 = true) (hL2 : Lc2.Sublist Lc) (hok : stepOk ops p1 done i = true) (hio : ops[i]? = some ⟨some d, op, ty, pos, after, g⟩) (hk : okind op = 0) (hw : wantT ops t g = true) (hd : Nat.blt d n = true) (hl : late.contains d = false)
    (hv : YV P ⟨some d, op, ty, pos, after, g⟩ (ev t) Lc R v) (h : WZ P n ops Lc Lc2 Q p2 m (done.setIfInBounds i true) (upd t d v) L R) : WZ P n ops Lc Lc2 Q p2 (m + 1) done t L R :=
  WZ_quiet hT hL2 hok hio hk hw hd (by simp only [lcOf, hl, cond_false]; exact hv) h
theorem WZ_ql (i : Nat) (hT : treeOk tb n ops late p1 p2 = true) (hL2 : Lc2.Sublist Lc) (hok : stepOk ops p1 done i = true) (hio : ops[i]? = some ⟨some d, op, ty, pos, after, g⟩) (hk : okind op = 0) (hw : wantT ops t g = true) (hd : Nat.blt d n = true) (hl : late.contains d = true)
    (hv : YV P ⟨some d, op, ty, pos, after, g⟩ (ev t) Lc2 R v) (h : WZ P n ops Lc Lc2 Q p2 m (done.setIfInBounds i true) (upd t d v) L R) : WZ P n ops Lc Lc2 Q p2 (m + 1) done t L R :=
  WZ_quiet hT hL2 hok hio hk hw hd (by simp only [lcOf, hl, cond_true]; exact hv) h
theorem WStep_g {j : Nat} {Post : VPost} (hio : ops[j]? = some ⟨some d, op, ty, pos, after, g⟩) (hg : Gives P ⟨some d, op, ty, pos, after, g⟩ (ev t) L R Post) (hw : wantT ops t g = true) (hd : Nat.blt d n = true)
    (h : ∀ v L' R', Post v L' R' → Lc.Sublist L' ∧ (∀ r ∈ R, InR r R') ∧ WZ P n ops Lc Lc2 Q p2 m (done.setIfInBounds j true) (upd t d v) L' R') : WStep P n ops Lc Lc2 Q p2 m done t L R j :=
  ⟨_, hio, hw, hd, Post, hg, h⟩
theorem WSteps_cons {j : Nat} {l : List Nat} (h : WStep P n ops Lc Lc2 Q p2 m done t L R j) (k : WSteps P n ops Lc Lc2 Q p2 m done t L R l) : WSteps P n ops Lc Lc2 Q p2 m done t L R (j :: l) := ⟨h, k⟩
theorem WSteps_nil : WSteps P n ops Lc Lc2 Q p2 m done t L R [] := trivial
end
end Go.Aw
