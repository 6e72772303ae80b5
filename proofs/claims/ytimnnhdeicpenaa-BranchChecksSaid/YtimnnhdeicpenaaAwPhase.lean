/-
  Assertion-level walks: regions that draw their order, in two phases: the second one is stores, and ahead of the first of these all that reads the world has been. By an AI agent; no person has read it.
-/
import Derived.Test.YtimnnhdeicpenaaAwStep
set_option linter.unusedSimpArgs false
set_option linter.unusedVariables false
namespace Go.Aw
open Go

/-- what a quiet operation of the first phase may read: a late one, that may come up behind a store of the second phase, only what that phase leaves alone -/
def lcOf (late : List Nat) (Lc Lc2 : List Blk) (d : Option Tmp) : List Blk := match d with
  | some d => bif late.contains d then Lc2 else Lc
  | none => Lc2

def lateAt (late : List Nat) (ops : Array Oper) (k : Nat) : Bool := match (ops[k]?).bind (·.dst) with
  | some d => late.contains d
  | none => true

theorem lcOf_eq {late : List Nat} {Lc Lc2 : List Blk} {ops : Array Oper} {i : Nat} {o : Oper} (hio : ops[i]? = some o) : lcOf late Lc Lc2 o.dst = if lateAt late ops i = true then Lc2 else Lc := by
  have h : lateAt late ops i = (match o.dst with | some d => late.contains d | none => true) := by unfold lateAt; rw [hio]; rfl
  rw [h]
  obtain ⟨d, op, ty, pos, af, g⟩ := o
  cases d with
  | none => rfl
  | some d =>
    simp only [lcOf]
    by_cases hc : late.contains d = true
    · rw [if_pos hc, hc]; rfl
    · rw [if_neg hc, Bool.eq_false_iff.2 hc]; rfl

def DJ3 (P : Program) (tb : Tabs P) (n : Nat) (all : Array Oper) (late : List Nat) (Lc Lc2 : List Blk) (K : TPost) : List Oper → (Nat → Value) → List Blk → List Sl → Prop
  | [], t, L, R => K .normal t L R
  | o :: rest, t, L, R => dOk n o.dst = true ∧
    ((wantT all t o.guard = false ∧ okind o.op ≠ 1 ∧ DJ3 P tb n all late Lc Lc2 K rest (updo t o.dst undef) L R) ∨
     (wantT all t o.guard = true ∧ okind o.op = 0 ∧ ∃ v, YV P o (ev t) (lcOf late Lc Lc2 o.dst) R v ∧ DJ3 P tb n all late Lc Lc2 K rest (updo t o.dst v) L R) ∨
     (okind o.op = 1 ∧ ∃ T, o.op = .alloc T ∧ ∀ b, DJ3 P tb n all late Lc Lc2 K rest (updo t o.dst (.pointer (some ⟨b, 0, none⟩))) (⟨b, zT tb T, T⟩ :: L) R) ∨
     (wantT all t o.guard = true ∧ okind o.op = 2 ∧ ∃ Post, Gives P o (ev t) L R Post ∧ ∀ v L' R', Post v L' R' → Lc.Sublist L' ∧ (∀ r ∈ R, InR r R') ∧ DJ3 P tb n all late Lc Lc2 K rest (updo t o.dst v) L' R'))

def waits (ops : Array Oper) (i : Nat) (D : List Nat) (k : Nat) : Bool := Nat.beq k i || (match ops[k]? with
    | some o => o.after.any fun e => Region.binds .any e && D.contains e.on
    | none => false)
/-- what waits for operation i, through others too -/
def depOf (ops : Array Oper) (i : Nat) (plan : List Nat) : List Nat := plan.foldl (fun D k => bif waits ops i D k then k :: D else D) []
def baseZ (n : Nat) (p1 : List Nat) (D : List Nat) : Array Bool := (Array.range n).map fun i => p1.contains i && !D.contains i
/-- whoever has come up, has come up behind what it waits for -/
def Closed (ops : Array Oper) (listed : Array Bool) : Prop := ∀ j oj, ops[j]? = some oj → listed.getD j true = true → ∀ e ∈ oj.after, Region.binds .any e = true → listed.getD e.on false = true
theorem Closed.set {ops : Array Oper} {listed : Array Bool} (h : Closed ops listed) {j : Nat} (hj : j ∈ Region.ready .any ops listed) : Closed ops (listed.setIfInBounds j true) := by
  intro k ok hk hl e he hb
  by_cases hkj : j = k
  · subst hkj
    obtain ⟨_, o, ho, hall⟩ := mem_ready.1 hj
    obtain rfl : o = ok := Option.some.inj (ho.symm.trans hk)
    exact getD_set_true (hall e he hb)
  · rw [getD_set_ne true hkj] at hl
    exact getD_set_true (h k ok hk hl e he hb)
theorem Closed.zero {ops : Array Oper} : Closed ops (Array.replicate ops.size false) := by
  intro j oj hj hl
  have : j < ops.size := (Array.getElem?_eq_some_iff.1 hj).1
  simp [this] at hl
theorem depOf_unlisted {ops : Array Oper} {i : Nat} {listed : Array Bool} (hc : Closed ops listed) (hi : listed.getD i true = false) (plan : List Nat) : ∀ k ∈ depOf ops i plan, listed.getD k true = false := by
  have key : ∀ (plan D : List Nat), (∀ k ∈ D, listed.getD k true = false) → ∀ k ∈ plan.foldl (fun D k => bif waits ops i D k then k :: D else D) D, listed.getD k true = false := by
    intro plan
    induction plan with
    | nil => intro D h; exact h
    | cons x plan ih =>
      intro D h
      rw [List.foldl_cons]
      refine ih _ ?_
      cases hx : waits ops i D x with
      | false => rw [cond_false]; exact h
      | true =>
        rw [cond_true]
        intro k hk
        rcases List.mem_cons.1 hk with rfl | hk
        · simp only [waits, Bool.or_eq_true, Nat.beq_eq] at hx
          rcases hx with rfl | hx
          · exact hi
          · cases ho : ops[k]? with
            | none => rw [ho] at hx; cases hx
            | some o =>
              rw [ho] at hx
              obtain ⟨e, he, hx⟩ := Array.any_eq_true'.1 hx
              simp only [Bool.and_eq_true] at hx
              cases hl : listed.getD k true with
              | false => rfl
              | true =>
                have h1 := hc k o ho hl e he hx.1
                have h2 := h e.on (by simpa using hx.2)
                rcases Nat.lt_or_ge e.on listed.size with h' | h'
                · simp [h'] at h1 h2; rw [h1] at h2; cases h2
                · simp [Array.getElem?_eq_none h'] at h1
        · exact h k hk
  exact key plan [] (fun k hk => by cases hk)
/-- no operation of the second phase can come up ahead of one of the first that looks at the world -/
def zOk (late : List Nat) (ops : Array Oper) (p1 p2 : List Nat) : Bool :=
  (p2.all fun k => !Nat.beq (kindAt ops k) 1 && !p1.contains k) &&
  (p1.all fun k => Nat.blt k ops.size && (!Nat.beq (kindAt ops k) 0 || lateAt late ops k || (Region.ready .any ops (baseZ ops.size p1 (depOf ops k p1))).all fun j => !p2.contains j)) &&
  ((List.range ops.size).all fun k => p1.contains k || p2.contains k)

section
variable {P : Program} {ops : Array Oper} {late : List Nat} {Q : Exit → Act → World → Prop} {S S2 : World → Prop} {p1 p2 : List Nat}

theorem zOk_kind (h : zOk late ops p1 p2 = true) {k : Nat} (hk : k ∈ p2) : kindAt ops k ≠ 1 := by
  simp only [zOk, Bool.and_eq_true] at h
  have := List.all_eq_true.1 h.1.1 k hk
  simp only [Bool.and_eq_true] at this
  intro e
  rw [e] at this
  exact absurd this.1 (by decide)
theorem zOk_dis (h : zOk late ops p1 p2 = true) {k : Nat} (hk : k ∈ p2) : k ∉ p1 := by
  simp only [zOk, Bool.and_eq_true] at h
  have := List.all_eq_true.1 h.1.1 k hk
  simp only [Bool.and_eq_true, Bool.not_eq_true'] at this
  intro hm
  rw [List.contains_iff_mem.2 hm] at this
  cases this.2
theorem zOk_wait (h : zOk late ops p1 p2 = true) {i : Nat} (hi : i ∈ p1) (hk : kindAt ops i = 0) (hp : lateAt late ops i = false) {listed : Array Bool} (hcl : Closed ops listed) (hls : listed.size = ops.size) (hInv : ∀ k ∈ p2, listed.getD k true = false) (hl : listed.getD i true = false)
    {j : Nat} (hj : j ∈ Region.ready .any ops listed) : j ∉ p2 := by
  simp only [zOk, Bool.and_eq_true] at h
  obtain ⟨⟨_, h1⟩, hcov⟩ := h
  have h2 := List.all_eq_true.1 h1 i hi
  simp only [hk, hp, Bool.and_eq_true] at h2
  have h3 : ((Region.ready .any ops (baseZ ops.size p1 (depOf ops i p1))).all fun j => !p2.contains j) = true := by
    have h4 := h2.2
    rw [show Nat.beq 0 0 = true from rfl] at h4
    simpa using h4
  intro hj2
  obtain ⟨h0, o, ho, hall⟩ := mem_ready.1 hj
  have hjlt : j < ops.size := (Array.getElem?_eq_some_iff.1 ho).1
  have hjp : j ∉ p1 := zOk_dis (by simp only [zOk, Bool.and_eq_true]; exact ⟨⟨by assumption, h1⟩, hcov⟩) hj2
  have : j ∈ Region.ready .any ops (baseZ ops.size p1 (depOf ops i p1)) := by
    refine mem_ready.2 ⟨by simp [baseZ, hjlt, hjp], o, ho, fun e he hb => ?_⟩
    have h5 := hall e he hb
    have hlt : e.on < ops.size := by
      rcases Nat.lt_or_ge e.on listed.size with h' | h'
      · rw [hls] at h'; exact h'
      · simp [Array.getElem?_eq_none h'] at h5
    have h6 : listed.getD e.on true = true := by
      have : e.on < listed.size := by rw [hls]; exact hlt
      simp [this] at h5 ⊢; exact h5
    have hin : e.on ∈ p1 := by
      have h7 := List.all_eq_true.1 hcov e.on (List.mem_range.2 hlt)
      simp only [Bool.or_eq_true, List.contains_iff_mem] at h7
      rcases h7 with h | h
      · exact h
      · rw [hInv _ h] at h6; cases h6
    have hne : e.on ∉ depOf ops i p1 := fun he => by rw [depOf_unlisted hcl hl p1 _ he] at h6; cases h6
    simp [baseZ, hlt, hin, hne]
  have := List.all_eq_true.1 h3 j this
  rw [List.contains_iff_mem.2 hj2] at this
  cases this

/-- 'wpAny' with a condition on the world for as long as no operation of the second phase has come up -/
def wpZ (P : Program) (ops : Array Oper) (Q : Exit → Act → World → Prop) (S S2 : World → Prop) (p2 : List Nat) : Nat → Array Bool → Act → World → Prop
  | 0, listed, a, w => Region.ready .any ops listed = [] ∧ Q .normal a w
  | fuel + 1, listed, a, w => (Region.ready .any ops listed = [] → Q .normal a w) ∧
      ∀ i ∈ Region.ready .any ops listed, wpOp P ops Q i (fun a' w' => (S2 w' ∧ (p2.any (fun k => (listed.setIfInBounds i true).getD k false) = true ∨ S w')) ∧ wpZ P ops Q S S2 p2 fuel (listed.setIfInBounds i true) a' w') a w

theorem wpAny_of_wpZ : ∀ (fuel : Nat) (listed : Array Bool) (a : Act) (w : World), wpZ P ops Q S S2 p2 fuel listed a w → wpAny P .any ops Q fuel listed a w
  | 0, _, _, _, h => h
  | fuel + 1, _, _, _, h => ⟨h.1, fun i hi => wpOp_mono (fun a' w' h' => wpAny_of_wpZ fuel _ a' w' h'.2) (h.2 i hi)⟩

theorem wpZ_done {listed : Array Bool} {a : Act} {w : World} (hr : Region.ready .any ops listed = []) (h : Q .normal a w) : ∀ fuel, wpZ P ops Q S S2 p2 fuel listed a w
  | 0 => ⟨hr, h⟩
  | _ + 1 => ⟨fun _ => h, by rw [hr]; simp⟩

theorem wpZ_all {fuel : Nat} {listed : Array Bool} {a : Act} {w : World} (hne : Region.ready .any ops listed ≠ [])
    (h : ∀ i ∈ Region.ready .any ops listed, wpOp P ops Q i (fun a' w' => (S2 w' ∧ (p2.any (fun k => (listed.setIfInBounds i true).getD k false) = true ∨ S w')) ∧ wpZ P ops Q S S2 p2 fuel (listed.setIfInBounds i true) a' w') a w) : wpZ P ops Q S S2 p2 (fuel + 1) listed a w :=
  ⟨fun h0 => absurd h0 hne, h⟩

theorem wpZ_mono {S' S2' : World → Prop} (hS : ∀ w, S' w → S w) (hS2 : ∀ w, S2' w → S2 w) : ∀ (f : Nat) (l : Array Bool) (a : Act) (w : World), wpZ P ops Q S' S2' p2 f l a w → wpZ P ops Q S S2 p2 f l a w
  | 0, _, _, _, h => h
  | f + 1, _, _, _, h => ⟨h.1, fun i hi => wpOp_mono (fun a' w' h' => ⟨⟨hS2 _ h'.1.1, h'.1.2.imp id (hS _)⟩, wpZ_mono hS hS2 f _ a' w' h'.2⟩) (h.2 i hi)⟩

theorem any_false {listed : Array Bool} (h : ∀ k ∈ p2, listed.getD k true = false) : p2.any (fun k => listed.getD k false) = false := by
  cases hb : p2.any (fun k => listed.getD k false) with
  | false => rfl
  | true =>
    obtain ⟨k, hk, hl⟩ := List.any_eq_true.1 hb
    have := h k hk
    rcases Nat.lt_or_ge k listed.size with h' | h'
    · simp [h'] at this hl; rw [this] at hl; cases hl
    · simp [Array.getElem?_eq_none h'] at hl

/-- an operation of the first phase that leaves the world alone may be taken first -/
theorem wpZ_take {i : Nat} {oi : Oper} {v : Value} (hz : zOk late ops p1 p2 = true) (hi1 : i ∈ p1) (hk0 : kindAt ops i = 0) (hi : ops[i]? = some oi) (hsel : ∀ (j : Nat) (o : Oper) cs b, ops[j]? = some o → o.op ≠ .select cs b)
    (hQ : ∀ c a w, Q (.panic c) (a.put oi.dst v) w → Q (.panic c) a w) (fuel : Nat) (listed : Array Bool) (a : Act) (w : World) (hcl : Closed ops listed) (hls : listed.size = ops.size) (hInv : ∀ k ∈ p2, listed.getD k true = false)
      (hfree : ∀ j oj, ops[j]? = some oj → j ≠ i → listed.getD j true = false → (∀ e ∈ oj.after, Region.binds .any e = true → e.on ≠ i) → oi.apart ops oj = true)
      (hr : i ∈ Region.ready .any ops listed) (hy : YieldsIf P ops (if lateAt late ops i = true then S2 else S) oi v a) (hS : S w) (hSS : ∀ w, S w → S2 w)
      (H : wpZ P ops Q S S2 p2 fuel (listed.setIfInBounds i true) (a.put oi.dst v) w) : wpZ P ops Q S S2 p2 (fuel + 1) listed a w := by
  -- what holds of it for as long as it has not come up
  let Z : World → Prop := if lateAt late ops i = true then S2 else S
  have hyZ : YieldsIf P ops Z oi v a := hy
  have hZS : ∀ w, S w → Z w := by
    intro w hw
    show (if lateAt late ops i = true then S2 else S) w
    split
    · exact hSS w hw
    · exact hw
  have hZp : lateAt late ops i = true → ∀ w, S2 w → Z w := by
    intro hp w hw
    show (if lateAt late ops i = true then S2 else S) w
    rw [if_pos hp]; exact hw
  have hz2 : lateAt late ops i = false → ∀ listed : Array Bool, Closed ops listed → listed.size = ops.size → (∀ k ∈ p2, listed.getD k true = false) → listed.getD i true = false → ∀ j ∈ Region.ready .any ops listed, j ∉ p2 := fun hp listed hcl hls hInv hl j hj =>
    zOk_wait hz hi1 hk0 hp hcl hls hInv hl hj
  have hi2 : i ∉ p2 := fun h => zOk_dis hz h hi1
  clear hz hy
  -- along all orders
  have main : ∀ (fuel : Nat) (listed : Array Bool) (a : Act) (w : World), Closed ops listed → listed.size = ops.size → (lateAt late ops i = false → ∀ k ∈ p2, listed.getD k true = false) →
      (∀ j oj, ops[j]? = some oj → j ≠ i → listed.getD j true = false → (∀ e ∈ oj.after, Region.binds .any e = true → e.on ≠ i) → oi.apart ops oj = true) →
      i ∈ Region.ready .any ops listed → YieldsIf P ops Z oi v a → Z w → S2 w → (p2.any (fun k => listed.getD k false) = true ∨ S w) →
      wpZ P ops Q S S2 p2 fuel (listed.setIfInBounds i true) (a.put oi.dst v) w → wpZ P ops Q S S2 p2 (fuel + 1) listed a w := by
    intro fuel
    induction fuel with
    | zero =>
      intro listed a w _ hls hInv _ hr hy hZ hS2 hS H
      refine wpZ_all (List.ne_nil_of_mem hr) fun j hj => ?_
      by_cases hji : j = i
      · subst hji
        refine hy.wpOp hi hZ ⟨⟨hS2, hS.imp (fun h => ?_) id⟩, H⟩
        obtain ⟨k, hk, hl⟩ := List.any_eq_true.1 h
        exact List.any_eq_true.2 ⟨k, hk, getD_set_true hl⟩
      · have := ready_mono hj hji
        rw [H.1] at this
        cases this
    | succ fuel ih =>
      intro listed a w hcl hls hInv hfree hr hy hZ hS2 hS H
      refine wpZ_all (List.ne_nil_of_mem hr) fun j hj => ?_
      by_cases hji : j = i
      · subst hji
        refine hy.wpOp hi hZ ⟨⟨hS2, hS.imp (fun h => ?_) id⟩, H⟩
        obtain ⟨k, hk, hl⟩ := List.any_eq_true.1 h
        exact List.any_eq_true.2 ⟨k, hk, getD_set_true hl⟩
      · have h1 := H.2 j (ready_mono hj hji)
        obtain ⟨hjun, oj, hoj, hall⟩ := mem_ready.1 hj
        have hnot : ∀ e ∈ oj.after, Region.binds .any e = true → e.on ≠ i := fun e he hb heq => by
          have h1 := hall e he hb
          have h0 := (mem_ready.1 hr).1
          rw [heq] at h1
          rcases Nat.lt_or_ge i listed.size with h' | h'
          · simp [h'] at h0 h1; rw [h0] at h1; cases h1
          · simp [Array.getElem?_eq_none h'] at h1
        have hfree' : ∀ k ok, ops[k]? = some ok → k ≠ i → (listed.setIfInBounds j true).getD k true = false → (∀ e ∈ ok.after, Region.binds .any e = true → e.on ≠ i) → oi.apart ops ok = true := by
          intro k ok hk hne hl hno
          refine hfree k ok hk hne ?_ hno
          by_cases hjk : j = k
          · subst hjk; exact hjun
          · rwa [getD_set_ne true hjk] at hl
        have hls' : (listed.setIfInBounds j true).size = ops.size := by simp [hls]
        have hInv' : lateAt late ops i = false → ∀ k ∈ p2, (listed.setIfInBounds j true).getD k true = false := fun hp k hk => by
          have hj2 := hz2 hp listed hcl hls (hInv hp) (mem_ready.1 hr).1 j hj
          rw [getD_set_ne true (show ¬ j = k from fun e => hj2 (e ▸ hk))]; exact hInv hp k hk
        have h2 := wpOp_putIf hoj (hfree j oj hoj hji hjun hnot) (fun cs b => hsel i oi cs b hi) (fun cs b => hsel j oj cs b hoj) hQ hy h1
        have back : ∀ {l : Array Bool}, p2.any (fun k => (l.setIfInBounds i true).getD k false) = true → p2.any (fun k => l.getD k false) = true := by
          intro l h
          obtain ⟨k, hk, hl⟩ := List.any_eq_true.1 h
          refine List.any_eq_true.2 ⟨k, hk, ?_⟩
          rwa [getD_set_ne false (show ¬ i = k from fun e => hi2 (e ▸ hk))] at hl
        refine wpOp_mono (fun a' w' h3 => ?_) h2
        obtain ⟨hy', ⟨hc2, hc⟩, hrec⟩ := h3
        have hcomm : (listed.setIfInBounds i true).setIfInBounds j true = (listed.setIfInBounds j true).setIfInBounds i true := by
          first
            | exact Array.setIfInBounds_comm _ _ hji
            | exact Array.setIfInBounds_comm _ _ (Ne.symm hji)
        rw [hcomm] at hrec hc
        have hc' : p2.any (fun k => (listed.setIfInBounds j true).getD k false) = true ∨ S w' := hc.imp (fun h => back h) id
        have hZ' : Z w' := by
          cases hp : lateAt late ops i with
          | true => exact hZp hp w' hc2
          | false => exact hZS w' (hc'.resolve_left (by rw [any_false (hInv' hp)]; decide))
        exact ⟨⟨hc2, hc'⟩, ih (listed.setIfInBounds j true) a' w' (hcl.set hj) hls' hInv' hfree' (ready_mono hr (Ne.symm hji)) hy' hZ' hc2 hc' hrec⟩
  exact main fuel listed a w hcl hls (fun _ => hInv) hfree hr hyZ (hZS w hS) (hSS w hS) (.inr hS) H
end

section
variable {P : Program} {tb : Tabs P} {n : Nat} {ops : Array Oper} {c : Ctx} {Lc : List Blk} {K : TPost}

theorem wpZ_of_held {Q : Exit → Act → World → Prop} {S S2 : World → Prop} {p2 : List Nat} : ∀ (fuel : Nat) (listed : Array Bool) (a : Act) (w : World), listed.size = ops.size → (∀ k, k < ops.size → k ∉ p2 → listed.getD k true = true) →
    wpAnyH P .any ops Q S2 fuel listed a w → wpZ P ops Q S S2 p2 fuel listed a w
  | 0, _, _, _, _, _, h => h
  | fuel + 1, listed, _, _, hls, hall, h => ⟨h.1, fun i hi => by
    obtain ⟨h0, o, ho, _⟩ := mem_ready.1 hi
    have hilt : i < ops.size := (Array.getElem?_eq_some_iff.1 ho).1
    have hi2 : i ∈ p2 := by
      rcases Classical.em (i ∈ p2) with h | h
      · exact h
      · rw [hall i hilt h] at h0; cases h0
    refine wpOp_mono (fun a' w' h' => ⟨⟨h'.1, .inl (List.any_eq_true.2 ⟨i, hi2, getD_set_self (by rw [hls]; exact hilt) false⟩)⟩, wpZ_of_held fuel _ a' w' (by simp [hls]) (fun k hk hn => ?_) h'.2⟩) (h.2 i hi)
    by_cases hik : i = k
    · subst hik; exact getD_set_self (by rw [hls]; exact hilt) true
    · rw [getD_set_ne true hik]; exact hall k hk hn⟩

theorem dj_end2 {Q2 : TPost} {p2 : List Nat} {Lc2 : List Blk} {S : World → Prop} (hsel : Region.noSelect ops = true) (hal : allocsOk tb n ops = true) {os : List Oper} {fuel : Nat} {done listed : Array Bool} {t : Nat → Value} {L : List Blk} {R : List Sl} {a : Act} {w : World}
    (hos : p2.map (ops[·]?) = os.map some) (hpl : planOk ops done p2 = true) (hE : EOk tb n ops done listed []) (hds : done.size = ops.size) (hfu : p2.length ≤ fuel) (hcov : ∀ i, i < ops.size → done.getD i true = false → i ∈ p2) (hfr : Fr n (ovr t []) a) (hst : St c (eblks tb [] ++ L) R w) (hL2 : Lc2.Sublist L)
    (hdj : DJ P tb n ops Lc2 Q2 os t L R) : wpZ P ops (liftK n c Q2) S (St c Lc2 R) p2 fuel listed a w := by
  refine wpZ_of_held fuel listed a w (by rw [hE.size, hds]) (fun k hk hn => ?_) ?_
  · cases hd : done.getD k true with
    | true => exact (hE.listed k true).2 (.inl hd)
    | false => exact absurd (hcov k hk hd) hn
  · exact dj_any hsel hal (fuel + p2.length) fuel p2 os done listed [] t L R a w (Nat.le_refl _) (by simpa using hfu) hos hpl hE (fun e he => by cases he) hds hcov hfr hst hL2 hdj

theorem dj_any2 {Q2 : TPost} {os2 : List Oper} {late p1 p2 : List Nat} {Lc2 : List Blk} (hL2 : Lc2.Sublist Lc) (hz : zOk late ops p1 p2 = true) (hos2 : p2.map (ops[·]?) = os2.map some) (hK : K = fun _ t L R => DJ P tb n ops Lc2 Q2 os2 t L R) (hsel : Region.noSelect ops = true) (hal : allocsOk tb n ops = true) : ∀ (m fuel : Nat) (plan : List Nat) (os : List Oper) (done listed : Array Bool) (E : List Early) (t : Nat → Value) (L : List Blk) (R : List Sl) (a : Act) (w : World),
    fuel + plan.length ≤ m → plan.length + p2.length ≤ fuel + E.length → plan.map (ops[·]?) = os.map some → planOk ops done (plan ++ p2) = true → (∀ k ∈ plan, k ∈ p1) → (∀ k ∈ p2, done.getD k true = false) → Closed ops listed → EOk tb n ops done listed E → (∀ e ∈ E, e.i ∈ plan) → done.size = ops.size →
    (∀ i, i < ops.size → done.getD i true = false → i ∈ plan ∨ i ∈ p2) →
    Fr n (ovr t E) a → St c (eblks tb E ++ L) R w → Lc.Sublist L → DJ3 P tb n ops late Lc Lc2 K os t L R → wpZ P ops (liftK n c Q2) (St c Lc R) (St c Lc2 R) p2 fuel listed a w := by
  intro m
  induction m with
  | zero =>
    intro fuel plan os done listed E t L R a w hm hfu hos hpl hp1 hd2 hcl hE hEp hds hcov hfr hst hLc hdj
    obtain rfl : plan = [] := by cases plan with | nil => rfl | cons x l => simp at hm
    obtain rfl : E = [] := by cases E with | nil => rfl | cons e E => exact absurd (hEp e (by simp)) (by simp)
    obtain rfl : os = [] := by cases os with | nil => rfl | cons x l => simp at hos
    exact dj_end2 hsel hal hos2 hpl hE hds (by simpa using hfu) (by simpa using hcov) hfr hst (hL2.trans hLc) (by rw [hK] at hdj; exact hdj)
  | succ m ih =>
    intro fuel plan os done listed E t L R a w hm hfu hos hpl hp1 hd2 hcl hE hEp hds hcov hfr hst hLc hdj
    have hS : St c Lc R w := hst.weak (hLc.trans (List.sublist_append_right _ _)) (fun r hr => ⟨r, hr, .here⟩)
    have hls : listed.size = ops.size := by rw [hE.size, hds]
    have hInv : ∀ k ∈ p2, listed.getD k true = false := by
      intro k hk
      cases hl : listed.getD k true with
      | false => rfl
      | true =>
        rcases (hE.listed k true).1 hl with h | ⟨e, he, hi⟩
        · rw [hd2 k hk] at h; cases h
        · exact absurd (hp1 _ (hEp e he)) (by rw [hi]; exact zOk_dis hz hk)
    -- a making of a variable that comes up early
    have early : ∀ (f : Nat), fuel = f + 1 → ∀ j, j ∈ Region.ready .any ops listed → kindAt ops j = 1 →
        wpOp P ops (liftK n c Q2) j (fun a' w' => (St c Lc2 R w' ∧ (p2.any (fun k => (listed.setIfInBounds j true).getD k false) = true ∨ St c Lc R w')) ∧ wpZ P ops (liftK n c Q2) (St c Lc R) (St c Lc2 R) p2 f (listed.setIfInBounds j true) a' w') a w := by
      intro f hf j hj hkj
      obtain ⟨h0, oj, hoj, hall⟩ := mem_ready.1 hj
      have hkj' : okind oj.op = 1 := by simpa [kindAt, hoj] using hkj
      obtain ⟨T, hT⟩ := alloc_of_okind hkj'
      obtain ⟨hg, ⟨ti, hti⟩, ⟨d, hd, hdn, hdw⟩, hfree⟩ := allocsOk_spec hal hoj hT
      obtain ⟨zv, hz1, hz2⟩ := run_zeroValue (tb.ok _ _ hti) w
      have hjd : done.getD j true = false := by
        cases hd : done.getD j true with
        | false => rfl
        | true => rw [(hE.listed j true).2 (.inl hd)] at h0; cases h0
      have hjE : ∀ e ∈ E, e.i ≠ j := fun e he hi => by rw [(hE.listed j true).2 (.inr ⟨e, he, hi⟩)] at h0; cases h0
      have hzT : zv.cells.toList = zT tb T := by rw [hz2]; simp [zT, hti]
      have hst' : St c (eblks tb (⟨j, d, w.heap.size, T⟩ :: E) ++ L) R (w.alloc (.cells zv.cells T)) := by
        have := hst.alloc zv.cells T
        rw [hzT] at this
        exact this
      unfold wpOp
      simp only [hoj]
      rw [hfr.wanted, hg]
      simp only [wantT, if_true]
      refine .inl ?_
      have hrun : (execOp a.eval oj).run P w = .ok (.value (.pointer (some ⟨w.heap.size, 0, none⟩))) (w.alloc (.cells zv.cells T)) := by
        obtain ⟨od, oo, ot, op, oa, og⟩ := oj
        simp only at hT
        subst hT
        simp [execOp, Instr.alloc, hz1, newVar, newRow]
      unfold Oper.wp
      rw [hrun]
      refine ⟨⟨hst'.weak ((hL2.trans hLc).trans (List.sublist_append_right _ _)) (fun r hr => ⟨r, hr, .here⟩), .inr (hst'.weak (hLc.trans (List.sublist_append_right _ _)) (fun r hr => ⟨r, hr, .here⟩))⟩, ?_⟩
      have hjlt : j < ops.size := (Array.getElem?_eq_some_iff.1 hoj).1
      have hjl : j < listed.size := by rw [hE.size, hds]; exact hjlt
      have hjp : j ∈ plan := (hcov j hjlt hjd).resolve_right fun h => zOk_kind hz h hkj
      refine ih f plan os done _ (⟨j, d, w.heap.size, T⟩ :: E) t L R _ _ (by omega) (by simp only [List.length_cons]; omega) hos hpl hp1 hd2 (hcl.set hj) ?_ ?_ hds hcov ?_ hst' hLc hdj
      · refine ⟨by simp [hE.size], fun k dd => ?_, fun e he => ?_, fun e he => ?_, ?_, ?_⟩
        · by_cases hk : j = k
          · subst hk
            rw [getD_set_self hjl]
            simp
          · rw [getD_set_ne dd hk, hE.listed k dd]
            simp [hk]
        · rcases List.mem_cons.1 he with rfl | he
          · exact ⟨oj, hoj, hT, hd, hg⟩
          · exact hE.op e he
        · rcases List.mem_cons.1 he with rfl | he
          · exact hjd
          · exact hE.fresh e he
        · simp only [List.map_cons, List.nodup_cons]
          exact ⟨fun hm => by obtain ⟨e, he, hi⟩ := List.mem_map.1 hm; exact hjE e he hi, hE.nd⟩
        · simp only [List.map_cons, List.nodup_cons]
          refine ⟨fun hm => ?_, hE.ndd⟩
          obtain ⟨e, he, hi⟩ := List.mem_map.1 hm
          obtain ⟨oe, h1, h2, h3, h4⟩ := hE.op e he
          exact hdw e.i oe h1 (hjE e he) (by rw [h3, hi])
      · intro e he
        rcases List.mem_cons.1 he with rfl | he
        · exact hjp
        · exact hEp e he
      · have := hfr.put (d := oj.dst) (by rw [hd]; simpa [dOk] using hdn) (.pointer (some ⟨w.heap.size, 0, none⟩))
        rw [hd] at this ⊢
        exact this
    cases plan with
    | nil =>
      obtain rfl : E = [] := by cases E with | nil => rfl | cons e E => exact absurd (hEp e (by simp)) (by simp)
      obtain rfl : os = [] := by cases os with | nil => rfl | cons x l => simp at hos
      exact dj_end2 hsel hal hos2 hpl hE hds (by simpa using hfu) (by simpa using hcov) hfr hst (hL2.trans hLc) (by rw [hK] at hdj; exact hdj)
    | cons i rest =>
      cases os with
      | nil => simp at hos
      | cons o os =>
        simp only [List.map_cons, List.cons.injEq] at hos
        obtain ⟨hio, hos⟩ := hos
        simp only [List.cons_append, planOk, Bool.and_eq_true] at hpl
        obtain ⟨⟨hir, hkind⟩, hpl'⟩ := hpl
        have hir : i ∈ Region.ready .any ops done := by simpa using hir
        obtain ⟨hi0, o', ho', hpre⟩ := mem_ready.1 hir
        obtain rfl : o' = o := Option.some.inj (ho'.symm.trans hio)
        have hilt : i < ops.size := (Array.getElem?_eq_some_iff.1 hio).1
        have hids : i < done.size := by rw [hds]; exact hilt
        have hka : kindAt ops i = okind o'.op := by simp [kindAt, hio]
        have hcov' : ∀ k, k < ops.size → (done.setIfInBounds i true).getD k true = false → k ∈ rest ∨ k ∈ p2 := by
          intro k hk hd
          by_cases hki : i = k
          · subst hki; rw [getD_set_self hids] at hd; cases hd
          · rw [getD_set_ne true hki] at hd
            rcases hcov k hk hd with h | h
            · rcases List.mem_cons.1 h with h | h
              · exact absurd h.symm hki
              · exact .inl h
            · exact .inr h
        have hp1' : ∀ k ∈ rest, k ∈ p1 := fun k hk => hp1 k (List.mem_cons_of_mem _ hk)
        have hi1 : i ∈ p1 := hp1 i (by simp)
        have hd2' : ∀ k ∈ p2, (done.setIfInBounds i true).getD k true = false := fun k hk => by
          rw [getD_set_ne true (show ¬ i = k from fun e => zOk_dis hz hk (e ▸ hi1))]; exact hd2 k hk
        have hds' : (done.setIfInBounds i true).size = ops.size := by simp [hds]
        have hdone : ∀ k, done.getD k true = true → ∀ d, listed.getD k d = true ∨ k ≥ done.size := by
          intro k hk d
          rcases Nat.lt_or_ge k done.size with h' | h'
          · exact .inl ((hE.listed k d).2 (.inl (by simp [h'] at hk ⊢; exact hk)))
          · exact .inr h'
        obtain ⟨hd, hdj⟩ := hdj
        -- if the operation is no making of a variable, it has not come up, and is apart from the early ones
        have notE : okind o'.op ≠ 1 → ∀ e ∈ E, e.i ≠ i := by
          intro hk e he hi
          obtain ⟨oe, h1, h2, _, _⟩ := hE.op e he
          rw [hi] at h1
          obtain rfl : oe = o' := Option.some.inj (h1.symm.trans hio)
          exact hk (okind_alloc h2)
        have cnt : okind o'.op ≠ 1 → E.length ≤ rest.length := by
          intro hk
          have := nodup_sub_len (E.map (·.i)) rest hE.nd (fun x hx => by
            obtain ⟨e, he, rfl⟩ := List.mem_map.1 hx
            rcases List.mem_cons.1 (hEp e he) with h | h
            · exact absurd h (notE hk e he)
            · exact h)
          simpa using this
        have hready : okind o'.op ≠ 1 → i ∈ Region.ready .any ops listed := by
          intro hk
          refine mem_ready.2 ⟨?_, o', hio, fun e he hb => (hE.listed _ _).2 (.inl (hpre e he hb))⟩
          cases hl : listed.getD i true with
          | false => rfl
          | true =>
            rcases (hE.listed i true).1 hl with h | ⟨e, he, hi⟩
            · rw [h] at hi0; cases hi0
            · exact absurd hi (notE hk e he)
        have apart : okind o'.op ≠ 1 → ∀ e ∈ E, e.d ∉ o'.looksAt ops ∧ o'.dst ≠ some e.d := fun hk => early_apart hal hE hio (notE hk) hpre
        have hEp' : okind o'.op ≠ 1 → ∀ e ∈ E, e.i ∈ rest := fun hk e he => by
          rcases List.mem_cons.1 (hEp e he) with h | h
          · exact absurd h (notE hk e he)
          · exact h
        have frame : okind o'.op ≠ 1 → ∀ v, Fr n (ovr (updo t o'.dst v) E) (a.put o'.dst v) := fun hk v => by
          rw [← ovr_updo (fun e he => (apart hk e he).2)]
          exact hfr.put hd v
        have hwant : okind o'.op ≠ 1 → Region.wanted o' (yielded ops a.tmps) = wantT ops t o'.guard := fun hk => by
          rw [hfr.wanted, want_ovr (fun e he => (apart hk e he).1)]
        have hexec : okind o'.op ≠ 1 → execOp a.eval o' = execOp (ev t) o' := fun hk => by
          rw [hfr.eval]
          exact exec_ovr (ops := ops) (fun cs b => Region.noSelect_spec hsel i o' cs b hio) (fun e he => (apart hk e he).1)
        rcases okind_le o'.op with hk | hk | hk
        · -- it leaves the world alone
          have hk1 : okind o'.op ≠ 1 := by rw [hk]; decide
          have hlen := cnt hk1
          obtain ⟨f, rfl⟩ : ∃ f, fuel = f + 1 := ⟨fuel - 1, by simp only [List.length_cons] at hfu; omega⟩
          rw [hka, hk] at hkind
          have hfree : ∀ j oj, ops[j]? = some oj → j ≠ i → listed.getD j true = false → (∀ e ∈ oj.after, Region.binds .any e = true → e.on ≠ i) → o'.apart ops oj = true := by
            intro j oj hj hne hl hno
            refine Region.free_spec hio hkind j oj hj hne ?_ hno
            cases hd : done.getD j true with
            | false => rfl
            | true => rw [(hE.listed j true).2 (.inl hd)] at hl; cases hl
          have hlc := lcOf_eq (late := late) (Lc := Lc) (Lc2 := Lc2) hio
          have hSif : ∀ w', (if lateAt late ops i = true then St c Lc2 R else St c Lc R) w' → St c (lcOf late Lc Lc2 o'.dst) R w' := by
            intro w' hw'
            rw [hlc]
            split at hw'
            · rename_i h; rw [if_pos h]; exact hw'
            · rename_i h; rw [if_neg h]; exact hw'
          have go : ∀ v, YieldsIf P ops (if lateAt late ops i = true then St c Lc2 R else St c Lc R) o' v a → DJ3 P tb n ops late Lc Lc2 K os (updo t o'.dst v) L R → wpZ P ops (liftK n c Q2) (St c Lc R) (St c Lc2 R) p2 (f + 1) listed a w := by
            intro v hy hdj'
            refine wpZ_take hz hi1 (by rw [hka]; exact hk) hio (Region.noSelect_spec hsel) (fun _ _ _ h => h.1.elim) f listed a w hcl hls hInv hfree (hready hk1) hy hS (fun w hw => hw.weak hL2 (fun r hr => ⟨r, hr, .here⟩)) ?_
            exact ih f rest os _ _ E _ L R _ w (by simp only [List.length_cons] at hm; omega) (by simp only [List.length_cons] at hfu; omega) hos hpl' hp1' hd2' (hcl.set (hready hk1)) (hE.step (notE hk1) hids) (hEp' hk1) hds' hcov' (frame hk1 v) hst hLc hdj'
          rcases hdj with ⟨hw, _, hdj'⟩ | ⟨hw, _, v, hv, hdj'⟩ | ⟨h1, _⟩ | ⟨_, h2, _⟩
          · exact go undef (.inr ⟨by rw [hwant hk1]; exact hw, rfl⟩) hdj'
          · exact go v (.inl ⟨by rw [hwant hk1]; exact hw, fun w' hw' => by rw [hexec hk1]; exact hv c w' (hSif w' hw')⟩) hdj'
          · exact absurd h1 hk1
          · rw [hk] at h2; cases h2
        · -- it makes a variable
          rw [hka, hk] at hkind
          rcases hdj with ⟨_, h1, _⟩ | ⟨_, h2, _⟩ | ⟨_, T, hT, hdj'⟩ | ⟨_, h2, _⟩
          · exact absurd hk h1
          · rw [hk] at h2; cases h2
          · by_cases hin : ∃ e ∈ E, e.i = i
            · -- it has come up early
              obtain ⟨e, he, hei⟩ := hin
              obtain ⟨oe, h1, h2, h3, h4⟩ := hE.op e he
              rw [hei] at h1
              obtain rfl : oe = o' := Option.some.inj (h1.symm.trans hio)
              obtain rfl : e.T = T := by rw [h2] at hT; exact Op.alloc.inj hT
              obtain ⟨E1, E2, rfl⟩ := List.append_of_mem he
              have hmem : ∀ x ∈ E1 ++ E2, x ∈ E1 ++ e :: E2 := fun x hx => by
                rcases List.mem_append.1 hx with h | h
                · exact List.mem_append_left _ h
                · exact List.mem_append_right _ (List.mem_cons_of_mem _ h)
              have hni : ∀ x ∈ E1 ++ E2, x.i ≠ i := by
                intro x hx hxi
                have hn := hE.nd
                rw [List.map_append, List.map_cons, List.nodup_append, List.nodup_cons] at hn
                rcases List.mem_append.1 hx with h | h
                · exact hn.2.2 x.i (List.mem_map.2 ⟨x, h, rfl⟩) e.i (by simp) (by rw [hxi, hei])
                · exact hn.2.1.1 (List.mem_map.2 ⟨x, h, by rw [hxi, hei]⟩)
              refine ih fuel rest os _ listed (E1 ++ E2) _ _ R a w (by simp only [List.length_cons] at hm; omega) (by simp only [List.length_cons, List.length_append] at hfu ⊢; omega) hos hpl' hp1' hd2' hcl ?_ ?_ hds' hcov' ?_ ?_ (hLc.cons _) (hdj' e.b)
              · refine ⟨by rw [hE.size]; simp, fun k d => ?_, fun x hx => hE.op x (hmem x hx), fun x hx => ?_, ?_, ?_⟩
                · rw [hE.listed k d]
                  by_cases hk : i = k
                  · subst hk
                    rw [getD_set_self hids]
                    simp only [true_or, iff_true]
                    exact .inr ⟨e, he, hei⟩
                  · rw [getD_set_ne d hk]
                    refine or_congr Iff.rfl ⟨fun ⟨x, hx, hxk⟩ => ?_, fun ⟨x, hx, hxk⟩ => ⟨x, hmem x hx, hxk⟩⟩
                    rcases List.mem_append.1 hx with h | h
                    · exact ⟨x, List.mem_append_left _ h, hxk⟩
                    · rcases List.mem_cons.1 h with rfl | h
                      · exact absurd (hei.symm.trans hxk) hk
                      · exact ⟨x, List.mem_append_right _ h, hxk⟩
                · rw [getD_set_ne true (Ne.symm (hni x hx))]
                  exact hE.fresh x (hmem x hx)
                · exact hE.nd.sublist (List.Sublist.map _ (List.Sublist.append (List.Sublist.refl _) (List.sublist_cons_self _ _)))
                · exact hE.ndd.sublist (List.Sublist.map _ (List.Sublist.append (List.Sublist.refl _) (List.sublist_cons_self _ _)))
              · intro x hx
                rcases List.mem_cons.1 (hEp x (hmem x hx)) with h | h
                · exact absurd h (hni x hx)
                · exact h
              · rw [h3]
                have := ovr_split (t := t) hE.ndd
                rw [this] at hfr
                exact hfr
              · refine hst.perm ?_
                simp only [eblks, List.map_append, List.map_cons, List.append_assoc, List.cons_append]
                refine List.Perm.append_left _ ?_
                exact (List.perm_middle (l₁ := E2.map fun e => (⟨e.b, zT tb e.T, e.T⟩ : Blk))).symm
            · -- it has not: whatever comes up now makes a variable
              have hin' : ∀ e ∈ E, e.i ≠ i := fun e he hi => hin ⟨e, he, hi⟩
              have hrl : i ∈ Region.ready .any ops listed := by
                refine mem_ready.2 ⟨?_, o', hio, fun e he hb => (hE.listed _ _).2 (.inl (hpre e he hb))⟩
                cases hl : listed.getD i true with
                | false => rfl
                | true =>
                  rcases (hE.listed i true).1 hl with h | ⟨e, he, hi⟩
                  · rw [h] at hi0; cases hi0
                  · exact absurd hi (hin' e he)
              have hlen : E.length + 1 ≤ (i :: rest).length := by
                have := nodup_sub_len (i :: E.map (·.i)) (i :: rest) (List.nodup_cons.2 ⟨fun hm => by obtain ⟨e, he, hi⟩ := List.mem_map.1 hm; exact hin' e he hi, hE.nd⟩) (fun x hx => by
                  rcases List.mem_cons.1 hx with rfl | hx
                  · simp
                  · obtain ⟨e, he, rfl⟩ := List.mem_map.1 hx
                    exact hEp e he)
                simpa using this
              obtain ⟨f, rfl⟩ : ∃ f, fuel = f + 1 := ⟨fuel - 1, by omega⟩
              refine wpZ_all (List.ne_nil_of_mem hrl) fun j hj => early f rfl j hj ?_
              by_cases hkj : kindAt ops j = 1
              · exact hkj
              · have := ready_withA (p := fun k => !Nat.beq k i) hE (fun e he => by simp [beqF (hin' e he)]) hds hj hkj
                exact absurd (Nat.eq_of_beq_eq_true (List.all_eq_true.1 hkind j this)) hkj
          · rw [hk] at h2; cases h2
        · -- it turns the world
          have hk1 : okind o'.op ≠ 1 := by rw [hk]; decide
          have hlen := cnt hk1
          obtain ⟨f, rfl⟩ : ∃ f, fuel = f + 1 := ⟨fuel - 1, by simp only [List.length_cons] at hfu; omega⟩
          rw [hka, hk] at hkind
          refine wpZ_all (List.ne_nil_of_mem (hready hk1)) fun j hj => ?_
          by_cases hkj : kindAt ops j = 1
          · exact early f rfl j hj hkj
          · have hji := ready_withA (p := fun _ => true) hE (fun _ _ => rfl) hds hj hkj
            have := List.all_eq_true.1 hkind j hji
            obtain rfl : j = i := by simpa using this
            unfold wpOp
            simp only [hio]
            rw [hwant hk1]
            rcases hdj with ⟨hw, _, hdj'⟩ | ⟨_, h2, _⟩ | ⟨h1, _⟩ | ⟨hw, _, Post, hg, hdj'⟩
            · rw [hw, if_neg (by simp)]
              exact ⟨⟨hS.weak hL2 (fun r hr => ⟨r, hr, .here⟩), .inr hS⟩, ih f rest os _ _ E _ L R _ w (by simp only [List.length_cons] at hm; omega) (by simp only [List.length_cons] at hfu; omega) hos hpl' hp1' hd2' (hcl.set (hready hk1)) (hE.step (notE hk1) hids) (hEp' hk1) hds' hcov' (frame hk1 undef) hst hLc hdj'⟩
            · rw [hk] at h2; cases h2
            · exact absurd h1 hk1
            · rw [hw, if_pos rfl]
              refine .inl (upon_of_eval (hexec hk1) ?_)
              refine (hg.frame (eblks tb E)) c w hst a _ _ ?_
              rintro v L'' R' w' ⟨L', rfl, hp⟩ hst'
              obtain ⟨hLc', hR', hdj''⟩ := hdj' v L' R' hp
              refine ⟨⟨hst'.weak ((hL2.trans hLc').trans (List.sublist_append_right _ _)) hR', .inr (hst'.weak (hLc'.trans (List.sublist_append_right _ _)) hR')⟩, ?_⟩
              refine wpZ_mono (S' := St c Lc R') (S2' := St c Lc2 R') (fun x hx => hx.weak (List.Sublist.refl _) hR') (fun x hx => hx.weak (List.Sublist.refl _) hR') _ _ _ _ ?_
              exact ih f rest os _ _ E _ L' R' _ w' (by simp only [List.length_cons] at hm; omega) (by simp only [List.length_cons] at hfu; omega) hos hpl' hp1' hd2' (hcl.set (hready hk1)) (hE.step (notE hk1) hids) (hEp' hk1) hds' hcov' (frame hk1 v) hst' hLc' hdj''
end

theorem CJ_drawn2 {P : Program} (tb : Tabs P) {n id : Nat} {ops : List Oper} {t : Nat → Value} {L : List Blk} {R : List Sl} {Q : TPost} (late plan p2 : List Nat) (Lc Lc2 : List Blk) (hm : P.follows .mixedOrders = true) (hB : (regionOk tb n ops.toArray (plan ++ p2) && zOk late ops.toArray plan p2) = true) (hLc : Lc.Sublist L) (hL2 : Lc2.Sublist Lc)
    (h : DJ3 P tb n ops.toArray late Lc Lc2 (fun _ t L R => DJ P tb n ops.toArray Lc2 Q (pickOps ops p2) t L R) (pickOps ops plan) t L R) : CJ P n (.region id ops.toArray true) t L R Q := by
  simp only [Bool.and_eq_true] at hB
  obtain ⟨hB, hz⟩ := hB
  simp only [regionOk, Bool.and_eq_true] at hB
  obtain ⟨⟨⟨⟨h1, h2⟩, h3⟩, h4⟩, h5⟩ := hB
  have hlt : ∀ i ∈ plan ++ p2, i < ops.length := fun i hi => by simpa using List.all_eq_true.1 h5 i hi
  intro c a w hf hs
  refine wp_region_any hm (wpAny_of_wpZ (S := St c Lc R) (S2 := St c Lc2 R) (p2 := p2) _ _ _ _ ?_)
  refine dj_any2 (tb := tb) (Lc := Lc) (p2 := p2) (os2 := pickOps ops p2) hL2 hz (pick_map ops p2 fun i hi => hlt i (List.mem_append_right _ hi)) rfl h1 h2 (ops.toArray.size + plan.length) ops.toArray.size plan (pickOps ops plan) (Array.replicate ops.toArray.size false) _ [] t L R a _ (Nat.le_refl _) ?_ (pick_map ops plan fun i hi => hlt i (List.mem_append_left _ hi)) h3 (fun _ h => h) (fun k hk => by have := hlt k (List.mem_append_right _ hk); simp [this]) Closed.zero ?_ (fun e he => by cases he) (by simp) ?_ hf ?_ hLc h
  · have key : ∀ (pl : List Nat) (done : Array Bool), planOk ops.toArray done pl = true → pl.Nodup ∧ ∀ i ∈ pl, done.getD i true = false := by
      intro pl
      induction pl with
      | nil => intro _ _; exact ⟨List.nodup_nil, fun i hi => by cases hi⟩
      | cons i pl ih =>
        intro done hp
        simp only [planOk, Bool.and_eq_true] at hp
        obtain ⟨hn, hd⟩ := ih _ hp.2
        have hr : i ∈ Region.ready .any ops.toArray done := by simpa using hp.1.1
        obtain ⟨h0, _⟩ := mem_ready.1 hr
        refine ⟨List.nodup_cons.2 ⟨fun hm => ?_, hn⟩, fun k hk => ?_⟩
        · have := hd i hm
          rcases Nat.lt_or_ge i done.size with h' | h'
          · rw [getD_set_self h'] at this; cases this
          · simp [Array.getElem?_eq_none h'] at h0
        · rcases List.mem_cons.1 hk with rfl | hk
          · exact h0
          · by_cases hik : i = k
            · subst hik; exact h0
            · have := hd k hk
              rwa [getD_set_ne true hik] at this
    have := nodup_sub_len (plan ++ p2) (List.range ops.length) (key _ _ h3).1 (fun i hi => List.mem_range.2 (hlt i hi))
    simpa using this
  · exact ⟨by simp, fun i d => by simp, by simp, by simp, List.nodup_nil, List.nodup_nil⟩
  · intro i hi _
    have := List.all_eq_true.1 h4 i (List.mem_range.2 hi)
    simpa using this
  · exact St.drew hs

section
variable {P : Program} {tb : Tabs P} {n : Nat} {all : Array Oper} {late : List Nat} {Lc Lc2 : List Blk} {K : TPost} {op : Op} {ty : TypeId} {pos : String} {after : Array Edge} {rest : List Oper} {t : Nat → Value} {L L' : List Blk} {R R' : List Sl} {d : Tmp} {v : Value} {g : Option (Nat × Bool)} {T : TypeId} {x y : Operand}

/-- from the first phase to the second -/
theorem DJ3_phase {Q : TPost} {os2 : List Oper} (h : DJ P tb n all Lc2 Q os2 t L R) : DJ3 P tb n all late Lc Lc2 (fun _ t L R => DJ P tb n all Lc2 Q os2 t L R) [] t L R := h

theorem DJ3_q (hv : YV P ⟨some d, op, ty, pos, after, g⟩ (ev t) Lc R v) (hl : late.contains d = false) (hk : okind op = 0) (hg : wantT all t g = true) (hd : Nat.blt d n = true) (h : DJ3 P tb n all late Lc Lc2 K rest (upd t d v) L R) : DJ3 P tb n all late Lc Lc2 K (⟨some d, op, ty, pos, after, g⟩ :: rest) t L R :=
  ⟨hd, .inr (.inl ⟨hg, hk, v, by simp only [lcOf]; rw [hl]; exact hv, h⟩)⟩
theorem DJ3_ql (hv : YV P ⟨some d, op, ty, pos, after, g⟩ (ev t) Lc2 R v) (hl : late.contains d = true) (hk : okind op = 0) (hg : wantT all t g = true) (hd : Nat.blt d n = true) (h : DJ3 P tb n all late Lc Lc2 K rest (upd t d v) L R) : DJ3 P tb n all late Lc Lc2 K (⟨some d, op, ty, pos, after, g⟩ :: rest) t L R :=
  ⟨hd, .inr (.inl ⟨hg, hk, v, by simp only [lcOf]; rw [hl]; exact hv, h⟩)⟩
theorem DJ3_skip (hk : Nat.beq (okind op) 1 = false) (hg : wantT all t g = false) (hd : Nat.blt d n = true) (h : DJ3 P tb n all late Lc Lc2 K rest (upd t d undef) L R) : DJ3 P tb n all late Lc Lc2 K (⟨some d, op, ty, pos, after, g⟩ :: rest) t L R :=
  ⟨hd, .inl ⟨hg, fun e => by simp [e] at hk, h⟩⟩

theorem DJ3_alloc {k m fl bt z} (hT : getT tb.tab T = some ⟨k, m, fl, bt, z⟩) (hd : Nat.blt d n = true)
    (h : ∀ b, DJ3 P tb n all late Lc Lc2 K rest (upd t d (.pointer (some ⟨b, 0, none⟩))) (⟨b, z, T⟩ :: L) R) : DJ3 P tb n all late Lc Lc2 K (⟨some d, .alloc T, ty, pos, after, none⟩ :: rest) t L R :=
  ⟨hd, .inr (.inr (.inl ⟨rfl, T, rfl, fun b => by
    have := h b
    have e : zT tb T = z := by simp [zT, hT]
    rw [e]
    exact this⟩))⟩

theorem DJ3_g {Post : VPost} (hg : Gives P ⟨some d, op, ty, pos, after, g⟩ (ev t) L R Post) (hk : okind op = 2) (hw : wantT all t g = true) (hd : Nat.blt d n = true)
    (h : ∀ v L' R', Post v L' R' → Lc.Sublist L' ∧ (∀ r ∈ R, InR r R') ∧ DJ3 P tb n all late Lc Lc2 K rest (upd t d v) L' R') : DJ3 P tb n all late Lc Lc2 K (⟨some d, op, ty, pos, after, g⟩ :: rest) t L R :=
  ⟨hd, .inr (.inr (.inr ⟨hw, hk, Post, hg, h⟩))⟩

theorem DJ3_g0 {Post : VPost} (hg : Gives P ⟨none, op, ty, pos, after, g⟩ (ev t) L R Post) (hk : okind op = 2) (hw : wantT all t g = true)
    (h : ∀ v L' R', Post v L' R' → Lc.Sublist L' ∧ (∀ r ∈ R, InR r R') ∧ DJ3 P tb n all late Lc Lc2 K rest t L' R') : DJ3 P tb n all late Lc Lc2 K (⟨none, op, ty, pos, after, g⟩ :: rest) t L R :=
  ⟨rfl, .inr (.inr (.inr ⟨hw, hk, Post, hg, fun v L' R' hp => h v L' R' hp⟩))⟩

theorem DJ3_call {f : FuncId} {xs : List Operand} {ts : Array TypeId} {args : List Value} {Post : VPost} (ha : xs.map (ev t) = args) (h : Tri P f args.toArray L R Post) (hw : wantT all t g = true) (hd : Nat.blt d n = true)
    (k : ∀ v L' R', Post v L' R' → Lc.Sublist L' ∧ (∀ r ∈ R, InR r R') ∧ DJ3 P tb n all late Lc Lc2 K rest (upd t d v) L' R') : DJ3 P tb n all late Lc Lc2 K (⟨some d, .call ⟨.value (.func f), xs.toArray, ts⟩, ty, pos, after, g⟩ :: rest) t L R :=
  DJ3_g (gives_call (by rw [List.map_toArray, ha]) rfl h) rfl hw hd k

theorem DJ3_box1 {v : Value} (hx : ev t x = v) (h1 : v.oneCell' = true) (hLc : Lc.Sublist L) (hd : Nat.blt d n = true)
    (h : ∀ b, DJ3 P tb n all late Lc Lc2 K rest (upd t d (.pointer (some ⟨b, 0, none⟩))) (⟨b, [v], T⟩ :: L) R) : DJ3 P tb n all late Lc Lc2 K (⟨some d, .box T x, ty, pos, after, none⟩ :: rest) t L R :=
  DJ3_g (gives_box1 hx h1) rfl rfl hd fun v L' R' ⟨b, e1, e2, e3⟩ => by subst e1; subst e2; subst e3; exact ⟨hLc.cons _, allR_self _, h b⟩

theorem DJ3_boxN {row : List Value} (hx : ev t x = .agg row.toArray) (hLc : Lc.Sublist L) (hd : Nat.blt d n = true)
    (h : ∀ b, DJ3 P tb n all late Lc Lc2 K rest (upd t d (.pointer (some ⟨b, 0, none⟩))) (⟨b, row, T⟩ :: L) R) : DJ3 P tb n all late Lc Lc2 K (⟨some d, .box T x, ty, pos, after, none⟩ :: rest) t L R :=
  DJ3_g (gives_boxN hx) rfl rfl hd fun v L' R' ⟨b, e1, e2, e3⟩ => by subst e1; subst e2; subst e3; exact ⟨hLc.cons _, allR_self _, h b⟩

theorem DJ3_store1 {k m fl bt z b o} {cs cs' : List Value} {v : Value} {T' : TypeId} (hT : getT tb.tab T = some ⟨k, m, fl, bt, z⟩) (hx : ev t x = .pointer (some ⟨b, o, none⟩)) (hy : ev t y = v) (hn : m = 1)
    (hu : Upd1 b cs T' cs' L L') (hfit : Nat.blt o cs.length = true) (hcs : cs.set o v = cs') (h1 : v.oneCell' = true) (hLc : Lc.Sublist L')
    (h : DJ3 P tb n all late Lc Lc2 K rest t L' R) : DJ3 P tb n all late Lc Lc2 K (⟨none, .store T x y, ty, pos, after, none⟩ :: rest) t L R :=
  DJ3_g0 (gives_store1 tb hT hx hy hn hu hfit hcs h1) rfl rfl fun _ L'' R' ⟨e1, e2⟩ => by subst e1; subst e2; exact ⟨hLc, allR_self _, h⟩

theorem DJ3_storeN {k m fl bt z b o} {cs vs cs' : List Value} {T' : TypeId} (hT : getT tb.tab T = some ⟨k, m, fl, bt, z⟩) (hx : ev t x = .pointer (some ⟨b, o, none⟩)) (hy : ev t y = .agg vs.toArray) (hn : vs.length = m)
    (hu : Upd1 b cs T' cs' L L') (hfit : Nat.ble (o + vs.length) cs.length = true) (hcs : cs.take o ++ vs ++ cs.drop (o + vs.length) = cs') (h1 : vs.all (·.oneCell') = true) (hLc : Lc.Sublist L')
    (h : DJ3 P tb n all late Lc Lc2 K rest t L' R) : DJ3 P tb n all late Lc Lc2 K (⟨none, .store T x y, ty, pos, after, none⟩ :: rest) t L R :=
  DJ3_g0 (gives_storeN tb hT hx hy hn hu hfit hcs h1) rfl rfl fun _ L'' R' ⟨e1, e2⟩ => by subst e1; subst e2; exact ⟨hLc, allR_self _, h⟩

theorem DJ3_storeW {k m fl bt z b} {cs vs : List Value} {T' : TypeId} (hT : getT tb.tab T = some ⟨k, m, fl, bt, z⟩) (hx : ev t x = .pointer (some ⟨b, 0, none⟩)) (hy : ev t y = .agg vs.toArray) (hn : vs.length = m)
    (hu : Upd1 b cs T' vs L L') (hfit : vs.length = cs.length) (h1 : vs.all (·.oneCell') = true) (hLc : Lc.Sublist L')
    (h : DJ3 P tb n all late Lc Lc2 K rest t L' R) : DJ3 P tb n all late Lc Lc2 K (⟨none, .store T x y, ty, pos, after, none⟩ :: rest) t L R :=
  DJ3_storeN hT hx hy hn hu (by simp [hfit]) (by simp [hfit]) h1 hLc h

/-- a Bool in a slot, both ways -/
theorem DJ3_case {os : List Oper} {k : Nat} {b : Bool} (hb : t k = .bool b) (h1 : b = true → DJ3 P tb n all late Lc Lc2 K os (upd t k (.bool true)) L R) (h2 : b = false → DJ3 P tb n all late Lc Lc2 K os (upd t k (.bool false)) L R) : DJ3 P tb n all late Lc Lc2 K os t L R := by
  cases b with
  | true => have := h1 rfl; rwa [upd_same hb] at this
  | false => have := h2 rfl; rwa [upd_same hb] at this
end

/-- a call that knows of a part of the blocks alone -/
theorem Tri.at {P f args X L R F} {Post : VPost} (hseg : Seg X L F) (h : Tri P f args X R Post) : Tri P f args L R (fun v L'' R' => ∃ L', L'' = F L' ∧ Post v L' R') := by
  obtain ⟨A, B, hL, hF⟩ := hseg.split
  refine ⟨h.1, fun w G hh => ?_⟩
  subst hL
  have hp : (A ++ X ++ B).Perm ((A ++ B) ++ X) := by
    rw [List.append_assoc, List.append_assoc]
    exact List.Perm.append_left _ List.perm_append_comm
  have hh' : Holds ((A ++ B) ++ X) G R w := ⟨(hp.map _).nodup_iff.1 hh.nd, fun e he => hh.own e (hp.mem_iff.2 he), fun e he => hh.ng e (hp.mem_iff.2 he), hh.gs, hh.rep⟩
  have hX : Holds X G R w := ⟨(List.nodup_append.1 (by have := hh'.nd; rwa [List.map_append] at this)).2.1, fun e he => hh'.own e (List.mem_append_right _ he), fun e he => hh'.ng e (List.mem_append_right _ he), hh'.gs, hh'.rep⟩
  refine (h.2 w G hX).mono fun e w' ⟨v, L', R', he, hpost, hst⟩ => ⟨v, F L', R', he, ⟨L', rfl, hpost⟩, ?_⟩
  have h1 := St.frame hh' hst
  rw [hF]
  have hp2 : ((A ++ B) ++ L').Perm (A ++ L' ++ B) := by
    rw [List.append_assoc, List.append_assoc]
    exact List.Perm.append_left _ List.perm_append_comm
  have h2 := h1.perm hp2
  refine ⟨?_, ?_, ?_⟩
  · obtain ⟨G', hG', hg⟩ := h2.G
    refine ⟨G', hG', fun b hb => ?_⟩
    rcases hg b hb with h | h | ⟨e, he, hb'⟩
    · exact .inl h
    · exact .inr (.inl h)
    · exact .inr (.inr ⟨e, hp.mem_iff.2 he, hb'⟩)
  · intro e he
    rcases h2.own e he with ⟨e', he', hb'⟩ | h
    · exact .inl ⟨e', hp.mem_iff.2 he', hb'⟩
    · exact .inr h
  · have k := h2.keep
    refine ⟨k.os, k.tape, k.output, k.size, fun b hb hn => k.block b hb fun ⟨e, he, hb'⟩ => hn ⟨e, hp.mem_iff.2 he, hb'⟩, k.frz⟩

/-- one more read-only slice that the others give -/
theorem CJ_addR {P n code t L R} {Q : TPost} {s : Sl} (hs : ∀ w G, (∀ r ∈ R, Rep w G r) → Rep w G s) (h : CJ P n code t L (s :: R) Q) : CJ P n code t L R Q := by
  intro c a w hf hst
  refine h c a w hf ?_
  obtain ⟨⟨G, hh, hg⟩, ho, hk⟩ := hst
  refine ⟨⟨G, ⟨hh.nd, hh.own, hh.ng, hh.gs, fun r hr => ?_⟩, hg⟩, ho, hk⟩
  rcases List.mem_cons.1 hr with rfl | hr
  · exact hs w G hh.rep
  · exact hh.rep r hr

/-- one block's place in a list -/
inductive USeg (b : Nat) (cs : List Value) (T : TypeId) : List Blk → (List Value → List Blk) → Prop
  | here {L} : USeg b cs T (⟨b, cs, T⟩ :: L) (fun cs' => ⟨b, cs', T⟩ :: L)
  | cons {x L f} (h : USeg b cs T L f) : USeg b cs T (x :: L) (fun cs' => x :: f cs')
  | app {X L f} (h : USeg b cs T L f) : USeg b cs T (X ++ L) (fun cs' => X ++ f cs')

theorem USeg.split {b cs T L f} (h : USeg b cs T L f) : ∃ A B, L = A ++ ([⟨b, cs, T⟩] ++ B) ∧ ∀ cs', f cs' = A ++ ([⟨b, cs', T⟩] ++ B) := by
  induction h with
  | @here L => exact ⟨[], L, rfl, fun _ => rfl⟩
  | @cons x L f _ ih => obtain ⟨A, B, h1, h2⟩ := ih; exact ⟨x :: A, B, by simp [h1], fun cs' => by simp [h2]⟩
  | @app X L f _ ih => obtain ⟨A, B, h1, h2⟩ := ih; exact ⟨X ++ A, B, by simp [h1], fun cs' => by simp [h2]⟩

/-- a call that knows of one block alone -/
theorem Tri.at1 {P f args b cs T L F R} {Post : VPost} {Post' : Value → List Value → List Sl → Prop} (hseg : USeg b cs T L F) (h : Tri P f args [⟨b, cs, T⟩] R Post) (hp : ∀ v L' R', Post v L' R' → ∃ cs', [⟨b, cs', T⟩] = L' ∧ Post' v cs' R') :
    Tri P f args L R (fun v L'' R' => ∃ cs', F cs' = L'' ∧ Post' v cs' R') := by
  obtain ⟨A, B, hL, hF⟩ := hseg.split
  subst hL
  refine (Tri.at (.app .here) h).mono ?_
  rintro v L'' R' ⟨L', rfl, hpost⟩
  obtain ⟨cs', rfl, h'⟩ := hp v L' R' hpost
  exact ⟨cs', hF cs', h'⟩

end Go.Aw
