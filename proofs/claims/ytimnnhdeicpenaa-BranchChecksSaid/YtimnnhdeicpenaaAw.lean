/-
  Assertion-level walks: a program logic over the model's own 'wp', for code whose memory is read-only rows and blocks of the call's own. No program is named here. By an AI agent; no person has read it.
-/
import Derived.WalkKit
import Derived.Orders
set_option linter.unusedSimpArgs false
set_option linter.unusedVariables false
namespace Go.Aw
open Go

/-! ### Assertions -/

/-- a block that is known whole -/
structure Blk where
  b : Nat
  cs : List Value
  T : TypeId

/-- rows of memory that nobody writes: a slice's header, its rows, and the slices inside its rows -/
inductive Sl where
  | mk (wd : Nat) (a : Option Addr) (len cap : Nat) (rows : List (List Value)) (subs : List Sl)

def Sl.val : Sl → Value
  | .mk _ a len cap _ _ => .slice a len cap

def adB (a : Option Addr) : Nat := match a with | some x => x.block | none => 0
def adO (a : Option Addr) : Nat := match a with | some x => x.off | none => 0
/-- the place of part j of row i -/
def eo (a : Option Addr) (wd i j : Nat) : Nat := adO a + i * wd + j

inductive Rep (w : World) (G : Nat → Prop) : Sl → Prop
  | mk {wd a len cap rows subs} (hl : rows.length = len) (hc : len ≤ cap) (hm : cap < 9223372036854775808) (hw : ∀ r ∈ rows, r.length = wd)
      (hr : rows = [] ∨ ∃ b off, a = some ⟨b, off, none⟩ ∧ G b ∧ ∀ i j, i < len → j < wd → w.cell? ⟨b, off + i * wd + j, none⟩ = (rows[i]?).bind (·[j]?))
      (hs : ∀ s ∈ subs, Rep w G s) : Rep w G (.mk wd a len cap rows subs)

/-- s is r, or lies inside it -/
inductive Sub (s : Sl) : Sl → Prop
  | here : Sub s s
  | deep {wd a len cap rows subs x} (h : x ∈ subs) (k : Sub s x) : Sub s (.mk wd a len cap rows subs)

def InR (s : Sl) (R : List Sl) : Prop := ∃ r ∈ R, Sub s r

theorem Rep.mono {w w' : World} {G G' : Nat → Prop} (hG : ∀ b, G b → G' b) (hw : ∀ b, G b → w'.heap[b]? = w.heap[b]?) {s : Sl} (h : Rep w G s) : Rep w' G' s := by
  induction h with
  | mk hl hc hm hw2 hr hs ih =>
    refine .mk hl hc hm hw2 ?_ ih
    rcases hr with h | ⟨b, off, ha, hb, hcell⟩
    · exact .inl h
    · refine .inr ⟨b, off, ha, hG b hb, fun i j hi hj => ?_⟩
      rw [← hcell i j hi hj]
      exact World.cell?_of_block (w := w) (hw b hb)

theorem Rep.sub {w : World} {G : Nat → Prop} {s r : Sl} (h : Rep w G r) (k : Sub s r) : Rep w G s := by
  induction k with
  | here => exact h
  | deep hx _ ih => cases h with | mk _ _ _ _ _ hs => exact ih (hs _ hx)

structure Holds (L : List Blk) (G : Nat → Prop) (R : List Sl) (w : World) : Prop where
  nd : (L.map (·.b)).Nodup
  own : ∀ e ∈ L, w.heap[e.b]? = some (.cells e.cs.toArray e.T (0, 0))
  ng : ∀ e ∈ L, ¬ G e.b
  gs : ∀ b, G b → b < w.heap.size
  rep : ∀ r ∈ R, Rep w G r

structure Ctx where
  w0 : World
  own0 : Nat → Prop
  G0 : Nat → Prop

structure Keep (c : Ctx) (w : World) : Prop where
  os : w.os = c.w0.os
  tape : w.tape = c.w0.tape
  output : w.output = c.w0.output
  size : c.w0.heap.size ≤ w.heap.size
  block : ∀ b, b < c.w0.heap.size → ¬ c.own0 b → w.heap[b]? = c.w0.heap[b]?
  frz : ∀ a, w.frozen? a = c.w0.frozen? a

structure St (c : Ctx) (L : List Blk) (R : List Sl) (w : World) : Prop where
  G : ∃ G, Holds L G R w ∧ ∀ b, G b → c.G0 b ∨ c.w0.heap.size ≤ b ∨ c.own0 b
  own : ∀ e ∈ L, c.own0 e.b ∨ c.w0.heap.size ≤ e.b
  keep : Keep c w

def inL (L : List Blk) (b : Nat) : Prop := ∃ e ∈ L, e.b = b

theorem St.init {L : List Blk} {G : Nat → Prop} {R : List Sl} {w : World} (h : Holds L G R w) : St ⟨w, inL L, G⟩ L R w :=
  ⟨⟨G, h, fun _ hb => .inl hb⟩, fun e he => .inl ⟨e, he, rfl⟩, ⟨rfl, rfl, rfl, Nat.le_refl _, fun _ _ _ => rfl, fun _ => rfl⟩⟩

theorem Holds.lt {L G R w} (h : Holds L G R w) {e : Blk} (he : e ∈ L) : e.b < w.heap.size := by
  have := h.own e he
  rcases Nat.lt_or_ge e.b w.heap.size with h' | h'
  · exact h'
  · simp [Array.getElem?_eq_none h'] at this

/-- one call, seen from the caller -/
theorem St.trans {c : Ctx} {L L' : List Blk} {R R' : List Sl} {G : Nat → Prop} {w w' : World} (h : St c L R w)
    (hG : ∀ b, G b → c.G0 b ∨ c.w0.heap.size ≤ b ∨ c.own0 b) (k : St ⟨w, inL L, G⟩ L' R' w') : St c L' R' w' := by
  obtain ⟨⟨G', hh, hg⟩, ho, hk⟩ := k
  have inl : ∀ b, inL L b → c.own0 b ∨ c.w0.heap.size ≤ b := fun b ⟨e, he, hb⟩ => hb ▸ h.own e he
  have hsz := h.keep.size
  refine ⟨⟨G', hh, fun b hb => ?_⟩, fun e he => ?_, ⟨hk.os.trans h.keep.os, hk.tape.trans h.keep.tape, hk.output.trans h.keep.output, Nat.le_trans hsz hk.size, fun b hb hn => ?_, fun a => (hk.frz a).trans (h.keep.frz a)⟩⟩
  · rcases hg b hb with h1 | h1 | h1
    · exact hG b h1
    · exact .inr (.inl (Nat.le_trans hsz h1))
    · rcases inl b h1 with h2 | h2
      · exact .inr (.inr h2)
      · exact .inr (.inl h2)
  · rcases ho e he with h1 | h1
    · exact inl _ h1
    · exact .inr (Nat.le_trans hsz h1)
  · rw [hk.block b (Nat.lt_of_lt_of_le hb hsz) (fun hi => ?_), h.keep.block b hb hn]
    rcases inl b hi with h2 | h2
    · exact hn h2
    · exact absurd h2 (Nat.not_le.2 hb)

/-- fewer facts -/
theorem St.weak {c : Ctx} {L L' : List Blk} {R R' : List Sl} {w : World} (h : St c L R w) (hL : L'.Sublist L) (hR : ∀ r ∈ R', InR r R) : St c L' R' w := by
  obtain ⟨⟨G, hh, hg⟩, ho, hk⟩ := h
  refine ⟨⟨G, ⟨hh.nd.sublist (hL.map _), fun e he => hh.own e (hL.subset he), fun e he => hh.ng e (hL.subset he), hh.gs, fun r hr => ?_⟩, hg⟩, fun e he => ho e (hL.subset he), hk⟩
  obtain ⟨r', hr', hs⟩ := hR r hr
  exact (hh.rep r' hr').sub hs

/-! ### Frames -/

def ev (t : Nat → Value) : Operand → Value
  | .tmp k => t k
  | .const v => v
  | .global g => .pointer (some ⟨g, 0, none⟩)
  | .func f => .func (.func f) #[] #[]

theorem beqF {k d : Nat} (h : ¬ k = d) : Nat.beq k d = false := by
  cases hb : Nat.beq k d with
  | false => rfl
  | true => exact absurd (Nat.eq_of_beq_eq_true hb) h

def upd (t : Nat → Value) (d : Nat) (v : Value) : Nat → Value := fun k => bif Nat.beq k d then v else t k
def updo (t : Nat → Value) (d : Option Tmp) (v : Value) : Nat → Value :=
  match d with
  | some d => upd t d v
  | none => t

def dOk (n : Nat) (d : Option Tmp) : Bool :=
  match d with
  | some d => Nat.blt d n
  | none => true

structure Fr (n : Nat) (t : Nat → Value) (a : Act) : Prop where
  defers : a.defers = []
  size : a.tmps.size = n
  val : ∀ k, a.tmps.getD k undef = t k

theorem Fr.eval {n t a} (h : Fr n t a) : a.eval = ev t := by
  funext x
  cases x with
  | tmp k => exact h.val k
  | _ => rfl

theorem Fr.put {n t a} (h : Fr n t a) {d : Option Tmp} (hd : dOk n d = true) (v : Value) : Fr n (updo t d v) (a.put d v) := by
  cases d with
  | none => exact h
  | some d =>
    have hlt : d < n := by simpa [dOk] using hd
    refine ⟨h.defers, by simp [Act.put, h.size], fun k => ?_⟩
    have hv := h.val k
    simp only [Act.put, updo, upd]
    by_cases hk : k = d
    · subst hk
      have : k < a.tmps.size := by rw [h.size]; exact hlt
      simp [this]
    · have : Nat.beq k d = false := beqF hk
      rw [this, cond_false, ← hv]
      simp [Array.getElem?_setIfInBounds_ne (Ne.symm hk)]

def yieldT (all : Array Oper) (t : Nat → Value) (j : Nat) : Option Bool :=
  match (all[j]?).bind (·.dst) with
  | some d => match t d with
    | .bool b => some b
    | _ => none
  | none => none

def wantT (all : Array Oper) (t : Nat → Value) (g : Option (Nat × Bool)) : Bool :=
  match g with
  | none => true
  | some (j, want) => yieldT all t j == some want

theorem Fr.wanted {n t a} (h : Fr n t a) (all : Array Oper) (o : Oper) : Region.wanted o (yielded all a.tmps) = wantT all t o.guard := by
  unfold Region.wanted wantT
  cases hg : o.guard with
  | none => rfl
  | some p =>
    obtain ⟨j, want⟩ := p
    have : yielded all a.tmps j = yieldT all t j := by
      unfold yielded yieldT
      cases hd : (all[j]?).bind (·.dst) with
      | none => rfl
      | some d =>
        have hv := h.val d
        simp only [Option.bind_some]
        rcases Nat.lt_or_ge d a.tmps.size with h' | h'
        · have e : a.tmps[d]? = some (t d) := by rw [← hv]; simp [h']
          rw [e]
          cases t d <;> rfl
        · have e : a.tmps[d]? = none := Array.getElem?_eq_none h'
          have e2 : t d = undef := by rw [← hv]; simp [e]
          rw [e, e2]
          rfl
    simp only [this]

/-! ### Judgements -/

abbrev TPost := Exit → (Nat → Value) → List Blk → List Sl → Prop

/-- no way out by a panic -/
def NP : Exit → Prop
  | .panic _ => False
  | _ => True

def liftK (n : Nat) (c : Ctx) (K : TPost) : Exit → Act → World → Prop :=
  fun e a w => NP e ∧ ∃ t L R, K e t L R ∧ Fr n t a ∧ St c L R w

def CJ (P : Program) (n : Nat) (code : Code) (t : Nat → Value) (L : List Blk) (R : List Sl) (Q : TPost) : Prop :=
  ∀ c a w, Fr n t a → St c L R w → code.wp P (liftK n c Q) a w

def LJ (P : Program) (n : Nat) (all : Array Oper) (ops : List Oper) (t : Nat → Value) (L : List Blk) (R : List Sl) (Q : TPost) : Prop :=
  ∀ c a w, Fr n t a → St c L R w → wpList P all (liftK n c Q) ops a w

abbrev VPost := Value → List Blk → List Sl → Prop

/-- a call of function f: from every world in which the assertion holds -/
def Tri (P : Program) (f : FuncId) (args : Array Value) (L : List Blk) (R : List Sl) (Post : VPost) : Prop :=
  (∀ (xs : Array Value) (w : World), (callFunc f xs).run P w = .ok (.enter f xs) w) ∧
  ∀ (w : World) (G : Nat → Prop), Holds L G R w → Calls P f args w fun e w' => ∃ v L' R', e = .returned v ∧ Post v L' R' ∧ St ⟨w, inL L, G⟩ L' R' w'

theorem Tri.mono {P f args L R} {Post Post' : VPost} (h : Tri P f args L R Post) (k : ∀ v L' R', Post v L' R' → Post' v L' R') : Tri P f args L R Post' :=
  ⟨h.1, fun w G hh => (h.2 w G hh).mono fun _ _ ⟨v, L', R', e, p, s⟩ => ⟨v, L', R', e, k _ _ _ p, s⟩⟩

/-- one operation -/
def Gives (P : Program) (op : Oper) (ρ : Operand → Value) (L : List Blk) (R : List Sl) (Post : VPost) : Prop :=
  ∀ (c : Ctx) (w : World), St c L R w → ∀ (a : Act) (next : Act → World → Prop) (Q : Exit → Act → World → Prop),
    (∀ v L' R' w', Post v L' R' → St c L' R' w' → next (a.put op.dst v) w') → op.upon P a next Q ((execOp ρ op).run P w)

/-- one operation that leaves the world alone -/
def YV (P : Program) (op : Oper) (ρ : Operand → Value) (L : List Blk) (R : List Sl) (v : Value) : Prop :=
  ∀ (c : Ctx) (w : World), St c L R w → (execOp ρ op).run P w = .ok (.value v) w

theorem YV.gives {P op ρ L R v} (h : YV P op ρ L R v) : Gives P op ρ L R (fun v' L' R' => v' = v ∧ L' = L ∧ R' = R) := by
  intro c w hs a next Q k
  rw [h c w hs]
  exact k v L R w ⟨rfl, rfl, rfl⟩ hs

theorem LJ_nil {P n all t L R} {Q : TPost} (h : Q .normal t L R) : LJ P n all [] t L R Q :=
  fun _ _ _ hf hs => ⟨trivial, t, L, R, h, hf, hs⟩

theorem LJ_gives {P n all o rest t L R} {Q : TPost} {Post : VPost} (hg : Gives P o (ev t) L R Post) (hw : wantT all t o.guard = true) (hd : dOk n o.dst = true)
    (h : ∀ v L' R', Post v L' R' → LJ P n all rest (updo t o.dst v) L' R' Q) : LJ P n all (o :: rest) t L R Q := by
  intro c a w hf hs
  unfold wpList
  rw [hf.wanted, hw, if_pos rfl]
  refine .inl ?_
  unfold Oper.wp
  rw [hf.eval]
  exact hg c w hs a _ _ fun v L' R' w' hp hs' => h v L' R' hp c _ w' (hf.put hd v) hs'

theorem LJ_quiet {P n all o rest t L R} {Q : TPost} {v : Value} (hv : YV P o (ev t) L R v) (hw : wantT all t o.guard = true) (hd : dOk n o.dst = true)
    (h : LJ P n all rest (updo t o.dst v) L R Q) : LJ P n all (o :: rest) t L R Q :=
  LJ_gives hv.gives hw hd fun _ _ _ ⟨e1, e2, e3⟩ => by subst e1; subst e2; subst e3; exact h

theorem LJ_skip {P n all o rest t L R} {Q : TPost} (hw : wantT all t o.guard = false) (hd : dOk n o.dst = true)
    (h : LJ P n all rest (updo t o.dst undef) L R Q) : LJ P n all (o :: rest) t L R Q := by
  intro c a w hf hs
  unfold wpList
  rw [hf.wanted, hw, if_neg (by simp)]
  exact h c _ w (hf.put hd _) hs

/-- a call of a Go function -/
theorem gives_call {P dst f xs ts pos after guard ty ρ L R args} {Post : VPost} (ha : xs.map ρ = args) (hρ : ρ (.func f) = .func (.func f) #[] #[])
    (h : Tri P f args L R Post) : Gives P ⟨dst, .call ⟨.value (.func f), xs, ts⟩, ty, pos, after, guard⟩ ρ L R Post := by
  intro x w hs a next Q k
  have hrun : (execOp ρ ⟨dst, .call ⟨.value (.func f), xs, ts⟩, ty, pos, after, guard⟩).run P w = .ok (.enter f args) w := by
    have h1 := h.1 args w
    simp only [execOp, resolve, ha, hρ, Deferred.ofValue]
    simpa [invoke] using h1
  rw [hrun]
  obtain ⟨⟨G, hh, hg⟩, ho, hk⟩ := hs
  refine (h.2 w G hh).mono ?_
  rintro e w' ⟨v, L', R', rfl, hp, hst⟩
  exact k v L' R' w' hp (St.trans ⟨⟨G, hh, hg⟩, ho, hk⟩ hg hst)

/-! ### Code -/

theorem CJ_region {P n id ops t L R} {Q : TPost} (h : LJ P n ops.toArray ops t L R Q) : CJ P n (.region id ops.toArray false) t L R Q :=
  fun c a w hf hs => wp_region_lit (h c a w hf hs)

def seqK (P : Program) (n : Nat) (y : Code) (Q : TPost) : TPost
  | .normal, t, L, R => CJ P n y t L R Q
  | e, t, L, R => Q e t L R

theorem CJ_seq {P n x y t L R} {Q : TPost} (h : CJ P n x t L R (seqK P n y Q)) : CJ P n (.seq x y) t L R Q := by
  intro c a w hf hs
  refine wp_seq (wp_mono (h c a w hf hs) ?_)
  rintro e a w ⟨hnp, t', L', R', hq, hf', hs'⟩
  cases e with
  | normal => exact hq c a w hf' hs'
  | _ => exact ⟨hnp, t', L', R', hq, hf', hs'⟩

theorem seqK_normal {P n y t L R} {Q : TPost} (h : CJ P n y t L R Q) : seqK P n y Q .normal t L R := h
theorem seqK_ret {P n y t L R} {Q : TPost} (h : Q .ret t L R) : seqK P n y Q .ret t L R := h
theorem seqK_exit {P n y id t L R} {Q : TPost} (h : Q (.exit id) t L R) : seqK P n y Q (.exit id) t L R := h

theorem CJ_skip {P n t L R} {Q : TPost} (h : Q .normal t L R) : CJ P n .skip t L R Q :=
  fun _ _ _ hf hs => wp_skip ⟨trivial, t, L, R, h, hf, hs⟩
theorem CJ_ret {P n t L R} {Q : TPost} (h : Q .ret t L R) : CJ P n .ret t L R Q :=
  fun _ _ _ hf hs => wp_ret ⟨trivial, t, L, R, h, hf, hs⟩
theorem CJ_exit {P n id t L R} {Q : TPost} (h : Q (.exit id) t L R) : CJ P n (.exit id) t L R Q :=
  fun _ _ _ hf hs => wp_exit ⟨trivial, t, L, R, h, hf, hs⟩

theorem CJ_cond {P n x A B t L R} {Q : TPost} {b : Bool} (hc : ev t x = .bool b) (ht : b = true → CJ P n A t L R Q) (hf : b = false → CJ P n B t L R Q) :
    CJ P n (.cond x A B) t L R Q :=
  fun c a w hfr hs => wp_cond_split (by rw [hfr.eval]; exact hc) (fun e => ht e c a w hfr hs) (fun e => hf e c a w hfr hs)
theorem CJ_cond_dec {P n x A B t L R} {Q : TPost} {p : Prop} {inst : Decidable p} (hc : ev t x = .bool (@decide p inst)) (ht : p → CJ P n A t L R Q) (hf : ¬ p → CJ P n B t L R Q) :
    CJ P n (.cond x A B) t L R Q :=
  CJ_cond hc (fun e => ht (of_decide_eq_true e)) (fun e => hf (of_decide_eq_false e))
theorem CJ_cond_true {P n x A B t L R} {Q : TPost} (hc : ev t x = .bool true) (ht : CJ P n A t L R Q) : CJ P n (.cond x A B) t L R Q :=
  CJ_cond hc (fun _ => ht) (fun e => by cases e)
theorem CJ_cond_false {P n x A B t L R} {Q : TPost} (hc : ev t x = .bool false) (hf : CJ P n B t L R Q) : CJ P n (.cond x A B) t L R Q :=
  CJ_cond hc (fun e => by cases e) (fun _ => hf)

def blockK (id : Nat) (Q : TPost) : TPost
  | .exit k, t, L, R => bif Nat.beq k id then Q .normal t L R else Q (.exit k) t L R
  | e, t, L, R => Q e t L R

theorem CJ_block {P n id x t L R} {Q : TPost} (h : CJ P n x t L R (blockK id Q)) : CJ P n (.block id x) t L R Q := by
  intro c a w hf hs
  refine wp_block (wp_mono (h c a w hf hs) ?_)
  rintro e a w ⟨hnp, t', L', R', hq, hf', hs'⟩
  cases e with
  | exit k =>
    simp only [Exit.inBlock]
    by_cases hk : k = id
    · subst hk
      have : Nat.beq k k = true := by simp
      simp only [blockK, this, cond_true] at hq
      rw [if_pos rfl]
      exact ⟨trivial, t', L', R', hq, hf', hs'⟩
    · have : Nat.beq k id = false := beqF hk
      simp only [blockK, this, cond_false] at hq
      rw [if_neg hk]
      exact ⟨trivial, t', L', R', hq, hf', hs'⟩
  | _ => exact ⟨hnp, t', L', R', hq, hf', hs'⟩

theorem blockK_normal {id t L R} {Q : TPost} (h : Q .normal t L R) : blockK id Q .normal t L R := h
theorem blockK_ret {id t L R} {Q : TPost} (h : Q .ret t L R) : blockK id Q .ret t L R := h
theorem blockK_exit {id t L R} {Q : TPost} (h : Q .normal t L R) : blockK id Q (.exit id) t L R := by
  have : Nat.beq id id = true := by simp
  simp only [blockK, this, cond_true]
  exact h
theorem blockK_other {id k t L R} {Q : TPost} (hk : Nat.beq k id = false) (h : Q (.exit k) t L R) : blockK id Q (.exit k) t L R := by
  simp only [blockK, hk, cond_false]
  exact h

/-! ### Loops -/

def memN (k : Nat) : List Nat → Bool
  | [] => false
  | x :: l => bif Nat.beq k x then true else memN k l
/-- the slots in 'ws' hold anything -/
def havoc (ws : List Nat) (t junk : Nat → Value) : Nat → Value := fun k => bif memN k ws then junk k else t k
def updL (t : Nat → Value) : List (Nat × Value) → Nat → Value
  | [] => t
  | (d, v) :: l => upd (updL t l) d v

/-- outside of ws the two frames are one -/
def Off (ws : List Nat) (t t' : Nat → Value) : Prop := ∀ k, memN k ws = false → t' k = t k
theorem Off.refl {ws t} : Off ws t t := fun _ _ => rfl
theorem Off.trans {ws t t' t''} (h : Off ws t t') (k : Off ws t' t'') : Off ws t t'' := fun x hx => (k x hx).trans (h x hx)
theorem Off.upd {ws t t' d v} (hd : memN d ws = true) (h : Off ws t t') : Off ws t (upd t' d v) := fun k hk => by
  unfold Aw.upd
  cases hb : Nat.beq k d with
  | false => exact h k hk
  | true =>
    have : k = d := by simpa [Nat.beq_eq] using hb
    subst this
    rw [hd] at hk
    cases hk
theorem Off.updo {ws t t' d v} (hd : (match d with | some d => memN d ws | none => true) = true) (h : Off ws t t') : Off ws t (updo t' d v) := by
  cases d with
  | none => exact h
  | some d => exact Off.upd hd h
theorem Off.updL {ws t t' l} (hd : l.all (fun p => memN p.1 ws) = true) (h : Off ws t t') : Off ws t (updL t' l) := by
  induction l with
  | nil => exact h
  | cons p l ih =>
    obtain ⟨d, v⟩ := p
    simp only [List.all_cons, Bool.and_eq_true] at hd
    exact Off.upd hd.1 (ih hd.2)
theorem Off.havoc {ws ws' t t' junk} (hd : ws'.all (fun k => memN k ws) = true) (h : Off ws t t') : Off ws t (havoc ws' t' junk) := fun k hk => by
  unfold Aw.havoc
  cases hb : memN k ws' with
  | false => exact h k hk
  | true =>
    have : ∀ l : List Nat, l.all (fun k => memN k ws) = true → memN k l = true → memN k ws = true := by
      intro l
      induction l with
      | nil => intro _ h; cases h
      | cons x l ih =>
        intro ha hm
        simp only [List.all_cons, Bool.and_eq_true] at ha
        simp only [memN] at hm
        cases hx : Nat.beq k x with
        | true =>
          have : k = x := by simpa [Nat.beq_eq] using hx
          rw [this]; exact ha.1
        | false => rw [hx] at hm; exact ih ha.2 hm
    rw [this ws' hd hb] at hk
    cases hk

/-- the frame shows these values -/
def Shows (t : Nat → Value) : List (Nat × Value) → Prop
  | [] => True
  | (d, v) :: l => t d = v ∧ Shows t l

theorem updL_of_shows {t : Nat → Value} : ∀ {l : List (Nat × Value)}, Shows t l → updL t l = t
  | [], _ => rfl
  | (d, v) :: l, h => by
    funext k
    simp only [updL, updL_of_shows h.2, upd]
    cases hb : Nat.beq k d with
    | false => rfl
    | true =>
      have : k = d := by simpa [Nat.beq_eq] using hb
      rw [cond_true, this]; exact h.1.symm

/-- the state at a loop's head -/
structure Head (γ : Type) where
  slots : γ → List (Nat × Value)
  L : γ → List Blk
  R : γ → List Sl
  m : γ → Nat

def loopK {γ : Type} (ws : List Nat) (t0 : Nat → Value) (hd : Head γ) (m0 : Nat) (Q : TPost) : TPost
  | .normal, t, L, R => ∃ g, Off ws t0 t ∧ Shows t (hd.slots g) ∧ (hd.L g).Sublist L ∧ (∀ r ∈ hd.R g, InR r R) ∧ hd.m g < m0
  | e, t, L, R => Q e t L R

theorem loopK_ret {γ ws t0 m0 t L R} {hd : Head γ} {Q : TPost} (h : Q .ret t L R) : loopK ws t0 hd m0 Q .ret t L R := h
theorem loopK_exit {γ ws t0 m0 id t L R} {hd : Head γ} {Q : TPost} (h : Q (.exit id) t L R) : loopK ws t0 hd m0 Q (.exit id) t L R := h

theorem havoc_eq_self {ws : List Nat} {t0 t : Nat → Value} (h : Off ws t0 t) : havoc ws t0 t = t := by
  funext k
  unfold havoc
  cases hb : memN k ws with
  | true => rfl
  | false => exact (h k hb).symm

theorem CJ_loop {γ : Type} {P n body t L R} {Q : TPost} (ws : List Nat) (hd : Head γ) (g0 : γ) (h0 : Shows t (hd.slots g0)) (hL : (hd.L g0).Sublist L) (hR : ∀ r ∈ hd.R g0, InR r R)
    (hstep : ∀ g junk, CJ P n body (updL (havoc ws t junk) (hd.slots g)) (hd.L g) (hd.R g) (loopK ws t hd (hd.m g) Q)) : CJ P n (.loop body) t L R Q := by
  intro c a w hf hs
  let I : Act → World → Prop := fun a w => ∃ g t', Off ws t t' ∧ Shows t' (hd.slots g) ∧ Fr n t' a ∧ St c (hd.L g) (hd.R g) w
  -- the measure is carried in the invariant: 'the least measure at which the state shows'
  have key : ∀ m, ∀ g t' a w, hd.m g = m → Off ws t t' → Shows t' (hd.slots g) → Fr n t' a → St c (hd.L g) (hd.R g) w →
      ∀ b k cs, ∃ e a' w', liftK n c Q e a' w' ∧ Arrives P (lone (b.at a (.code body :: .inLoop body :: k)) cs w) b k cs e a' w' := by
    intro m
    induction m using Nat.strongRecOn with
    | _ m ih =>
      intro g t' a w hm ho hsh hfr hst b k cs
      have e : updL (havoc ws t t') (hd.slots g) = t' := by rw [havoc_eq_self ho, updL_of_shows hsh]
      obtain ⟨ex, a₁, w₁, ⟨hnp, t₁, L₁, R₁, hq, hf₁, hs₁⟩, harr⟩ := hstep g t' c a w (by rw [e]; exact hfr) hst b (.inLoop body :: k) cs
      cases ex with
      | normal =>
        obtain ⟨g', ho', hsh', hL', hR', hlt⟩ := hq
        obtain ⟨e₂, a₂, w₂, hq₂, harr₂⟩ := ih (hd.m g') (hm ▸ hlt) g' t₁ a₁ w₁ rfl ho' hsh' hf₁ (hs₁.weak hL' hR') b k cs
        exact ⟨e₂, a₂, w₂, hq₂, .of_steps (Steps.trans harr (.one step_inLoop)) harr₂⟩
      | exit id => exact ⟨_, a₁, w₁, ⟨hnp, t₁, L₁, R₁, hq, hf₁, hs₁⟩, .pass (x := .inLoop body) rfl (fun _ _ => .inl (by simp)) harr⟩
      | goto l => exact ⟨_, a₁, w₁, ⟨hnp, t₁, L₁, R₁, hq, hf₁, hs₁⟩, .pass (x := .inLoop body) rfl (fun _ _ => .inl (by simp)) harr⟩
      | ret => exact ⟨_, a₁, w₁, ⟨hnp, t₁, L₁, R₁, hq, hf₁, hs₁⟩, .pass (x := .inLoop body) rfl (fun _ _ => .inl (by simp)) harr⟩
      | panic ch => exact ⟨_, a₁, w₁, ⟨hnp, t₁, L₁, R₁, hq, hf₁, hs₁⟩, .pass (x := .inLoop body) rfl (fun _ _ => .inl (by simp)) harr⟩
      | outgrown => exact ⟨_, a₁, w₁, ⟨hnp, t₁, L₁, R₁, hq, hf₁, hs₁⟩, .pass (x := .inLoop body) rfl (fun _ _ => .inl (by simp)) harr⟩
  intro b k cs
  obtain ⟨e, a', w', hq, harr⟩ := key _ g0 t a w rfl .refl h0 hf (hs.weak hL hR) b k cs
  exact ⟨e, a', w', hq, .of_steps (.one step_loop) harr⟩

end Go.Aw
