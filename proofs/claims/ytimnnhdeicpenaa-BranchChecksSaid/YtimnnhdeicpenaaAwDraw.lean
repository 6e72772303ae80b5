/-
  Assertion-level walks: regions that draw their order. One walk, in the order of a plan, serves every order: operations that leave the world alone are taken as soon as they may come up; calls and stores must come up one at a time; a variable's own making may come up anywhere, and is walked last. By an AI agent; no person has read it.
-/
import Derived.Test.YtimnnhdeicpenaaAwGuard
import Derived.OrdersHeld
set_option linter.unusedSimpArgs false
set_option linter.unusedVariables false
namespace Go.Aw
open Go

/-! ### A frame of blocks that the operation does not know of -/

theorem St.frame {F L L' : List Blk} {R R' : List Sl} {G : Nat → Prop} {w w' : World} (h : Holds (F ++ L) G R w) (k : St ⟨w, inL L, G⟩ L' R' w') : St ⟨w, inL (F ++ L), G⟩ (F ++ L') R' w' := by
  obtain ⟨⟨G', hh, hg⟩, ho, hk⟩ := k
  have hnd := h.nd
  rw [List.map_append, List.nodup_append] at hnd
  have fL : ∀ e ∈ F, ¬ inL L e.b := fun e he ⟨e', he', hb⟩ => hnd.2.2 e.b (List.mem_map.2 ⟨e, he, rfl⟩) e'.b (List.mem_map.2 ⟨e', he', rfl⟩) hb.symm
  have flt : ∀ e ∈ F, e.b < w.heap.size := fun e he => h.lt (List.mem_append_left _ he)
  have fG : ∀ e ∈ F, ¬ G e.b := fun e he => h.ng e (List.mem_append_left _ he)
  have fsame : ∀ e ∈ F, w'.heap[e.b]? = w.heap[e.b]? := fun e he => hk.block e.b (flt e he) (fL e he)
  refine ⟨⟨G', ⟨?_, fun e he => ?_, fun e he hG => ?_, hh.gs, hh.rep⟩, fun b hb => ?_⟩, fun e he => ?_, ⟨hk.os, hk.tape, hk.output, hk.size, fun b hb hn => hk.block b hb (fun hi => hn ?_), hk.frz⟩⟩
  · rw [List.map_append, List.nodup_append]
    refine ⟨hnd.1, hh.nd, fun x hx y hy hxy => ?_⟩
    obtain ⟨e, he, rfl⟩ := List.mem_map.1 hx
    obtain ⟨e', he', rfl⟩ := List.mem_map.1 hy
    rcases ho e' he' with h1 | h1
    · rw [← hxy] at h1; exact fL e he h1
    · rw [← hxy] at h1; exact absurd (flt e he) (Nat.not_lt.2 h1)
  · rcases List.mem_append.1 he with he | he
    · rw [fsame e he]; exact h.own e (List.mem_append_left _ he)
    · exact hh.own e he
  · rcases List.mem_append.1 he with he | he
    · rcases hg e.b hG with h1 | h1 | h1
      · exact fG e he h1
      · exact absurd (flt e he) (Nat.not_lt.2 h1)
      · exact fL e he h1
    · exact hh.ng e he hG
  · rcases hg b hb with h1 | h1 | ⟨e, he, h1⟩
    · exact .inl h1
    · exact .inr (.inl h1)
    · exact .inr (.inr ⟨e, List.mem_append_right _ he, h1⟩)
  · rcases List.mem_append.1 he with he | he
    · exact .inl ⟨e, List.mem_append_left _ he, rfl⟩
    · rcases ho e he with ⟨e', he', h1⟩ | h1
      · exact .inl ⟨e', List.mem_append_right _ he', h1⟩
      · exact .inr h1
  · obtain ⟨e, he, h1⟩ := hi
    exact ⟨e, List.mem_append_right _ he, h1⟩

theorem Gives.frame {P op ρ L R} {Post : VPost} (h : Gives P op ρ L R Post) (F : List Blk) : Gives P op ρ (F ++ L) R (fun v L'' R' => ∃ L', L'' = F ++ L' ∧ Post v L' R') := by
  intro c w hs a next Q k
  obtain ⟨⟨G, hh, hg⟩, ho, hk⟩ := hs
  have hL : Holds L G R w := ⟨(List.nodup_append.1 (by have := hh.nd; rwa [List.map_append] at this)).2.1, fun e he => hh.own e (List.mem_append_right _ he), fun e he => hh.ng e (List.mem_append_right _ he), hh.gs, hh.rep⟩
  exact h ⟨w, inL L, G⟩ w (St.init hL) a next Q fun v L' R' w' hp hst => k v _ R' w' ⟨L', rfl, hp⟩ (St.trans ⟨⟨G, hh, hg⟩, ho, hk⟩ hg (St.frame hh hst))

/-! ### The walk of a plan -/

/-- 0: leaves the world alone · 1: makes a variable · 2: all else -/
def okind : Op → Nat
  | .alloc _ => 1
  | .move _ | .assign _ | .pick .. | .build .. | .load .. | .nilCheck _ | .binOp .. | .unOp .. | .convert .. | .slice .. | .fieldAddr .. | .field .. | .indexAddr .. | .index .. | .extract .. | .makeInterface .. => 0
  | .call c => match c.callee with
    | .builtin .len | .builtin .cap | .builtin .min | .builtin .max => 0
    | _ => 2
  | _ => 2

def zT {P : Program} (tb : Tabs P) (T : TypeId) : List Value := match getT tb.tab T with
  | some ti => ti.z
  | none => []

def DJ (P : Program) (tb : Tabs P) (n : Nat) (all : Array Oper) (Lc : List Blk) (K : TPost) : List Oper → (Nat → Value) → List Blk → List Sl → Prop
  | [], t, L, R => K .normal t L R
  | o :: rest, t, L, R => dOk n o.dst = true ∧
    ((wantT all t o.guard = false ∧ okind o.op ≠ 1 ∧ DJ P tb n all Lc K rest (updo t o.dst undef) L R) ∨
     (wantT all t o.guard = true ∧ okind o.op = 0 ∧ ∃ v, YV P o (ev t) Lc R v ∧ DJ P tb n all Lc K rest (updo t o.dst v) L R) ∨
     (okind o.op = 1 ∧ ∃ T, o.op = .alloc T ∧ ∀ b, DJ P tb n all Lc K rest (updo t o.dst (.pointer (some ⟨b, 0, none⟩))) (⟨b, zT tb T, T⟩ :: L) R) ∨
     (wantT all t o.guard = true ∧ okind o.op = 2 ∧ ∃ Post, Gives P o (ev t) L R Post ∧ ∀ v L' R', Post v L' R' → Lc.Sublist L' ∧ (∀ r ∈ R, InR r R') ∧ DJ P tb n all Lc K rest (updo t o.dst v) L' R'))

def kindAt (ops : Array Oper) (i : Nat) : Nat := match ops[i]? with
  | some o => okind o.op
  | none => 3

/-- 'done', and all makings of variables that p lets -/
def withA (ops : Array Oper) (p : Nat → Bool) (done : Array Bool) : Array Bool :=
  (Array.range ops.size).map fun i => done.getD i true || (Nat.beq (kindAt ops i) 1 && p i)

def planOk (ops : Array Oper) (done : Array Bool) : List Nat → Bool
  | [] => (Region.ready .any ops done).isEmpty
  | i :: rest =>
    (Region.ready .any ops done).contains i &&
    (match kindAt ops i with
     | 0 => Region.free .any ops done i
     | 1 => (Region.ready .any ops (withA ops (fun k => !Nat.beq k i) done)).all fun j => Nat.beq (kindAt ops j) 1
     | _ => (Region.ready .any ops (withA ops (fun _ => true) done)).all fun j => Nat.beq j i) &&
    planOk ops (done.setIfInBounds i true) rest

/-- of every 'alloc': no guard, its slot within the frame, its type in the table, apart from all that does not wait for it -/
def allocsOk {P : Program} (tb : Tabs P) (n : Nat) (ops : Array Oper) : Bool :=
  (List.range ops.size).all fun i => match ops[i]? with
    | some o => match o.op with
      | .alloc T => o.guard.isNone && (getT tb.tab T).isSome && (match o.dst with
        | some d => Nat.blt d n && (List.range ops.size).all fun j => Nat.beq j i || match ops[j]? with
          | some oj => oj.dst != some d
          | none => true
        | none => false) && Region.free .any ops (Array.replicate ops.size false) i
      | _ => true
    | none => true

structure Early where
  i : Nat
  d : Nat
  b : Nat
  T : TypeId

def ovr (t : Nat → Value) : List Early → Nat → Value
  | [] => t
  | e :: E => upd (ovr t E) e.d (.pointer (some ⟨e.b, 0, none⟩))
def eblks {P : Program} (tb : Tabs P) (E : List Early) : List Blk := E.map fun e => ⟨e.b, zT tb e.T, e.T⟩

theorem wpAnyH_mono {P : Program} {md : Region.Mode} {ops : Array Oper} {Q : Exit → Act → World → Prop} {S S' : World → Prop} (hS : ∀ w, S' w → S w) : ∀ (f : Nat) (l : Array Bool) (a : Act) (w : World),
    wpAnyH P md ops Q S' f l a w → wpAnyH P md ops Q S f l a w
  | 0, _, _, _, h => h
  | f + 1, _, _, _, h => ⟨h.1, fun i hi => wpOp_mono (fun a' w' h' => ⟨hS _ h'.1, wpAnyH_mono hS f _ a' w' h'.2⟩) (h.2 i hi)⟩

structure EOk {P : Program} (tb : Tabs P) (n : Nat) (ops : Array Oper) (done listed : Array Bool) (E : List Early) : Prop where
  size : listed.size = done.size
  listed : ∀ i d, listed.getD i d = true ↔ done.getD i d = true ∨ ∃ e ∈ E, e.i = i
  op : ∀ e ∈ E, ∃ o, ops[e.i]? = some o ∧ o.op = .alloc e.T ∧ o.dst = some e.d ∧ o.guard = none
  fresh : ∀ e ∈ E, done.getD e.i true = false
  nd : (E.map (·.i)).Nodup
  ndd : (E.map (·.d)).Nodup

theorem free_apart {ops : Array Oper} {i : Nat} {oi : Oper} (hi : ops[i]? = some oi) (h : Region.free .any ops (Array.replicate ops.size false) i = true) {j : Nat} {oj : Oper} (hj : ops[j]? = some oj) (hne : j ≠ i)
    (hno : ∀ e ∈ oj.after, Region.binds .any e = true → e.on ≠ i) : oi.apart ops oj = true := by
  refine Region.free_spec hi h j oj hj hne ?_ hno
  have : j < ops.size := (Array.getElem?_eq_some_iff.1 hj).1
  simp [this]

section
variable {P : Program} {tb : Tabs P} {n : Nat} {ops : Array Oper} {c : Ctx} {Lc : List Blk} {K : TPost}

theorem allocsOk_spec (h : allocsOk tb n ops = true) {i : Nat} {o : Oper} {T : TypeId} (hi : ops[i]? = some o) (ho : o.op = .alloc T) :
    o.guard = none ∧ (∃ ti, getT tb.tab T = some ti) ∧ (∃ d, o.dst = some d ∧ d < n ∧ ∀ j oj, ops[j]? = some oj → j ≠ i → oj.dst ≠ some d) ∧ Region.free .any ops (Array.replicate ops.size false) i = true := by
  have h1 := List.all_eq_true.1 h i (List.mem_range.2 (Array.getElem?_eq_some_iff.1 hi).1)
  simp only [hi, ho, Bool.and_eq_true, Option.isNone_iff_eq_none] at h1
  obtain ⟨⟨⟨h1, h2⟩, h3⟩, h4⟩ := h1
  refine ⟨h1, Option.isSome_iff_exists.1 h2, ?_, h4⟩
  cases hd : o.dst with
  | none => rw [hd] at h3; cases h3
  | some d =>
    rw [hd] at h3
    simp only [Bool.and_eq_true] at h3
    refine ⟨d, rfl, by simpa using h3.1, fun j oj hj hne e => ?_⟩
    have h5 := List.all_eq_true.1 h3.2 j (List.mem_range.2 (Array.getElem?_eq_some_iff.1 hj).1)
    simp [hj, beqF hne, e] at h5

theorem ovr_off {t : Nat → Value} {k : Nat} : ∀ {E : List Early}, (∀ e ∈ E, e.d ≠ k) → ovr t E k = t k
  | [], _ => rfl
  | e :: E, h => by
    have h1 := h e (by simp)
    simp only [ovr, upd, beqF (Ne.symm h1), cond_false]
    exact ovr_off fun e he => h e (by simp [he])

theorem ovr_updo {t : Nat → Value} {d : Option Tmp} {v : Value} : ∀ {E : List Early}, (∀ e ∈ E, d ≠ some e.d) → updo (ovr t E) d v = ovr (updo t d v) E
  | [], _ => rfl
  | e :: E, h => by
    have h1 := h e (by simp)
    have ih := ovr_updo (t := t) (d := d) (v := v) (E := E) fun e he => h e (by simp [he])
    simp only [ovr]
    rw [← ih]
    cases d with
    | none => rfl
    | some d =>
      have hne : d ≠ e.d := fun e' => h1 (by rw [e'])
      funext k
      simp only [updo, upd]
      by_cases hk : k = d
      · subst hk
        simp [beqF hne]
      · rw [beqF hk, cond_false, cond_false]

theorem exec_ovr {t : Nat → Value} {o : Oper} (hs : ∀ cs b, o.op ≠ .select cs b) {E : List Early} (h : ∀ e ∈ E, e.d ∉ o.looksAt ops) : execOp (ev (ovr t E)) o = execOp (ev t) o := by
  refine execOp_congr o hs fun x hx => ?_
  cases x with
  | tmp k =>
    refine ovr_off fun e he hk => h e he ?_
    subst hk
    exact List.mem_append_left _ (List.mem_filterMap.2 ⟨.tmp e.d, by simpa using hx, rfl⟩)
  | _ => rfl

theorem want_ovr {t : Nat → Value} {o : Oper} {E : List Early} (h : ∀ e ∈ E, e.d ∉ o.looksAt ops) : wantT ops (ovr t E) o.guard = wantT ops t o.guard := by
  unfold wantT
  cases hg : o.guard with
  | none => rfl
  | some p =>
    obtain ⟨j, want⟩ := p
    have : yieldT ops (ovr t E) j = yieldT ops t j := by
      unfold yieldT
      cases hd : (ops[j]?).bind (·.dst) with
      | none => rfl
      | some d =>
        have : ovr t E d = t d := ovr_off fun e he hk => h e he (by
          subst hk
          exact List.mem_append_right _ (by simp [hg, hd]))
        simp only [this]
    simp only [this]

/-- an operation that comes up while the early ones' makings have come up is apart from them -/
theorem early_apart (hal : allocsOk tb n ops = true) {done listed : Array Bool} {E : List Early} (hE : EOk tb n ops done listed E) {i : Nat} {o : Oper} (hi : ops[i]? = some o) (hin : ∀ e ∈ E, e.i ≠ i)
    (hready : ∀ e ∈ o.after, Region.binds .any e = true → done.getD e.on false = true) : ∀ e ∈ E, e.d ∉ o.looksAt ops ∧ o.dst ≠ some e.d := by
  intro e he
  obtain ⟨oe, h1, h2, h3, h4⟩ := hE.op e he
  obtain ⟨_, _, _, hfree⟩ := allocsOk_spec hal h1 h2
  have hap := free_apart h1 hfree hi (Ne.symm (hin e he)) (fun x hx hb hon => by
    have h5 := hready x hx hb
    rw [hon] at h5
    have h6 := hE.fresh e he
    have : done.getD e.i false = false := by
      rcases Nat.lt_or_ge e.i done.size with h' | h'
      · simp [h'] at h6 ⊢; exact h6
      · simp [Array.getElem?_eq_none h']
    rw [this] at h5
    cases h5)
  obtain ⟨a1, a2, a3⟩ := Oper.apart_spec hap
  exact ⟨a1 e.d h3, a2 e.d h3⟩

theorem okind_alloc {o : Oper} {T : TypeId} (h : o.op = .alloc T) : okind o.op = 1 := by rw [h]; rfl
theorem alloc_of_okind {o : Oper} (h : okind o.op = 1) : ∃ T, o.op = .alloc T := by
  cases ho : o.op <;> rw [ho] at h <;> simp only [okind] at h <;> first | exact ⟨_, rfl⟩ | (exact absurd h (by decide)) | skip
  split at h <;> exact absurd h (by decide)
theorem okind_le (op : Op) : okind op = 0 ∨ okind op = 1 ∨ okind op = 2 := by
  unfold okind
  split <;> first | (exact .inl rfl) | (exact .inr (.inl rfl)) | (exact .inr (.inr rfl)) | skip
  split <;> first | (exact .inl rfl) | (exact .inr (.inr rfl))

theorem noSel_kind {o : Oper} (h : okind o.op = 0) : ∀ cs b, o.op ≠ .select cs b := by
  intro cs b e
  rw [e] at h
  simp [okind] at h

theorem getD_set_self {l : Array Bool} {i : Nat} (h : i < l.size) (d : Bool) : (l.setIfInBounds i true).getD i d = true := by simp [h]

theorem EOk.step {done listed : Array Bool} {E : List Early} (hE : EOk tb n ops done listed E) {i : Nat} (hin : ∀ e ∈ E, e.i ≠ i) (hi : i < done.size) :
    EOk tb n ops (done.setIfInBounds i true) (listed.setIfInBounds i true) E := by
  refine ⟨by simp [hE.size], fun k d => ?_, hE.op, fun e he => ?_, hE.nd, hE.ndd⟩
  · by_cases hk : i = k
    · subst hk
      rw [getD_set_self hi, getD_set_self (by rw [hE.size]; exact hi)]
      simp
    · rw [getD_set_ne d hk, getD_set_ne d hk]
      exact hE.listed k d
  · rw [getD_set_ne true (Ne.symm (hin e he))]
    exact hE.fresh e he

theorem nodup_sub_len : ∀ (l1 l2 : List Nat), l1.Nodup → (∀ x ∈ l1, x ∈ l2) → l1.length ≤ l2.length
  | [], _, _, _ => by simp
  | x :: l1, l2, hn, hs => by
    rw [List.nodup_cons] at hn
    have hx := hs x (by simp)
    have := nodup_sub_len l1 (l2.erase x) hn.2 fun y hy => by
      have hne : y ≠ x := fun e => hn.1 (e ▸ hy)
      exact (List.mem_erase_of_ne hne).2 (hs y (by simp [hy]))
    rw [List.length_erase_of_mem hx] at this
    have : 0 < l2.length := List.length_pos_of_mem hx
    simp only [List.length_cons]
    omega

theorem ovr_split {t : Nat → Value} {e : Early} {E2 : List Early} : ∀ {E1 : List Early}, ((E1 ++ e :: E2).map (·.d)).Nodup → ovr t (E1 ++ e :: E2) = ovr (upd t e.d (.pointer (some ⟨e.b, 0, none⟩))) (E1 ++ E2)
  | [], h => by
    simp only [List.nil_append, List.map_cons, List.nodup_cons] at h
    have := ovr_updo (t := t) (d := some e.d) (v := .pointer (some ⟨e.b, 0, none⟩)) (E := E2) fun x hx hd => h.1 (List.mem_map.2 ⟨x, hx, (Option.some.inj hd).symm⟩)
    exact this
  | x :: E1, h => by
    simp only [List.cons_append, List.map_cons, List.nodup_cons] at h
    simp only [List.cons_append, ovr, ovr_split h.2]

theorem St.perm {L L' : List Blk} {R : List Sl} {w : World} (h : St c L R w) (hp : L.Perm L') : St c L' R w := by
  obtain ⟨⟨G, hh, hg⟩, ho, hk⟩ := h
  exact ⟨⟨G, ⟨(hp.map _).nodup_iff.1 hh.nd, fun e he => hh.own e (hp.mem_iff.2 he), fun e he => hh.ng e (hp.mem_iff.2 he), hh.gs, hh.rep⟩, hg⟩, fun e he => ho e (hp.mem_iff.2 he), hk⟩

theorem withA_getD {p : Nat → Bool} {done : Array Bool} {i : Nat} (hi : i < ops.size) (d : Bool) : (withA ops p done).getD i d = (done.getD i true || (Nat.beq (kindAt ops i) 1 && p i)) := by
  simp [withA, hi]

/-- what may come up now, and is no making of a variable, may come up too once more makings are done -/
theorem ready_withA {p : Nat → Bool} {done listed : Array Bool} {E : List Early} (hE : EOk tb n ops done listed E) (hp : ∀ e ∈ E, p e.i = true) (hds : done.size = ops.size) {j : Nat} (hj : j ∈ Region.ready .any ops listed) (hk : kindAt ops j ≠ 1) :
    j ∈ Region.ready .any ops (withA ops p done) := by
  obtain ⟨h0, o, ho, hall⟩ := mem_ready.1 hj
  have hlt : j < ops.size := (Array.getElem?_eq_some_iff.1 ho).1
  refine mem_ready.2 ⟨?_, o, ho, fun e he hb => ?_⟩
  · rw [withA_getD hlt]
    have h1 : done.getD j true = false := by
      cases hd : done.getD j true with
      | false => rfl
      | true => rw [(hE.listed j true).2 (.inl hd)] at h0; cases h0
    have h2 : Nat.beq (kindAt ops j) 1 = false := beqF hk
    simp [h1, h2]
  · have h1 := hall e he hb
    have hlt2 : e.on < ops.size := by
      rcases Nat.lt_or_ge e.on listed.size with h' | h'
      · rw [hE.size, hds] at h'; exact h'
      · simp [Array.getElem?_eq_none h'] at h1
    rw [withA_getD hlt2]
    rcases (hE.listed e.on false).1 h1 with h2 | ⟨x, hx, hxi⟩
    · have : done.getD e.on true = true := by
        rcases Nat.lt_or_ge e.on done.size with h' | h'
        · simp [h'] at h2 ⊢; exact h2
        · simp [Array.getElem?_eq_none h']
      simp only [this, Bool.true_or]
    · obtain ⟨ox, h3, h4, _, _⟩ := hE.op x hx
      have h5 : kindAt ops e.on = 1 := by
        rw [← hxi]; simp only [kindAt, h3]; exact okind_alloc h4
      have h6 := hp x hx
      rw [hxi] at h6
      simp [h5, h6]

theorem upon_of_eval {o : Oper} {a : Act} {ρ : Operand → Value} {w : World} {next : Act → World → Prop} {Q : Exit → Act → World → Prop} (he : execOp a.eval o = execOp ρ o) (h : o.upon P a next Q ((execOp ρ o).run P w)) : o.wp P a w next Q := by
  unfold Oper.wp
  rw [he]
  exact h

theorem dj_end {done listed : Array Bool} {t : Nat → Value} {L : List Blk} {R : List Sl} {a : Act} {w : World} (hpl : planOk ops done [] = true) (hE : EOk tb n ops done listed []) (hdj : DJ P tb n ops Lc K [] t L R)
    (hfr : Fr n (ovr t []) a) (hst : St c (eblks tb [] ++ L) R w) {S : World → Prop} (fuel : Nat) : wpAnyH P .any ops (liftK n c K) S fuel listed a w := by
  refine wpAnyH_done ?_ ⟨trivial, t, L, R, hdj, hfr, hst⟩ fuel
  simp only [planOk, List.isEmpty_iff] at hpl
  refine List.eq_nil_iff_forall_not_mem.2 fun j hj => ?_
  obtain ⟨h0, o, ho, hall⟩ := mem_ready.1 hj
  have h1 : done.getD j true = false := by
    cases hd : done.getD j true with
    | false => rfl
    | true => rw [(hE.listed j true).2 (.inl hd)] at h0; cases h0
  have : j ∈ Region.ready .any ops done := by
    refine mem_ready.2 ⟨h1, o, ho, fun e he hb => ?_⟩
    rcases (hE.listed e.on false).1 (hall e he hb) with h | ⟨x, hx, _⟩
    · exact h
    · cases hx
  rw [hpl] at this
  cases this

theorem dj_any (hsel : Region.noSelect ops = true) (hal : allocsOk tb n ops = true) : ∀ (m fuel : Nat) (plan : List Nat) (os : List Oper) (done listed : Array Bool) (E : List Early) (t : Nat → Value) (L : List Blk) (R : List Sl) (a : Act) (w : World),
    fuel + plan.length ≤ m → plan.length ≤ fuel + E.length → plan.map (ops[·]?) = os.map some → planOk ops done plan = true → EOk tb n ops done listed E → (∀ e ∈ E, e.i ∈ plan) → done.size = ops.size →
    (∀ i, i < ops.size → done.getD i true = false → i ∈ plan) →
    Fr n (ovr t E) a → St c (eblks tb E ++ L) R w → Lc.Sublist L → DJ P tb n ops Lc K os t L R → wpAnyH P .any ops (liftK n c K) (St c Lc R) fuel listed a w := by
  intro m
  induction m with
  | zero =>
    intro fuel plan os done listed E t L R a w hm hfu hos hpl hE hEp hds hcov hfr hst hLc hdj
    obtain rfl : plan = [] := by cases plan with | nil => rfl | cons x l => simp at hm
    obtain rfl : E = [] := by cases E with | nil => rfl | cons e E => exact absurd (hEp e (by simp)) (by simp)
    obtain rfl : os = [] := by cases os with | nil => rfl | cons x l => simp at hos
    exact dj_end hpl hE hdj hfr hst fuel
  | succ m ih =>
    intro fuel plan os done listed E t L R a w hm hfu hos hpl hE hEp hds hcov hfr hst hLc hdj
    have hS : St c Lc R w := hst.weak (hLc.trans (List.sublist_append_right _ _)) (fun r hr => ⟨r, hr, .here⟩)
    -- a making of a variable that comes up early
    have early : ∀ (f : Nat), fuel = f + 1 → ∀ j, j ∈ Region.ready .any ops listed → kindAt ops j = 1 →
        wpOp P ops (liftK n c K) j (fun a' w' => St c Lc R w' ∧ wpAnyH P .any ops (liftK n c K) (St c Lc R) f (listed.setIfInBounds j true) a' w') a w := by
      intro f hf j hj hkj
      obtain ⟨h0, oj, hoj, hall⟩ := mem_ready.1 hj
      have hkj' : okind oj.op = 1 := by simpa [kindAt, hoj] using hkj
      obtain ⟨T, hT⟩ := alloc_of_okind hkj'
      obtain ⟨hg, ⟨ti, hti⟩, ⟨d, hd, hdn, hdw⟩, hfree⟩ := allocsOk_spec hal hoj hT
      obtain ⟨zv, hz1, hz2⟩ := run_zeroValue (tb.ok _ _ hti) w
      have hjd : done.getD j true = false := by
        cases hd : done.getD j true with
        | false => rfl
        | true => rw [(hE.listed j true).2 (.inl hd)] at h0; cases h0
      have hjE : ∀ e ∈ E, e.i ≠ j := fun e he hi => by rw [(hE.listed j true).2 (.inr ⟨e, he, hi⟩)] at h0; cases h0
      have hzT : zv.cells.toList = zT tb T := by rw [hz2]; simp [zT, hti]
      have hst' : St c (eblks tb (⟨j, d, w.heap.size, T⟩ :: E) ++ L) R (w.alloc (.cells zv.cells T)) := by
        have := hst.alloc zv.cells T
        rw [hzT] at this
        exact this
      unfold wpOp
      simp only [hoj]
      rw [hfr.wanted, hg]
      simp only [wantT, if_true]
      refine .inl ?_
      have hrun : (execOp a.eval oj).run P w = .ok (.value (.pointer (some ⟨w.heap.size, 0, none⟩))) (w.alloc (.cells zv.cells T)) := by
        obtain ⟨od, oo, ot, op, oa, og⟩ := oj
        simp only at hT
        subst hT
        simp [execOp, Instr.alloc, hz1, newVar, newRow]
      unfold Oper.wp
      rw [hrun]
      refine ⟨hst'.weak (hLc.trans (List.sublist_append_right _ _)) (fun r hr => ⟨r, hr, .here⟩), ?_⟩
      have hjlt : j < ops.size := (Array.getElem?_eq_some_iff.1 hoj).1
      have hjl : j < listed.size := by rw [hE.size, hds]; exact hjlt
      have hjp : j ∈ plan := hcov j hjlt hjd
      refine ih f plan os done _ (⟨j, d, w.heap.size, T⟩ :: E) t L R _ _ (by omega) (by simp only [List.length_cons]; omega) hos hpl ?_ ?_ hds hcov ?_ hst' hLc hdj
      · refine ⟨by simp [hE.size], fun k dd => ?_, fun e he => ?_, fun e he => ?_, ?_, ?_⟩
        · by_cases hk : j = k
          · subst hk
            rw [getD_set_self hjl]
            simp
          · rw [getD_set_ne dd hk, hE.listed k dd]
            simp [hk]
        · rcases List.mem_cons.1 he with rfl | he
          · exact ⟨oj, hoj, hT, hd, hg⟩
          · exact hE.op e he
        · rcases List.mem_cons.1 he with rfl | he
          · exact hjd
          · exact hE.fresh e he
        · simp only [List.map_cons, List.nodup_cons]
          exact ⟨fun hm => by obtain ⟨e, he, hi⟩ := List.mem_map.1 hm; exact hjE e he hi, hE.nd⟩
        · simp only [List.map_cons, List.nodup_cons]
          refine ⟨fun hm => ?_, hE.ndd⟩
          obtain ⟨e, he, hi⟩ := List.mem_map.1 hm
          obtain ⟨oe, h1, h2, h3, h4⟩ := hE.op e he
          exact hdw e.i oe h1 (hjE e he) (by rw [h3, hi])
      · intro e he
        rcases List.mem_cons.1 he with rfl | he
        · exact hjp
        · exact hEp e he
      · have := hfr.put (d := oj.dst) (by rw [hd]; simpa [dOk] using hdn) (.pointer (some ⟨w.heap.size, 0, none⟩))
        rw [hd] at this ⊢
        exact this
    cases plan with
    | nil =>
      obtain rfl : E = [] := by cases E with | nil => rfl | cons e E => exact absurd (hEp e (by simp)) (by simp)
      obtain rfl : os = [] := by cases os with | nil => rfl | cons x l => simp at hos
      exact dj_end hpl hE hdj hfr hst fuel
    | cons i rest =>
      cases os with
      | nil => simp at hos
      | cons o os =>
        simp only [List.map_cons, List.cons.injEq] at hos
        obtain ⟨hio, hos⟩ := hos
        simp only [planOk, Bool.and_eq_true] at hpl
        obtain ⟨⟨hir, hkind⟩, hpl'⟩ := hpl
        have hir : i ∈ Region.ready .any ops done := by simpa using hir
        obtain ⟨hi0, o', ho', hpre⟩ := mem_ready.1 hir
        obtain rfl : o' = o := Option.some.inj (ho'.symm.trans hio)
        have hilt : i < ops.size := (Array.getElem?_eq_some_iff.1 hio).1
        have hids : i < done.size := by rw [hds]; exact hilt
        have hka : kindAt ops i = okind o'.op := by simp [kindAt, hio]
        have hcov' : ∀ k, k < ops.size → (done.setIfInBounds i true).getD k true = false → k ∈ rest := by
          intro k hk hd
          by_cases hki : i = k
          · subst hki; rw [getD_set_self hids] at hd; cases hd
          · rw [getD_set_ne true hki] at hd
            rcases List.mem_cons.1 (hcov k hk hd) with h | h
            · exact absurd h.symm hki
            · exact h
        have hds' : (done.setIfInBounds i true).size = ops.size := by simp [hds]
        have hdone : ∀ k, done.getD k true = true → ∀ d, listed.getD k d = true ∨ k ≥ done.size := by
          intro k hk d
          rcases Nat.lt_or_ge k done.size with h' | h'
          · exact .inl ((hE.listed k d).2 (.inl (by simp [h'] at hk ⊢; exact hk)))
          · exact .inr h'
        obtain ⟨hd, hdj⟩ := hdj
        -- if the operation is no making of a variable, it has not come up, and is apart from the early ones
        have notE : okind o'.op ≠ 1 → ∀ e ∈ E, e.i ≠ i := by
          intro hk e he hi
          obtain ⟨oe, h1, h2, _, _⟩ := hE.op e he
          rw [hi] at h1
          obtain rfl : oe = o' := Option.some.inj (h1.symm.trans hio)
          exact hk (okind_alloc h2)
        have cnt : okind o'.op ≠ 1 → E.length ≤ rest.length := by
          intro hk
          have := nodup_sub_len (E.map (·.i)) rest hE.nd (fun x hx => by
            obtain ⟨e, he, rfl⟩ := List.mem_map.1 hx
            rcases List.mem_cons.1 (hEp e he) with h | h
            · exact absurd h (notE hk e he)
            · exact h)
          simpa using this
        have hready : okind o'.op ≠ 1 → i ∈ Region.ready .any ops listed := by
          intro hk
          refine mem_ready.2 ⟨?_, o', hio, fun e he hb => (hE.listed _ _).2 (.inl (hpre e he hb))⟩
          cases hl : listed.getD i true with
          | false => rfl
          | true =>
            rcases (hE.listed i true).1 hl with h | ⟨e, he, hi⟩
            · rw [h] at hi0; cases hi0
            · exact absurd hi (notE hk e he)
        have apart : okind o'.op ≠ 1 → ∀ e ∈ E, e.d ∉ o'.looksAt ops ∧ o'.dst ≠ some e.d := fun hk => early_apart hal hE hio (notE hk) hpre
        have hEp' : okind o'.op ≠ 1 → ∀ e ∈ E, e.i ∈ rest := fun hk e he => by
          rcases List.mem_cons.1 (hEp e he) with h | h
          · exact absurd h (notE hk e he)
          · exact h
        have frame : okind o'.op ≠ 1 → ∀ v, Fr n (ovr (updo t o'.dst v) E) (a.put o'.dst v) := fun hk v => by
          rw [← ovr_updo (fun e he => (apart hk e he).2)]
          exact hfr.put hd v
        have hwant : okind o'.op ≠ 1 → Region.wanted o' (yielded ops a.tmps) = wantT ops t o'.guard := fun hk => by
          rw [hfr.wanted, want_ovr (fun e he => (apart hk e he).1)]
        have hexec : okind o'.op ≠ 1 → execOp a.eval o' = execOp (ev t) o' := fun hk => by
          rw [hfr.eval]
          exact exec_ovr (ops := ops) (fun cs b => Region.noSelect_spec hsel i o' cs b hio) (fun e he => (apart hk e he).1)
        rcases okind_le o'.op with hk | hk | hk
        · -- it leaves the world alone
          have hk1 : okind o'.op ≠ 1 := by rw [hk]; decide
          have hlen := cnt hk1
          obtain ⟨f, rfl⟩ : ∃ f, fuel = f + 1 := ⟨fuel - 1, by simp only [List.length_cons] at hfu; omega⟩
          rw [hka, hk] at hkind
          have hfree : ∀ j oj, ops[j]? = some oj → j ≠ i → listed.getD j true = false → (∀ e ∈ oj.after, Region.binds .any e = true → e.on ≠ i) → o'.apart ops oj = true := by
            intro j oj hj hne hl hno
            refine Region.free_spec hio hkind j oj hj hne ?_ hno
            cases hd : done.getD j true with
            | false => rfl
            | true => rw [(hE.listed j true).2 (.inl hd)] at hl; cases hl
          have go : ∀ v, YieldsIf P ops (St c Lc R) o' v a → DJ P tb n ops Lc K os (updo t o'.dst v) L R → wpAnyH P .any ops (liftK n c K) (St c Lc R) (f + 1) listed a w := by
            intro v hy hdj'
            refine wpAnyH_first hio (Region.noSelect_spec hsel) (fun _ _ _ h => h.1.elim) f listed a w hfree (hready hk1) hy hS ?_
            exact ih f rest os _ _ E _ L R _ w (by simp only [List.length_cons] at hm; omega) (by simp only [List.length_cons] at hfu; omega) hos hpl' (hE.step (notE hk1) hids) (hEp' hk1) hds' hcov' (frame hk1 v) hst hLc hdj'
          rcases hdj with ⟨hw, _, hdj'⟩ | ⟨hw, _, v, hv, hdj'⟩ | ⟨h1, _⟩ | ⟨_, h2, _⟩
          · exact go undef (.inr ⟨by rw [hwant hk1]; exact hw, rfl⟩) hdj'
          · exact go v (.inl ⟨by rw [hwant hk1]; exact hw, fun w' hw' => by rw [hexec hk1]; exact hv c w' hw'⟩) hdj'
          · exact absurd h1 hk1
          · rw [hk] at h2; cases h2
        · -- it makes a variable
          rw [hka, hk] at hkind
          rcases hdj with ⟨_, h1, _⟩ | ⟨_, h2, _⟩ | ⟨_, T, hT, hdj'⟩ | ⟨_, h2, _⟩
          · exact absurd hk h1
          · rw [hk] at h2; cases h2
          · by_cases hin : ∃ e ∈ E, e.i = i
            · -- it has come up early
              obtain ⟨e, he, hei⟩ := hin
              obtain ⟨oe, h1, h2, h3, h4⟩ := hE.op e he
              rw [hei] at h1
              obtain rfl : oe = o' := Option.some.inj (h1.symm.trans hio)
              obtain rfl : e.T = T := by rw [h2] at hT; exact Op.alloc.inj hT
              obtain ⟨E1, E2, rfl⟩ := List.append_of_mem he
              have hmem : ∀ x ∈ E1 ++ E2, x ∈ E1 ++ e :: E2 := fun x hx => by
                rcases List.mem_append.1 hx with h | h
                · exact List.mem_append_left _ h
                · exact List.mem_append_right _ (List.mem_cons_of_mem _ h)
              have hni : ∀ x ∈ E1 ++ E2, x.i ≠ i := by
                intro x hx hxi
                have hn := hE.nd
                rw [List.map_append, List.map_cons, List.nodup_append, List.nodup_cons] at hn
                rcases List.mem_append.1 hx with h | h
                · exact hn.2.2 x.i (List.mem_map.2 ⟨x, h, rfl⟩) e.i (by simp) (by rw [hxi, hei])
                · exact hn.2.1.1 (List.mem_map.2 ⟨x, h, by rw [hxi, hei]⟩)
              refine ih fuel rest os _ listed (E1 ++ E2) _ _ R a w (by simp only [List.length_cons] at hm; omega) (by simp only [List.length_cons, List.length_append] at hfu ⊢; omega) hos hpl' ?_ ?_ hds' hcov' ?_ ?_ (hLc.cons _) (hdj' e.b)
              · refine ⟨by rw [hE.size]; simp, fun k d => ?_, fun x hx => hE.op x (hmem x hx), fun x hx => ?_, ?_, ?_⟩
                · rw [hE.listed k d]
                  by_cases hk : i = k
                  · subst hk
                    rw [getD_set_self hids]
                    simp only [true_or, iff_true]
                    exact .inr ⟨e, he, hei⟩
                  · rw [getD_set_ne d hk]
                    refine or_congr Iff.rfl ⟨fun ⟨x, hx, hxk⟩ => ?_, fun ⟨x, hx, hxk⟩ => ⟨x, hmem x hx, hxk⟩⟩
                    rcases List.mem_append.1 hx with h | h
                    · exact ⟨x, List.mem_append_left _ h, hxk⟩
                    · rcases List.mem_cons.1 h with rfl | h
                      · exact absurd (hei.symm.trans hxk) hk
                      · exact ⟨x, List.mem_append_right _ h, hxk⟩
                · rw [getD_set_ne true (Ne.symm (hni x hx))]
                  exact hE.fresh x (hmem x hx)
                · exact hE.nd.sublist (List.Sublist.map _ (List.Sublist.append (List.Sublist.refl _) (List.sublist_cons_self _ _)))
                · exact hE.ndd.sublist (List.Sublist.map _ (List.Sublist.append (List.Sublist.refl _) (List.sublist_cons_self _ _)))
              · intro x hx
                rcases List.mem_cons.1 (hEp x (hmem x hx)) with h | h
                · exact absurd h (hni x hx)
                · exact h
              · rw [h3]
                have := ovr_split (t := t) hE.ndd
                rw [this] at hfr
                exact hfr
              · refine hst.perm ?_
                simp only [eblks, List.map_append, List.map_cons, List.append_assoc, List.cons_append]
                refine List.Perm.append_left _ ?_
                exact (List.perm_middle (l₁ := E2.map fun e => (⟨e.b, zT tb e.T, e.T⟩ : Blk))).symm
            · -- it has not: whatever comes up now makes a variable
              have hin' : ∀ e ∈ E, e.i ≠ i := fun e he hi => hin ⟨e, he, hi⟩
              have hrl : i ∈ Region.ready .any ops listed := by
                refine mem_ready.2 ⟨?_, o', hio, fun e he hb => (hE.listed _ _).2 (.inl (hpre e he hb))⟩
                cases hl : listed.getD i true with
                | false => rfl
                | true =>
                  rcases (hE.listed i true).1 hl with h | ⟨e, he, hi⟩
                  · rw [h] at hi0; cases hi0
                  · exact absurd hi (hin' e he)
              have hlen : E.length + 1 ≤ (i :: rest).length := by
                have := nodup_sub_len (i :: E.map (·.i)) (i :: rest) (List.nodup_cons.2 ⟨fun hm => by obtain ⟨e, he, hi⟩ := List.mem_map.1 hm; exact hin' e he hi, hE.nd⟩) (fun x hx => by
                  rcases List.mem_cons.1 hx with rfl | hx
                  · simp
                  · obtain ⟨e, he, rfl⟩ := List.mem_map.1 hx
                    exact hEp e he)
                simpa using this
              obtain ⟨f, rfl⟩ : ∃ f, fuel = f + 1 := ⟨fuel - 1, by omega⟩
              refine wpAnyH_all rfl (List.ne_nil_of_mem hrl) fun j hj => early f rfl j hj ?_
              by_cases hkj : kindAt ops j = 1
              · exact hkj
              · have := ready_withA (p := fun k => !Nat.beq k i) hE (fun e he => by simp [beqF (hin' e he)]) hds hj hkj
                exact absurd (Nat.eq_of_beq_eq_true (List.all_eq_true.1 hkind j this)) hkj
          · rw [hk] at h2; cases h2
        · -- it turns the world
          have hk1 : okind o'.op ≠ 1 := by rw [hk]; decide
          have hlen := cnt hk1
          obtain ⟨f, rfl⟩ : ∃ f, fuel = f + 1 := ⟨fuel - 1, by simp only [List.length_cons] at hfu; omega⟩
          rw [hka, hk] at hkind
          refine wpAnyH_all rfl (List.ne_nil_of_mem (hready hk1)) fun j hj => ?_
          by_cases hkj : kindAt ops j = 1
          · exact early f rfl j hj hkj
          · have hji := ready_withA (p := fun _ => true) hE (fun _ _ => rfl) hds hj hkj
            have := List.all_eq_true.1 hkind j hji
            obtain rfl : j = i := by simpa using this
            unfold wpOp
            simp only [hio]
            rw [hwant hk1]
            rcases hdj with ⟨hw, _, hdj'⟩ | ⟨_, h2, _⟩ | ⟨h1, _⟩ | ⟨hw, _, Post, hg, hdj'⟩
            · rw [hw, if_neg (by simp)]
              exact ⟨hS, ih f rest os _ _ E _ L R _ w (by simp only [List.length_cons] at hm; omega) (by simp only [List.length_cons] at hfu; omega) hos hpl' (hE.step (notE hk1) hids) (hEp' hk1) hds' hcov' (frame hk1 undef) hst hLc hdj'⟩
            · rw [hk] at h2; cases h2
            · exact absurd h1 hk1
            · rw [hw, if_pos rfl]
              refine .inl (upon_of_eval (hexec hk1) ?_)
              refine (hg.frame (eblks tb E)) c w hst a _ _ ?_
              rintro v L'' R' w' ⟨L', rfl, hp⟩ hst'
              obtain ⟨hLc', hR', hdj''⟩ := hdj' v L' R' hp
              refine ⟨hst'.weak (hLc'.trans (List.sublist_append_right _ _)) hR', ?_⟩
              refine wpAnyH_mono (S' := St c Lc R') (fun x hx => hx.weak (List.Sublist.refl _) hR') _ _ _ _ ?_
              exact ih f rest os _ _ E _ L' R' _ w' (by simp only [List.length_cons] at hm; omega) (by simp only [List.length_cons] at hfu; omega) hos hpl' (hE.step (notE hk1) hids) (hEp' hk1) hds' hcov' (frame hk1 v) hst' hLc' hdj''
end
end Go.Aw
