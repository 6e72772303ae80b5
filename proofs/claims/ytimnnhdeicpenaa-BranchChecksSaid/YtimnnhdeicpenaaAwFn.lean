/-
  Assertion-level walks: entering a function, its results, guards. By an AI agent; no person has read it.
-/
import Derived.Test.YtimnnhdeicpenaaAwOps
set_option linter.unusedSimpArgs false
set_option linter.unusedVariables false
namespace Go.Aw
open Go

def argT (args : List Value) : Nat → Value := fun k => args.getD k undef

def RV (P : Program) (t : Nat → Value) (L : List Blk) (R : List Sl) (r : ResultVar) (v : Value) : Prop :=
  match r with
  | .tmp k => t k = v
  | .cell k T => ∀ c w, St c L R w → ∃ a, t k = .pointer (some a) ∧ (loadVar T a).run P w = .ok v w

def retK (P : Program) (fn : Func) (Post : VPost) : TPost
  | .normal, t, L, R => ∃ v L' R', (∀ c n a w, Fr n t a → St c L R w → (results fn a.tmps).run P w = .ok v w) ∧ Post v L' R' ∧ L'.Sublist L ∧ ∀ r ∈ R', InR r R
  | .ret, t, L, R => ∃ v L' R', (∀ c n a w, Fr n t a → St c L R w → (results fn a.tmps).run P w = .ok v w) ∧ Post v L' R' ∧ L'.Sublist L ∧ ∀ r ∈ R', InR r R
  | _, _, _, _ => False

theorem tri_enter {P : Program} {f : FuncId} {fn : Func} {code : Code} {args : List Value} {L : List Blk} {R : List Sl} {Post : VPost} (n : Nat)
    (hcall : ∀ (xs : Array Value) (w : World), (callFunc f xs).run P w = .ok (.enter f xs) w) (hf : P.funcs[f]? = some fn) (hb : fn.body = some code) (hn : fn.ntmps = n) (ha : Nat.ble args.length n = true)
    (h : CJ P n code (argT args) L R (retK P fn Post)) : Tri P f args.toArray L R Post := by
  refine ⟨hcall, fun w G hh => ?_⟩
  have ha' : args.length ≤ n := Nat.le_of_ble_eq_true ha
  refine calls_of_wp hf hb (wp_mono (h ⟨w, inL L, G⟩ _ w ⟨rfl, ?_, fun k => ?_⟩ (St.init hh)) ?_)
  · simp [hn]; omega
  · simp only [argT, hn]
    rcases Nat.lt_or_ge k args.length with hk | hk
    · simp [List.getD, hk, Array.getElem?_append]
    · rcases Nat.lt_or_ge k n with hk2 | hk2
      · have : k - args.length < n - args.length := by omega
        simp [List.getD, Array.getElem?_append, Nat.not_lt.2 hk, this]
      · have : ¬ k - args.length < n - args.length := by omega
        simp [List.getD, Array.getElem?_append, Nat.not_lt.2 hk, this]
  · rintro e a w' ⟨_, t, L', R', hq, hf', hs'⟩
    have key : (∃ v L'' R'', (∀ c n a w, Fr n t a → St c L' R' w → (results fn a.tmps).run P w = .ok v w) ∧ Post v L'' R'' ∧ L''.Sublist L' ∧ ∀ r ∈ R'', InR r R') →
        a.defers = [] ∧ ∃ v, (results fn a.tmps).run P w' = .ok v w' ∧ ∃ v_1 L'_1 R'_1, Ending.returned v = .returned v_1 ∧ Post v_1 L'_1 R'_1 ∧ St ⟨w, inL L, G⟩ L'_1 R'_1 w' := by
      rintro ⟨v, L'', R'', hr, hp, hL, hR⟩
      exact ⟨hf'.defers, v, hr _ _ a w' hf' hs', v, L'', R'', rfl, hp, hs'.weak hL hR⟩
    cases e with
    | normal => exact key hq
    | ret => exact key hq
    | _ => exact hq.elim

section
variable {P : Program} {fn : Func} {Post : VPost} {t : Nat → Value} {L : List Blk} {R : List Sl}

def resOf (tmps : Array Value) : ResultVar → Sem Value
  | .tmp t => pure (tmps.getD t undef)
  | .cell a t => do loadVar t (← asAddr (tmps.getD a undef))
theorem results_eq (tmps : Array Value) : results fn tmps = (do
    let vs ← fn.results.mapM (resOf tmps)
    pure (if h : vs.size = 1 then vs[0] else .tuple vs)) := rfl

theorem rv_run {r : ResultVar} {v : Value} (h : RV P t L R r v) {c n a w} (hf : Fr n t a) (hs : St c L R w) : (resOf a.tmps r).run P w = .ok v w := by
  cases r with
  | tmp k =>
    have e : t k = v := h
    rw [← e, ← hf.val k]
    rfl
  | cell k T =>
    obtain ⟨ad, h1, h2⟩ := h c w hs
    have h3 := hf.val k
    rw [h1] at h3
    simp only [resOf, h3]
    simp [asAddr, h2]

theorem res1 {r : ResultVar} {v : Value} (hr : fn.results = #[r]) (h : RV P t L R r v) : ∀ c n a w, Fr n t a → St c L R w → (results fn a.tmps).run P w = .ok v w := by
  intro c n a w hf hs
  have h1 := rv_run h hf hs
  rw [results_eq, hr]
  simp [h1]

theorem res2 {r s : ResultVar} {v u : Value} (hr : fn.results = #[r, s]) (h : RV P t L R r v) (k : RV P t L R s u) : ∀ c n a w, Fr n t a → St c L R w → (results fn a.tmps).run P w = .ok (.tuple #[v, u]) w := by
  intro c n a w hf hs
  have h1 := rv_run h hf hs
  have h2 := rv_run k hf hs
  rw [results_eq, hr]
  simp [h1, h2]

theorem res3 {r s q : ResultVar} {v u x : Value} (hr : fn.results = #[r, s, q]) (h : RV P t L R r v) (k : RV P t L R s u) (m : RV P t L R q x) : ∀ c n a w, Fr n t a → St c L R w → (results fn a.tmps).run P w = .ok (.tuple #[v, u, x]) w := by
  intro c n a w hf hs
  have h1 := rv_run h hf hs
  have h2 := rv_run k hf hs
  have h3 := rv_run m hf hs
  rw [results_eq, hr]
  simp [h1, h2, h3]

theorem rv_tmp {k : Nat} {v : Value} (h : t k = v) : RV P t L R (.tmp k) v := h
theorem rv_cell (tb : Tabs P) {k T n b o : Nat} {fl bt z} {kk : TK} {cs row : List Value} {T' : TypeId} (hx : t k = .pointer (some ⟨b, o, none⟩)) (hT : getT tb.tab T = some ⟨kk, n, fl, bt, z⟩) (hk : kk.isAgg = true)
    (hin : In1 ⟨b, cs, T'⟩ L) (hv : sub cs o n = row) (hn : row.length = n) : RV P t L R (.cell k T) (.agg row.toArray) := by
  intro c w hst
  refine ⟨_, hx, run_loadN (tb.ok _ _ hT) hk hn (fun j v hj => ?_)⟩
  rw [cell_own hst hin.mem]
  rw [← hv, sub, List.getElem?_take] at hj
  split at hj
  · simpa using hj
  · cases hj
theorem rv_cell1 (tb : Tabs P) {k T n b o : Nat} {fl bt z v} {kk : TK} {cs : List Value} {T' : TypeId} (hx : t k = .pointer (some ⟨b, o, none⟩)) (hT : getT tb.tab T = some ⟨kk, n, fl, bt, z⟩) (hk : kk.isAgg = false)
    (hin : In1 ⟨b, cs, T'⟩ L) (hv : cs[o]? = some v) : RV P t L R (.cell k T) v := by
  intro c w hst
  exact ⟨_, hx, run_load1 (tb.ok _ _ hT) hk (by rw [cell_own hst hin.mem]; exact hv)⟩

theorem inR_self {r : Sl} {R : List Sl} (h : r ∈ R) : InR r R := ⟨r, h, .here⟩
theorem allR_self (R : List Sl) : ∀ r ∈ R, InR r R := fun _ h => inR_self h

theorem retK_ret {v : Value} {L' : List Blk} {R' : List Sl} (h : ∀ c n a w, Fr n t a → St c L R w → (results fn a.tmps).run P w = .ok v w) (hp : Post v L' R') (hL : L'.Sublist L) (hR : ∀ r ∈ R', InR r R) : retK P fn Post .ret t L R :=
  ⟨v, L', R', h, hp, hL, hR⟩
theorem retK_normal {v : Value} {L' : List Blk} {R' : List Sl} (h : ∀ c n a w, Fr n t a → St c L R w → (results fn a.tmps).run P w = .ok v w) (hp : Post v L' R') (hL : L'.Sublist L) (hR : ∀ r ∈ R', InR r R) : retK P fn Post .normal t L R :=
  ⟨v, L', R', h, hp, hL, hR⟩
end

/-! ### Steps with the slot written out -/
section
variable {P : Program} {n : Nat} {all : Array Oper} {op : Op} {ty : TypeId} {pos : String} {after : Array Edge} {rest : List Oper} {t : Nat → Value} {L : List Blk} {R : List Sl} {Q : TPost} {d : Tmp} {v : Value}

theorem LJ_q (hv : YV P ⟨some d, op, ty, pos, after, none⟩ (ev t) L R v) (hd : Nat.blt d n = true) (h : LJ P n all rest (upd t d v) L R Q) : LJ P n all (⟨some d, op, ty, pos, after, none⟩ :: rest) t L R Q :=
  LJ_quiet hv rfl hd h
theorem LJ_g {Post : VPost} (hg : Gives P ⟨some d, op, ty, pos, after, none⟩ (ev t) L R Post) (hd : Nat.blt d n = true) (h : ∀ v L' R', Post v L' R' → LJ P n all rest (upd t d v) L' R' Q) : LJ P n all (⟨some d, op, ty, pos, after, none⟩ :: rest) t L R Q :=
  LJ_gives hg rfl hd h
theorem LJ_g0 {Post : VPost} (hg : Gives P ⟨none, op, ty, pos, after, none⟩ (ev t) L R Post) (h : ∀ v L' R', Post v L' R' → LJ P n all rest t L' R' Q) : LJ P n all (⟨none, op, ty, pos, after, none⟩ :: rest) t L R Q :=
  LJ_gives hg rfl rfl h
end

/-! ### Guards: '&&', '||' in one way -/

def stripG (j : Nat) (want : Bool) (l : List Oper) : List Oper :=
  l.map fun o => match o.guard with
    | some (k, w) => bif Nat.beq k j && (w == want) then { o with guard := none } else o
    | none => o

/-- every operation of the group hangs on operation j, or on one of the group that does; none writes j's slot -/
def groupOk (all : Array Oper) (j : Nat) (want : Bool) (cj : Nat) : List Nat → List Oper → Bool
  | _, [] => true
  | ds, o :: l =>
    (match o.guard with
     | some (k, w) => (Nat.beq k j && (w == want)) || (match (all[k]?).bind (·.dst) with
        | some d => memN d ds
        | none => false)
     | none => false) &&
    (match o.dst with
     | some d => !Nat.beq d cj && groupOk all j want cj (d :: ds) l
     | none => groupOk all j want cj ds l)

def dsts : List Oper → List Nat
  | [] => []
  | o :: l => match o.dst with
    | some d => d :: dsts l
    | none => dsts l

def mergeK (ws : List Nat) (t : Nat → Value) (x : Operand) (v : Bool) (L : List Blk) (R : List Sl) : TPost
  | .normal, t', L', R' => ev t' x = .bool v ∧ L' = L ∧ R' = R ∧ Off ws t t'
  | _, _, _, _ => False

end Go.Aw
