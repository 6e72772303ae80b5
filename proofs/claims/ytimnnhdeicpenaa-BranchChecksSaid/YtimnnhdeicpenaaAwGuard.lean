/-
  Assertion-level walks: steps with names, guards. By an AI agent; no person has read it.
-/
import Derived.Test.YtimnnhdeicpenaaAwMem
set_option linter.unusedSimpArgs false
set_option linter.unusedVariables false
namespace Go.Aw
open Go

section
variable {P : Program} {n : Nat} {all : Array Oper} {ty : TypeId} {pos : String} {after : Array Edge} {rest : List Oper} {t : Nat → Value} {L L' : List Blk} {R : List Sl} {Q : TPost} {d : Tmp} (tb : Tabs P) {T : TypeId} {x y : Operand}

theorem LJ_call {f : FuncId} {xs : List Operand} {ts : Array TypeId} {args : List Value} {Post : VPost} (ha : xs.map (ev t) = args) (h : Tri P f args.toArray L R Post) (hd : Nat.blt d n = true)
    (k : ∀ v L' R', Post v L' R' → LJ P n all rest (upd t d v) L' R' Q) : LJ P n all (⟨some d, .call ⟨.value (.func f), xs.toArray, ts⟩, ty, pos, after, none⟩ :: rest) t L R Q :=
  LJ_g (gives_call (by rw [List.map_toArray, ha]) rfl h) hd k

theorem LJ_alloc {k m fl bt z} (hT : getT tb.tab T = some ⟨k, m, fl, bt, z⟩) (hd : Nat.blt d n = true)
    (h : ∀ b, LJ P n all rest (upd t d (.pointer (some ⟨b, 0, none⟩))) (⟨b, z, T⟩ :: L) R Q) : LJ P n all (⟨some d, .alloc T, ty, pos, after, none⟩ :: rest) t L R Q :=
  LJ_g (gives_alloc tb hT) hd fun v L' R' ⟨b, e1, e2, e3⟩ => by subst e1; subst e2; subst e3; exact h b

theorem LJ_box1 {v : Value} (hx : ev t x = v) (h1 : v.oneCell' = true) (hd : Nat.blt d n = true)
    (h : ∀ b, LJ P n all rest (upd t d (.pointer (some ⟨b, 0, none⟩))) (⟨b, [v], T⟩ :: L) R Q) : LJ P n all (⟨some d, .box T x, ty, pos, after, none⟩ :: rest) t L R Q :=
  LJ_g (gives_box1 hx h1) hd fun v L' R' ⟨b, e1, e2, e3⟩ => by subst e1; subst e2; subst e3; exact h b

theorem LJ_boxN {row : List Value} (hx : ev t x = .agg row.toArray) (hd : Nat.blt d n = true)
    (h : ∀ b, LJ P n all rest (upd t d (.pointer (some ⟨b, 0, none⟩))) (⟨b, row, T⟩ :: L) R Q) : LJ P n all (⟨some d, .box T x, ty, pos, after, none⟩ :: rest) t L R Q :=
  LJ_g (gives_boxN hx) hd fun v L' R' ⟨b, e1, e2, e3⟩ => by subst e1; subst e2; subst e3; exact h b

theorem LJ_store1 {k m fl bt z b o} {cs cs' : List Value} {v : Value} {T' : TypeId} (hT : getT tb.tab T = some ⟨k, m, fl, bt, z⟩) (hx : ev t x = .pointer (some ⟨b, o, none⟩)) (hy : ev t y = v) (hn : m = 1)
    (hu : Upd1 b cs T' cs' L L') (hfit : Nat.blt o cs.length = true) (hcs : cs.set o v = cs') (h1 : v.oneCell' = true)
    (h : LJ P n all rest t L' R Q) : LJ P n all (⟨none, .store T x y, ty, pos, after, none⟩ :: rest) t L R Q :=
  LJ_g0 (gives_store1 tb hT hx hy hn hu hfit hcs h1) fun _ L'' R' ⟨e1, e2⟩ => by subst e1; subst e2; exact h

theorem LJ_storeN {k m fl bt z b o} {cs vs cs' : List Value} {T' : TypeId} (hT : getT tb.tab T = some ⟨k, m, fl, bt, z⟩) (hx : ev t x = .pointer (some ⟨b, o, none⟩)) (hy : ev t y = .agg vs.toArray) (hn : vs.length = m)
    (hu : Upd1 b cs T' cs' L L') (hfit : Nat.ble (o + vs.length) cs.length = true) (hcs : cs.take o ++ vs ++ cs.drop (o + vs.length) = cs') (h1 : vs.all (·.oneCell') = true)
    (h : LJ P n all rest t L' R Q) : LJ P n all (⟨none, .store T x y, ty, pos, after, none⟩ :: rest) t L R Q :=
  LJ_g0 (gives_storeN tb hT hx hy hn hu hfit hcs h1) fun _ L'' R' ⟨e1, e2⟩ => by subst e1; subst e2; exact h

/-- a store over a whole variable -/
theorem LJ_storeW {k m fl bt z b} {cs vs : List Value} {T' : TypeId} (hT : getT tb.tab T = some ⟨k, m, fl, bt, z⟩) (hx : ev t x = .pointer (some ⟨b, 0, none⟩)) (hy : ev t y = .agg vs.toArray) (hn : vs.length = m)
    (hu : Upd1 b cs T' vs L L') (hfit : vs.length = cs.length) (h1 : vs.all (·.oneCell') = true)
    (h : LJ P n all rest t L' R Q) : LJ P n all (⟨none, .store T x y, ty, pos, after, none⟩ :: rest) t L R Q :=
  LJ_storeN tb hT hx hy hn hu (by simp [hfit]) (by simp [hfit]) h1 h
end

/-! ### Guards -/

theorem Oper.wp_put {P : Program} {o : Oper} {a : Act} {w : World} {K : Act → World → Prop} {Q : Exit → Act → World → Prop} (h : o.wp P a w K Q) :
    o.wp P a w (fun a' w' => K a' w' ∧ ∃ v, a'.tmps = (a.put o.dst v).tmps) Q := by
  unfold Oper.wp at *
  generalize (execOp a.eval o).run P w = r at *
  cases r with
  | ok x w' =>
    cases x <;> simp only [Oper.upon] at h ⊢ <;>
      first
        | exact ⟨h, _, rfl⟩
        | exact Calls.mono h (fun e w'' he => by cases e <;> first | exact ⟨he, _, rfl⟩ | exact he)
        | exact Rows.mono h (fun _ _ he => ⟨he, _, rfl⟩)
        | exact h
        | skip
    case defer d => exact ⟨h, undef, by cases o.dst <;> rfl⟩
  | halt x w' => cases x <;> exact h

theorem wanted_of (all : Array Oper) (o : Oper) (tmps tmps' : Array Value) (h : ∀ j w, o.guard = some (j, w) → yielded all tmps j = yielded all tmps' j) : Region.wanted o (yielded all tmps) = Region.wanted o (yielded all tmps') := by
  unfold Region.wanted
  cases hg : o.guard with
  | none => rfl
  | some p => obtain ⟨j, w⟩ := p; simp only [h j w hg]

/-- the group is taken: its guards are struck -/
theorem group_taken {P : Program} {all : Array Oper} {j : Nat} {want : Bool} {cj : Nat} {Q Q' : Exit → Act → World → Prop} {tail : List Oper} (hj : (all[j]?).bind (·.dst) = some cj)
    (hQ : ∀ e a w, e ≠ .normal → Q e a w → Q' e a w) (hT : ∀ a w, Q .normal a w → wpList P all Q' tail a w) :
    ∀ (G : List Oper) (ds : List Nat), groupOk all j want cj ds G = true → ∀ (a : Act) (w : World), a.tmps[cj]? = some (.bool want) →
      wpList P all Q (stripG j want G) a w → wpList P all Q' (G ++ tail) a w
  | [], _, _, a, w, _, h => hT a w h
  | o :: G, ds, hok, a, w, hc, h => by
    simp only [groupOk, Bool.and_eq_true] at hok
    obtain ⟨hg, hrest⟩ := hok
    have hyj : yielded all a.tmps j = some want := by
      unfold yielded
      rw [hj]
      simp [hc]
    -- the stripped operation runs as the operation itself
    have hsame : ∃ o', stripG j want (o :: G) = o' :: stripG j want G ∧ o'.op = o.op ∧ o'.dst = o.dst ∧ o'.type = o.type ∧ Region.wanted o' (yielded all a.tmps) = Region.wanted o (yielded all a.tmps) := by
      cases hgd : o.guard with
      | none => exact ⟨o, by simp [stripG, hgd], rfl, rfl, rfl, rfl⟩
      | some p =>
        obtain ⟨k, wk⟩ := p
        cases hb : (Nat.beq k j && (wk == want)) with
        | false => exact ⟨o, by simp [stripG, hgd, hb], rfl, rfl, rfl, rfl⟩
        | true =>
          simp only [Bool.and_eq_true, Nat.beq_eq, beq_iff_eq] at hb
          refine ⟨{ o with guard := none }, by simp [stripG, hgd, hb.1, hb.2], rfl, rfl, rfl, ?_⟩
          simp [Region.wanted, hgd, hb.1, hb.2, hyj]
    obtain ⟨o', e1, e2, e3, e4, e5⟩ := hsame
    rw [e1] at h
    have next : ∀ (a' : Act) (w' : World) (v : Value), a'.tmps = (a.put o.dst v).tmps → wpList P all Q (stripG j want G) a' w' → wpList P all Q' (G ++ tail) a' w' := by
      intro a' w' v hv h'
      have hc' : a'.tmps[cj]? = some (.bool want) := by
        rw [hv]
        cases hd : o.dst with
        | none => exact hc
        | some d =>
          rw [hd] at hrest
          simp only [Bool.and_eq_true, Bool.not_eq_true'] at hrest
          have hne : d ≠ cj := fun e => by rw [e] at hrest; simp at hrest
          simp only [Act.put]
          rw [Array.getElem?_setIfInBounds_ne hne]
          exact hc
      cases hd : o.dst with
      | none => rw [hd] at hrest; exact group_taken hj hQ hT G ds hrest a' w' hc' h'
      | some d => rw [hd] at hrest; simp only [Bool.and_eq_true] at hrest; exact group_taken hj hQ hT G _ hrest.2 a' w' hc' h'
    have hexec : ∀ a : Act, execOp a.eval o' = execOp a.eval o := by
      intro a
      obtain ⟨od, oo, ot, op, oa, og⟩ := o
      obtain ⟨pd, po, pt, pp, pa, pg⟩ := o'
      simp only at e2 e3 e4
      subst e2; subst e3; subst e4
      rfl
    simp only [List.cons_append]
    unfold wpList at h ⊢
    rw [e5] at h
    split
    · rename_i hw
      rw [if_pos hw] at h
      rcases h with h | ⟨h, h2⟩
      · refine .inl ?_
        have h' := Oper.wp_put h
        unfold Oper.wp at h' ⊢
        rw [hexec] at h'
        generalize (execOp a.eval o).run P w = r at *
        cases r with
        | ok x w' =>
          cases x <;> simp only [Oper.upon, e3] at h' ⊢ <;>
            first
              | (obtain ⟨h1, v, hv⟩ := h'; exact next _ _ v hv h1)
              | exact h'
              | skip
          case enter f args =>
            refine Calls.mono h' fun e w'' he => ?_
            cases e with
            | returned u => obtain ⟨h1, v, hv⟩ := he; exact next _ _ v hv h1
            | panicked c => exact hQ _ _ _ (by simp) he
            | outgrown => obtain ⟨a0, w0, he⟩ := he; exact ⟨a0, w0, hQ _ _ _ (by simp) he⟩
          case row row args => exact Rows.mono h' fun u w'' he => by obtain ⟨h1, v, hv⟩ := he; exact next _ _ v hv h1
        | halt x w' =>
          cases x <;> simp only [Oper.upon] at h' ⊢ <;> first | exact h' | exact hQ _ _ _ (by simp) h'
      · refine .inr ⟨?_, ?_⟩
        · unfold Oper.asks at *
          rw [hexec] at h
          exact h
        · obtain ⟨a0, w0, he⟩ := h2; exact ⟨a0, w0, hQ _ _ _ (by simp) he⟩
    · rename_i hw
      rw [if_neg hw, e3] at h
      exact next _ _ undef rfl h

/-- the group is passed over -/
theorem group_left {P : Program} {all : Array Oper} {j : Nat} {want : Bool} {cj : Nat} {Q' : Exit → Act → World → Prop} {tail : List Oper} (hj : (all[j]?).bind (·.dst) = some cj) :
    ∀ (G : List Oper) (ds : List Nat), groupOk all j want cj ds G = true → ∀ (a : Act) (w : World), a.tmps[cj]? = some (.bool (!want)) → (∀ d, memN d ds = true → a.tmps.getD d undef = undef) →
      (∀ a' : Act, a'.defers = a.defers → a'.tmps.size = a.tmps.size → (∀ d, memN d (dsts G) = false → a'.tmps.getD d undef = a.tmps.getD d undef) → wpList P all Q' tail a' w) → wpList P all Q' (G ++ tail) a w
  | [], _, _, a, w, _, _, h => h a rfl rfl (fun _ _ => rfl)
  | o :: G, ds, hok, a, w, hc, hds, h => by
    simp only [groupOk, Bool.and_eq_true] at hok
    obtain ⟨hg, hrest⟩ := hok
    have hw : Region.wanted o (yielded all a.tmps) = false := by
      cases hgd : o.guard with
      | none => rw [hgd] at hg; cases hg
      | some p =>
        obtain ⟨k, wk⟩ := p
        rw [hgd] at hg
        simp only [Bool.or_eq_true, Bool.and_eq_true, Nat.beq_eq, beq_iff_eq] at hg
        unfold Region.wanted
        rw [hgd]
        rcases hg with ⟨hk, hwk⟩ | hg
        · subst hk; subst hwk
          have : yielded all a.tmps k = some (!wk) := by unfold yielded; rw [hj]; simp [hc]
          simp only [this]
          cases wk <;> rfl
        · cases hd : (all[k]?).bind (·.dst) with
          | none => rw [hd] at hg; cases hg
          | some d =>
            rw [hd] at hg
            have h0 := hds d hg
            have : yielded all a.tmps k = none := by
              unfold yielded
              rw [hd]
              simp only [Option.bind_some]
              rcases Nat.lt_or_ge d a.tmps.size with h' | h'
              · simp only [Array.getD_eq_getD_getElem?, Array.getElem?_eq_getElem h', Option.getD_some] at h0
                rw [Array.getElem?_eq_getElem h', h0]
                rfl
              · rw [Array.getElem?_eq_none h']
            simp [this]
    simp only [List.cons_append]
    unfold wpList
    rw [hw, if_neg (by simp)]
    cases hd : o.dst with
    | none =>
      rw [hd] at hrest
      refine group_left hj G ds hrest a w hc hds ?_
      intro a' h1 h2 h3
      exact h a' h1 h2 (by simpa [dsts, hd] using h3)
    | some d =>
      rw [hd] at hrest
      simp only [Bool.and_eq_true, Bool.not_eq_true'] at hrest
      have hne : d ≠ cj := fun e => by have := hrest.1; rw [e] at this; simp at this
      refine group_left hj G (d :: ds) hrest.2 _ w ?_ ?_ ?_
      · simp only [Act.put]
        rw [Array.getElem?_setIfInBounds_ne hne]
        exact hc
      · intro x hx
        simp only [Act.put]
        by_cases hxd : x = d
        · subst hxd
          rcases Nat.lt_or_ge x a.tmps.size with h' | h'
          · simp [h']
          · simp [h']
        · simp only [memN, beqF hxd, cond_false] at hx
          have := hds x hx
          simp only [Array.getD_eq_getD_getElem?] at this ⊢
          rw [Array.getElem?_setIfInBounds_ne (Ne.symm hxd)]
          exact this
      · intro a' h1 h2 h3
        refine h a' h1 (by rw [h2]; simp [Act.put]) (fun x hx => ?_)
        simp only [dsts, hd, memN] at hx
        have hxd : x ≠ d := fun e => by rw [e] at hx; simp at hx
        rw [beqF hxd, cond_false] at hx
        rw [h3 x hx]
        simp only [Act.put, Array.getD_eq_getD_getElem?]
        rw [Array.getElem?_setIfInBounds_ne (Ne.symm hxd)]

section
variable {P : Program} {n : Nat} {all : Array Oper} {ty : TypeId} {pos : String} {after : Array Edge} {rest : List Oper} {t : Nat → Value} {L L' : List Blk} {R : List Sl} {Q : TPost} {d : Tmp} {y : Operand}

/-- 'a && b', 'a || b': the second part, where it is asked, comes to the Bool v -/
theorem LJ_merge {G : List Oper} {j cj : Nat} {want u v : Bool} {c : Bool} {x1 x2 xin : Operand} (hj : (all[j]?).bind (·.dst) = some cj) (hcn : Nat.blt cj n = true) (hok : groupOk all j want cj [] G = true) (hmc : memN cj (dsts G) = false)
    (hc : t cj = .bool c) (hd : Nat.blt d n = true)
    (hpick : (if want then x1 else x2) = xin ∧ (if want then x2 else x1) = .const (.bool u))
    (h : c = want → LJ P n all (stripG j want G) t L R (mergeK (dsts G) t xin v L R))
    (k : ∀ junk, LJ P n all rest (upd (havoc (dsts G) t junk) d (.bool (if c = want then v else u))) L R Q) :
    LJ P n all (G ++ ⟨some d, .pick (.tmp cj) x1 x2, ty, pos, after, none⟩ :: rest) t L R Q := by
  intro cx a w hf hs
  have hcn' : cj < a.tmps.size := by rw [hf.size]; simpa using hcn
  have hca : a.tmps[cj]? = some (.bool c) := by
    have := hf.val cj
    rw [hc] at this
    simpa [hcn'] using this
  have fin : ∀ (a' : Act) (w' : World) (t' : Nat → Value) (b : Bool), Fr n t' a' → St cx L R w' → Off (dsts G) t t' → (if c then ev t' x1 else ev t' x2) = .bool b → b = (if c = want then v else u) →
      wpList P all (liftK n cx Q) (⟨some d, .pick (.tmp cj) x1 x2, ty, pos, after, none⟩ :: rest) a' w' := by
    intro a' w' t' b hf' hs' ho hb e
    have hcj : ev t' (.tmp cj) = .bool c := (ho cj hmc).trans hc
    have hy : YV P ⟨some d, .pick (.tmp cj) x1 x2, ty, pos, after, none⟩ (ev t') L R (.bool b) := by
      rw [← hb]; exact yv_pick hcj
    refine LJ_q hy hd ?_ cx a' w' hf' hs'
    rw [e]
    have := k t'
    rwa [havoc_eq_self ho] at this
  by_cases hcw : c = want
  · subst hcw
    refine group_taken (Q := liftK n cx (mergeK (dsts G) t xin v L R)) hj (fun e a w hne hq => ?_) (fun a' w' hq => ?_) G [] hok a w hca (h rfl cx a w hf hs)
    · obtain ⟨_, t', L', R', hq, _⟩ := hq
      cases e <;> first | exact hq.elim | exact absurd rfl hne
    · obtain ⟨_, t', L', R', hq, hf', hs'⟩ := hq
      obtain ⟨e1, e2, e3, e4⟩ := hq
      subst e2; subst e3
      refine fin a' w' t' v hf' hs' e4 ?_ (by simp)
      rw [← e1, ← hpick.1]
      cases c <;> rfl
  · have hca' : a.tmps[cj]? = some (.bool (!want)) := by rw [hca]; cases c <;> cases want <;> simp_all
    refine group_left hj G [] hok a w hca' (fun d hd => by cases hd) (fun a' h1 h2 h3 => ?_)
    refine fin a' w (fun k => a'.tmps.getD k undef) u ⟨h1.trans hf.defers, h2.trans hf.size, fun _ => rfl⟩ hs (fun k hk => (h3 k hk).trans (hf.val k)) ?_ (by rw [if_neg hcw])
    have : (if want then x2 else x1) = .const (.bool u) := hpick.2
    cases c <;> cases want <;> simp_all [ev]

theorem LJ_and {G : List Oper} {j cj : Nat} {v c : Bool} {xin : Operand} (hj : (all[j]?).bind (·.dst) = some cj) (hcn : Nat.blt cj n = true) (hok : groupOk all j true cj [] G = true) (hmc : memN cj (dsts G) = false)
    (hc : t cj = .bool c) (hd : Nat.blt d n = true) (h : c = true → LJ P n all (stripG j true G) t L R (mergeK (dsts G) t xin v L R))
    (k : ∀ junk, LJ P n all rest (upd (havoc (dsts G) t junk) d (.bool (c && v))) L R Q) :
    LJ P n all (G ++ ⟨some d, .pick (.tmp cj) xin (.const (.bool false)), ty, pos, after, none⟩ :: rest) t L R Q :=
  LJ_merge (want := true) (u := false) hj hcn hok hmc hc hd ⟨rfl, rfl⟩ h (fun junk => by have := k junk; cases c <;> exact this)

theorem LJ_or {G : List Oper} {j cj : Nat} {v c : Bool} {xin : Operand} (hj : (all[j]?).bind (·.dst) = some cj) (hcn : Nat.blt cj n = true) (hok : groupOk all j false cj [] G = true) (hmc : memN cj (dsts G) = false)
    (hc : t cj = .bool c) (hd : Nat.blt d n = true) (h : c = false → LJ P n all (stripG j false G) t L R (mergeK (dsts G) t xin v L R))
    (k : ∀ junk, LJ P n all rest (upd (havoc (dsts G) t junk) d (.bool (c || v))) L R Q) :
    LJ P n all (G ++ ⟨some d, .pick (.tmp cj) (.const (.bool true)) xin, ty, pos, after, none⟩ :: rest) t L R Q :=
  LJ_merge (want := false) (u := true) hj hcn hok hmc hc hd ⟨rfl, rfl⟩ h (fun junk => by have := k junk; cases c <;> exact this)

theorem mergeK_mk {ws : List Nat} {t0 : Nat → Value} {xin : Operand} {v : Bool} (h1 : ev t xin = .bool v) (h2 : Off ws t0 t) : mergeK ws t0 xin v L R .normal t L R := ⟨h1, rfl, rfl, h2⟩
end
end Go.Aw
