import Derived.Test.YtkpfjmibipblhaaData
import Derived.Test.YtkpfjmibipblhaaOwn
import Derived.Test.YtkpfjmibipblhaaRuleD
import Derived.Test.YtkpfjmibipblhaaRestR
import Derived.Test.YtkpfjmibipblhaaEval
import Derived.Test.YtkpfjmibipblhaaFed
section
/-
  Appending nothing. By an AI agent; no person has read it.
-/
set_option linter.unusedSimpArgs false
set_option linter.unusedVariables false
namespace Go.Proofs.Ytkpfjmibipblhaa
open Go.Aw Go
section
variable {P : Program} {ρ : Operand → Value} {L : List Blk} {R : List Sl} {dst : Option Tmp} {ty : TypeId} {pos : String} {after : Array Edge} {guard : Option (Nat × Bool)} (tb : Tabs P) {T : TypeId} {x y : Operand}
end
theorem all_flat {α : Type} {f : α → List Value} (h1 : ∀ x, (f x).all (·.oneCell') = true) : ∀ l : List α, (l.flatMap f).all (·.oneCell') = true
  | [] => rfl
  | x :: l => by rw [List.flatMap_cons, List.all_append, h1 x, all_flat h1 l]; rfl
theorem shown_ow {α : Type} {f : α → List Value} {wd : Nat} {T' : TypeId} {q : OwL α} {L : List Blk} {R : List Sl} (hf : ∀ x, (f x).length = wd) (hok : q.ok wd f) (hin : InB (q.L T' f) L) (hm : 0 < q.l.length) : Shown L R q.val q.l.length wd (q.l.flatMap f) := by
  obtain ⟨g, cap, spare, ho⟩ := OwL.own_of hok hm
  refine ⟨⟨g, 0, none⟩, cap, by rw [OwL.val, ho]; rfl, rows_length hf q.l, fun c w hst j u hj => ?_⟩
  have hmem : (⟨g, q.l.flatMap f ++ spare, T'⟩ : Blk) ∈ L := hin _ (by rw [OwL.L, ho]; simp [Ow.L])
  rw [add_none, Nat.zero_add, cell_own hst hmem]
  rw [List.getElem?_append_left (List.getElem?_eq_some_iff.1 hj).1]
  exact hj
section
variable {P : Program} {ρ : Operand → Value} {L : List Blk} {R : List Sl} {dst : Option Tmp} {ty : TypeId} {pos : String} {after : Array Edge} {guard : Option (Nat × Bool)} (tb : Tabs P) {T : TypeId} {x y : Operand}
theorem gives_appendN {α : Type} {e n fl bt z k2 n2 fl2 bt2 z2} {f : α → List Value} (p q : OwL α) {T' : TypeId} {F : OwL α → List Blk} (hT : getT tb.tab T = some ⟨.slice e, n, fl, bt, z⟩) (hE : getT tb.tab e = some ⟨k2, n2, fl2, bt2, z2⟩) (hn2 : z2.length = n2)
    (hx : ρ x = p.val) (hy : ρ y = q.val) (hok : p.ok n2 f) (hokq : q.ok n2 f) (hf : ∀ x, (f x).length = n2) (hseg : OSeg e f p L F) (hB : InB (q.L T' f) L) (hm : 0 < q.l.length) (h1 : ∀ x, (f x).all (·.oneCell') = true) (hby : (p.l.length + q.l.length) * (bt2 + 1) ≤ 140737488355328) :
    Gives P ⟨dst, .call ⟨.builtin .append, #[x, y], #[T, T]⟩, ty, pos, after, guard⟩ ρ L R (fun v L' R' => ∃ o : Ow, v = (⟨o, p.l ++ q.l⟩ : OwL α).val ∧ (⟨o, p.l ++ q.l⟩ : OwL α).ok n2 f ∧ F ⟨o, p.l ++ q.l⟩ = L' ∧ R = R') := by
  have hsh : Shown L R q.val q.l.length n2 (q.l.flatMap f) := shown_ow hf hokq hB hm
  rw [← hy] at hsh
  obtain ⟨A, B, hL, hF⟩ := hseg.split
  subst hL
  have hb1 : (p.l.length + q.l.length) * bt2 ≤ 140737488355328 := Nat.le_trans (Nat.mul_le_mul_left _ (Nat.le_succ _)) hby
  have hb2 : p.l.length + q.l.length ≤ 140737488355328 := Nat.le_trans (Nat.le_mul_of_pos_right _ (Nat.succ_pos _)) hby
  have hx' : ρ x = p.o.val p.l.length := by rw [hx, Ow.val_of_ok hok]; rfl
  have := gives_append (dst := dst) (ty := ty) (pos := pos) (after := after) (guard := guard) tb hT hE hn2 hx' hok (seg_mid A _ B) hsh hm (all_flat h1 _) (by omega) hb1
  intro c w hst ac next Q kk
  refine this c w hst ac next Q ?_
  rintro v L' R' w' ⟨g, cap, spare, rfl, hok', rfl, rfl⟩ hst'
  have e : p.l.flatMap f ++ q.l.flatMap f = (p.l ++ q.l).flatMap f := by simp
  rw [e] at hok'
  have hl : (p.l ++ q.l).length = p.l.length + q.l.length := by simp
  refine kk _ _ _ w' ⟨.own g cap spare, ?_, ?_, ?_, rfl⟩ hst'
  · rw [OwL.val]; dsimp only; rw [hl]; rfl
  · rw [OwL.ok]; dsimp only; rw [hl]; exact hok'
  · rw [hF, OwL.L]; dsimp only; rw [← e]
end
def joinPK {γ : Type} (ws : List Nat) (t0 : Nat → Value) (hd : Head γ) (Q : TPost) : TPost
  | .normal, t, L, R => ∃ g, Off ws t0 t ∧ Shows t (hd.slots g) ∧ (∃ L1, L.Perm L1 ∧ (hd.L g).Sublist L1) ∧ ∀ r ∈ hd.R g, InR r R
  | e, t, L, R => Q e t L R
theorem joinPK_mk {γ : Type} {ws : List Nat} {t0 t : Nat → Value} {L L1 : List Blk} {R : List Sl} {hd : Head γ} {Q : TPost} (g : γ) (ho : Off ws t0 t) (hs : Shows t (hd.slots g)) (hp : L.Perm L1) (hL : (hd.L g).Sublist L1) (hR : ∀ r ∈ hd.R g, InR r R) : joinPK ws t0 hd Q .normal t L R := ⟨g, ho, hs, ⟨L1, hp, hL⟩, hR⟩
theorem CJ_permL {P n code t L L' R} {Q : TPost} (hp : L.Perm L') (h : CJ P n code t L' R Q) : CJ P n code t L R Q := CJ_turn fun _ _ hst => ⟨_, _, hst.perm hp, h⟩
theorem CJ_joinP {γ : Type} {P n x y t L R} {Q : TPost} (ws : List Nat) (hd : Head γ) (h : CJ P n x t L R (joinPK ws t hd Q)) (k : ∀ g junk, CJ P n y (updL (havoc ws t junk) (hd.slots g)) (hd.L g) (hd.R g) Q) : CJ P n x t L R (seqK P n y Q) := by
  intro c a w hf hs
  refine wp_mono (h c a w hf hs) ?_
  rintro e a w ⟨hnp, t', L', R', hq, hf', hs'⟩
  cases e with
  | normal =>
    obtain ⟨g, ho, hsh, ⟨L1, hp, hL⟩, hR⟩ := hq
    have e : updL (havoc ws t t') (hd.slots g) = t' := by rw [havoc_eq_self ho, updL_of_shows hsh]
    refine ⟨trivial, t', L', R', ?_, hf', hs'⟩
    have := k g t'
    rw [e] at this
    exact CJ_permL hp (CJ_weak hL hR this)
  | _ => exact ⟨hnp, t', L', R', hq, hf', hs'⟩
theorem gives_callL {P : Program} {dst : Option Tmp} {f : FuncId} {xs : List Operand} {ts : Array TypeId} {pos : String} {after : Array Edge} {guard : Option (Nat × Bool)} {ty : TypeId} {t : Nat → Value} {L : List Blk} {R : List Sl} {args : List Value} {Post : VPost} (ha : xs.map (ev t) = args)
    (h : Tri P f args.toArray L R Post) : Gives P ⟨dst, .call ⟨.value (.func f), xs.toArray, ts⟩, ty, pos, after, guard⟩ (ev t) L R Post :=
  gives_call (by rw [← ha]; simp) rfl h
theorem YV.gives2 {P op ρ L R v} (h : YV P op ρ L R v) : Gives P op ρ L R (fun v' L' R' => v' = v ∧ L = L' ∧ R = R') := by
  intro c w hs a next Q k
  rw [h c w hs]
  exact k v L R w ⟨rfl, rfl, rfl⟩ hs
theorem CJ_frzS {α : Type} {P n code t L R} {Q : TPost} {T : TypeId} {f : α → List Value} {wd : Nat} (p : OwL α) (subs : List Sl) {F : OwL α → List Blk} (hseg : OSeg T f p L F) (hf : ∀ x, (f x).length = wd) (hwd : 0 < wd) (hok : p.ok wd f) (hs : ∀ s ∈ subs, InR s R)
    (h : CJ P n code t (F OwL.nil) (p.arr.sl wd f subs :: R) Q) : CJ P n code t L R Q := by
  obtain ⟨A, B, hL, hF⟩ := hseg.split
  rw [hF] at h
  rw [hL, List.append_assoc]
  refine CJ_frz1 subs hf hwd hok hs ?_
  have e : A ++ (OwL.nil : OwL α).L T f ++ B = A ++ B := by rw [nil_L, List.append_nil]
  rw [← e]
  exact h
end Go.Proofs.Ytkpfjmibipblhaa
end
section
/-
  The draws of chapter 20: rules, thresholds, conditions. By an AI agent; no person has read it.
-/
set_option linter.unusedSimpArgs false
set_option linter.unusedVariables false
namespace Go.Proofs.Ytkpfjmibipblhaa
open Go.Aw Go
set_option maxRecDepth 20000
attribute [local irreducible] CJ LJ DJ Tri YV Gives seqK blockK loopK retK RV mergeK OwL.L
section
variable {A9 B9 : Prop}
theorem ybuaa (a : A9) (h : A9 → B9 := by exact LJ_g (gives_buildSlice (qs := [(0, (Value.agg _).cells.toList)]) (out := [_, _, _, _]) tb rfl rfl rfl rfl rfl rfl rfl) rfl) : B9 := h a
theorem ybuab (a : A9) (h : A9 → B9 := by exact LJ_q (yv_index_ow tb ((⟨b.o, bs1⟩ : OwL XNode)) _ rfl rfl ((show _ = Value.slice _ _ _ from rfl).trans (by simp only [OwL.val, hb1l])) rfl (by assumption) (i := i) (by first | rfl | omega | (simp; omega)) (by first | omega | (dsimp only; omega) | (dsimp only; rw [List.length_set]; omega) | (dsimp only; simp only [List.length_set]; omega))) rfl) : B9 := h a
theorem ybuac (a : A9) (h : A9 → B9 := by exact LJ_q (yv_index_ow tb ((⟨b.o, bs⟩ : OwL XNode)) _ rfl rfl ((show _ = Value.slice _ _ _ from rfl).trans (by simp only [OwL.val, hbl])) rfl (by assumption) (i := i) (by first | rfl | omega | (simp; omega)) (by first | omega | (dsimp only; omega) | (dsimp only; rw [List.length_set]; omega) | (dsimp only; simp only [List.length_set]; omega))) rfl) : B9 := h a
theorem ybuad (a : A9) (h : A9 → B9 := by exact LJ_q (yv_load1_ow tb ((⟨b.o, bs1⟩ : OwL XNode)) rfl rfl rfl (by repeat (first | apply OSeg.cons | exact OSeg.here | exact OSeg.last | exact OSeg.at (by assumption) | apply OSeg.app)) (by assumption) (fun _ => rfl) (by assumption) (by rfl)) rfl) : B9 := h a
theorem ybuae (a : A9) (h : A9 → B9 := by exact LJ_q (yv_build (qs := [(0, (Value.int _ _).cells.toList), (1, (Value.int _ _).cells.toList)]) (out := [_, _, _, _]) tb rfl rfl rfl rfl) rfl) : B9 := h a
theorem ybuaf (a : A9) (h : A9 → B9 := by exact LJ_q (yv_load1_ow tb ((⟨b.o, bs⟩ : OwL XNode)) rfl rfl rfl (by repeat (first | apply OSeg.cons | exact OSeg.here | exact OSeg.last | exact OSeg.at (by assumption) | apply OSeg.app)) (by assumption) (fun _ => rfl) (by assumption) (by rfl)) rfl) : B9 := h a
end
def RuleT (c : Nat) (x : Arr Int) (R : List Sl) (conds n : Nat) : Prop := ∀ k, k ≤ x.l.length → Tri Try.prog 51 [.pointer (some ⟨c, 0, none⟩), .int .i64 (conds : Int), .int .i64 (n : Int)].toArray [cblk c x k] R
  (fun v L' R' => ∃ (p : OwL XNode) (k' : Nat), v = p.val ∧ p.ok 4 XNode.cells ∧ RuleD conds n p.l ∧ k' ≤ x.l.length ∧ p.L 161 XNode.cells ++ (cblk c x k' :: []) = L' ∧ R = R')
theorem drawRule_0 (c : Nat) (x : Arr Int) (R : List Sl) (conds : Nat) (hx : CodesR x R) (hc : 1 ≤ conds ∧ conds ≤ 64) : RuleT c x R conds 0 := by
  intro k hk
  refine tri_enter 106 Try.call51 Try.func51 rfl rfl rfl ?_
  refine qae ?_
  refine qc4 ?_
  refine qaw ?_
  refine qaa ?_
  refine qaj ?_
  refine qah ?_
  refine LJ_case (k := 13) (show _ = Value.bool _ from rfl) (fun hg3 => ?_) (fun hg3 => ?_)
  ·
   replace hg3 := qb hg3
   iterate 3 refine LJ_skg rfl rfl ?_
   refine LJ_q (by first | exact yv_pick_true rfl rfl | exact yv_pick_false rfl rfl | exact yv_pick rfl) rfl ?_
   refine qaf ?_
   refine CJ_cond_true rfl ?_
   refine qae ?_
   refine qa6 ?_
   refine qaa ?_
   refine LJ_call rfl (next1 (by repeat (first | apply USeg.here | apply USeg.cons | apply USeg.app)) hx hk (by omega)) rfl ?_
   rintro v L' R' ⟨r1, k1, rfl, g1, g1', g1'', hk1, rfl, rfl⟩
   have g1q := g1' (by omega)
   refine ybuae ?_
   refine ybuaa ?_
   rintro v L' R' ⟨b22, rfl, rfl, hR22⟩
   replace hR22 := hR22.symm; subst hR22
   refine qc4 ?_
   refine qbh ?_
   refine retK_ret (L' := (⟨.own b22 1 [], [⟨1, r1, 0, 0⟩]⟩ : OwL XNode).L 161 XNode.cells ++ (cblk c x k1 :: [])) (R' := R) (res1 rfl (rv_tmp (show _ = Value.slice _ _ _ from rfl))) ?hp ?hL ?hR
   case hp => exact ⟨⟨.own b22 1 [], [⟨1, r1, 0, 0⟩]⟩, k1, rfl, built_ok (fun _ => rfl) rfl (by decide), RuleD.leaf (by omega) hc.2, hk1, rfl, rfl⟩
   case hL => rw [← built_ow (f := XNode.cells) [⟨1, r1, 0, 0⟩] rfl]; exact List.Sublist.refl _
   case hR => exact allR_self _
  replace hg3 := qb hg3
  (exfalso; omega)
theorem map_range_getD {α β : Type} [Inhabited α] {l : List α} {f : α → β} : (List.range l.length).map (fun j => f (l.getD j default)) = l.map f := by
  refine List.ext_getElem? fun j => ?_
  rcases Nat.lt_or_ge j l.length with hj | hj
  · rw [List.getElem?_map, List.getElem?_range hj, List.getElem?_map, get_D (l := l) (k := j) default hj]; rfl
  · rw [List.getElem?_eq_none (by simp; omega), List.getElem?_eq_none (by simp; omega)]
theorem set_same {α : Type} {l : List α} {i : Nat} {x : α} (h : l[i]? = some x) : l.set i x = l := by
  refine List.ext_getElem? fun j => ?_
  rw [List.getElem?_set]
  split
  · rename_i e
    subst e
    rw [h]
    split
    · rfl
    · rename_i hn
      rw [List.getElem?_eq_none (by omega)] at h
      cases h
  · rfl
theorem drawRule_step (c : Nat) (x : Arr Int) (R : List Sl) (conds n : Nat) (hx : CodesR x R) (hc : 1 ≤ conds ∧ conds ≤ 64) (hn : lenB n ≤ 100) (hn2 : n ≤ 100) (ih : RuleT c x R conds n) : RuleT c x R conds (n + 1) := by
  intro k hk
  have call : ∀ k, k ≤ x.l.length → Tri Try.prog 51 [.pointer (some ⟨c, 0, none⟩), .int .i64 (conds : Int), .int .i64 (((n + 1 : Nat) : Int) - 1)].toArray [cblk c x k] R
      (fun v L' R' => ∃ (p : OwL XNode) (k' : Nat), v = p.val ∧ p.ok 4 XNode.cells ∧ RuleD conds n p.l ∧ k' ≤ x.l.length ∧ p.L 161 XNode.cells ++ (cblk c x k' :: []) = L' ∧ R = R') := fun k hk => by
    rw [show ((n + 1 : Nat) : Int) - 1 = (n : Int) by omega]; exact ih k hk
  refine tri_enter 106 Try.call51 Try.func51 rfl rfl rfl ?_
  refine qae ?_
  refine qc4 ?_
  refine qaw ?_
  refine qaa ?_
  refine qaj ?_
  refine qah ?_
  refine LJ_case (k := 13) (show _ = Value.bool _ from rfl) (fun hg3 => ?_) (fun hg3 => ?_)
  ·
   replace hg3 := qb hg3
   (exfalso; omega)
  replace hg3 := qb hg3
  refine LJ_qg (yv_move (show _ = Value.pointer _ from rfl)) rfl rfl ?_
  refine LJ_callg rfl (next1 (by repeat (first | apply USeg.here | apply USeg.cons | apply USeg.app)) hx hk (by omega)) rfl rfl ?_
  rintro v L' R' ⟨r0, k0, rfl, g0, g0', g0'', hk0, rfl, rfl⟩
  refine LJ_qg (yv_eql rfl rfl) rfl rfl ?_
  refine LJ_q (by first | exact yv_pick_true rfl rfl | exact yv_pick_false rfl rfl | exact yv_pick rfl) rfl ?_
  refine qaf ?_
  refine q_c (fun hc0 => ?_) (fun hc0 => ?_)
  ·
   refine qae ?_
   refine qa6 ?_
   refine qaa ?_
   refine LJ_call rfl (next1 (by repeat (first | apply USeg.here | apply USeg.cons | apply USeg.app)) hx hk0 (by omega)) rfl ?_
   rintro v L' R' ⟨r1, k1, rfl, g1, g1', g1'', hk1, rfl, rfl⟩
   have g1q := g1' (by omega)
   refine ybuae ?_
   refine ybuaa ?_
   rintro v L' R' ⟨b22, rfl, rfl, hR22⟩
   replace hR22 := hR22.symm; subst hR22
   refine qc4 ?_
   refine qbh ?_
   refine retK_ret (L' := (⟨.own b22 1 [], [⟨1, r1, 0, 0⟩]⟩ : OwL XNode).L 161 XNode.cells ++ (cblk c x k1 :: [])) (R' := R) (res1 rfl (rv_tmp (show _ = Value.slice _ _ _ from rfl))) ?hp ?hL ?hR
   case hp => exact ⟨⟨.own b22 1 [], [⟨1, r1, 0, 0⟩]⟩, k1, rfl, built_ok (fun _ => rfl) rfl (by decide), RuleD.leaf (by omega) hc.2, hk1, rfl, rfl⟩
   case hL => rw [← built_ow (f := XNode.cells) [⟨1, r1, 0, 0⟩] rfl]; exact List.Sublist.refl _
   case hR => exact allR_self _
  refine qbv ?_
  refine qa6 ?_
  refine qaa ?_
  refine qaa ?_
  refine qa9 ?_
  refine LJ_call rfl (call _ hk0) rfl ?_
  rintro v L' R' ⟨a, k2, rfl, hak, haD, hk2, rfl, rfl⟩
  have hal := haD.len
  refine qc4 ?_
  refine qaw ?_
  refine qa6 ?_
  refine LJ_call rfl (one1 (by repeat (first | apply USeg.here | apply USeg.cons | apply USeg.app)) hx hk2 (by omega)) rfl ?_
  rintro v L' R' ⟨bb, k3, rfl, hk3, rfl, rfl⟩
  refine qaf ?_
  refine q_c (fun hc1 => ?_) (fun hc1 => ?_)
  ·
   refine qae ?_
   refine qbm ?_
   refine qbm ?_
   refine qag ?_
   refine qa9 ?_
   refine LJ_q (yv_build (qs := [(0, (Value.int _ _).cells.toList), (2, (Value.int _ _).cells.toList)]) (out := [_, _, _, _]) tb rfl rfl rfl rfl) rfl ?_
   refine ybuaa ?_
   rintro v L' R' ⟨b35, rfl, rfl, hR35⟩
   replace hR35 := hR35.symm; subst hR35
   refine LJ_g (gives_append1 (f := XNode.cells) (p := a) (a := ⟨2, 0, (a.l.length : Int) - 1, 0⟩) tb rfl rfl rfl rfl (hak) (by repeat (first | apply OSeg.cons | exact OSeg.here | exact OSeg.last | exact OSeg.at (by assumption) | apply OSeg.app)) (shown_own (by repeat (first | exact zi0 | apply zi1 | apply zi2)) rfl rfl) rfl (by first | omega | (simp only [List.length_cons, List.length_nil, List.length_append]; omega))) rfl ?_
   rintro v L' R' ⟨o36, rfl, hok36, rfl, rfl⟩
   refine qc4 ?_
   refine qbh ?_
   refine q_r (L' := (⟨o36, a.l ++ [⟨2, 0, (a.l.length : Int) - 1, 0⟩]⟩ : OwL XNode).L 161 XNode.cells ++ (cblk c x k3 :: [])) (R' := R) (res1 rfl (rv_tmp (show _ = Value.slice _ _ _ from rfl))) ?_
   exact ⟨(⟨o36, _⟩ : OwL XNode), k3, rfl, hok36, haD.neg, hk3, rfl, rfl⟩
  refine qbv ?_
  refine qa6 ?_
  refine qaa ?_
  refine qaa ?_
  refine qa9 ?_
  refine LJ_call rfl (Tri.spl (.appB (.consL .nil)) (call _ hk3)) rfl ?_
  rintro v L' R' ⟨_, rfl, b, k4, rfl, hbk, hbD, hk4, rfl, rfl⟩
  simp only [List.append_assoc, List.cons_append, List.nil_append]
  have hbn := hbD.len
  refine qc4 ?_
  refine qaw ?_
  refine qad ?_
  refine qa2 ?_
  refine CJ_forget [(0, Value.pointer _), (7, Value.slice _ _ _), (8, Value.slice _ _ _), (9, Value.int _ _)] (by repeat' (first | exact trivial | refine And.intro rfl ?_)) fun tq0 => ?_
  refine q_p [9, 42, 43, 44, 45, 46, 47, 48, 49, 50, 51, 52, 53, 54, 55, 56, 57, 58, 59, 60, 61, 62, 63, 64, 65, 66, 67, 68, 69, 70, 71, 72, 73, 74, 75, 76, 77, 78, 79, 80, 81, 82, 83, 84, 85, 86, 87] ((⟨fun g => [(9, .int .i64 ((g.1.1 : Nat) : Int))], fun g => a.L 161 XNode.cells ++ ((⟨b.o, g.1.2⟩ : OwL XNode).L 161 XNode.cells ++ (cblk c x k4 :: [])), fun _ => R, fun g => b.l.length - g.1.1⟩ : Head {g : Nat × List XNode // g.1 ≤ b.l.length ∧ WrO b.l (fun j => shN a.l.length (b.l.getD j default)) g.1 g.2})) (⟨(0, b.l), by dsimp only; omega, .zero⟩) ?_
  rintro ⟨⟨i, bs⟩, hi, hW⟩ junk
  try dsimp only
  dsimp only at hi hW
  have hbl := hW.len
  have hbk1 : (⟨b.o, bs⟩ : OwL XNode).ok 4 XNode.cells := OwL.len_ok (fun _ => rfl) hbk hbl
  refine qbi ?_
  refine qaa ?_
  refine qbm ?_
  refine qag ?_
  refine qaj ?_
  refine qaf ?_
  refine q_c (fun hc2 => ?_) (fun hc2 => ?_)
  ·
   have hbg0 := get_D (l := b.l) (k := i) default (by omega)
   have hbg := hW.old i (Nat.le_refl _)
   rw [hbg0] at hbg
   have hWn := fun (z : XNode) => hW.next (x := z) (by omega)
   obtain ⟨y, hy⟩ : ∃ y, y = b.l.getD i default := ⟨_, rfl⟩
   have hsm := hbD.small _ (List.mem_of_getElem? hbg0)
   rw [← hy] at hbg hWn hsm
   refine CJ_skip (seqK_normal (CJ_seq (CJ_block (CJ_seq (CJ_seq (CJ_region ?_))))))
   refine qbm ?_
   refine qaa ?_
   refine ybuac ?_
   refine qb0 ?_
   refine ybuaf ?_
   refine qbq ?_
   refine qaf ?_
   refine CJ_joinS [54, 55, 56, 57, 58, 59, 60, 61, 62, 63] ((⟨fun _ => [], fun g => a.L 161 XNode.cells ++ ((⟨b.o, g.1⟩ : OwL XNode).L 161 XNode.cells ++ (cblk c x k4 :: [])), fun _ => R, fun _ => 0⟩ : Head {g : List XNode // g = bs.set i ⟨y.kind, y.cond, if y.kind = 1 then y.left else y.left + a.l.length, y.right⟩})) ?_ ?_
   ·
    skip
    refine q_c (fun hc3 => ?_) (fun hc3 => ?_)
    ·
     refine qay ?_
     refine qbm ?_
     refine qaa ?_
     refine ybuac ?_
     refine qb0 ?_
     refine ybuaf ?_
     refine qbm ?_
     refine qag ?_
     refine qar ?_
     refine ybuac ?_
     refine qb0 ?_
     refine LJ_g0 (gives_store1_ow tb ((⟨b.o, bs⟩ : OwL XNode)) (⟨y.kind, y.cond, y.left + a.l.length, y.right⟩) rfl rfl rfl rfl (by repeat (first | apply OSeg.cons | exact OSeg.here | exact OSeg.last | exact OSeg.at (by assumption) | apply OSeg.app)) (by assumption) (fun _ => rfl) (by assumption) (by decide) (by rfl) (by rfl)) ?_
     rintro v L' R' ⟨rfl, rfl⟩
     refine qav ?_
     exact q_j ⟨bs.set i ⟨y.kind, y.cond, y.left + a.l.length, y.right⟩, by rw [if_neg hc3]⟩
    refine CJ_skip ?_
    exact q_j ⟨bs, by rw [if_pos (by omega)]; exact (set_same hbg).symm⟩
   rintro ⟨bs1, hb1⟩ junk
   try dsimp only
   have hb1l : bs1.length = b.l.length := by rw [hb1, List.length_set]; exact hbl
   have hbk2 : (⟨b.o, bs1⟩ : OwL XNode).ok 4 XNode.cells := OwL.len_ok (fun _ => rfl) hbk hb1l
   have hbg1 : bs1[i]? = some ⟨y.kind, y.cond, if y.kind = 1 then y.left else y.left + a.l.length, y.right⟩ := by rw [hb1]; exact List.getElem?_set_self (by omega)
   refine qae ?_
   refine qbm ?_
   refine qaa ?_
   refine ybuab ?_
   refine qb0 ?_
   refine ybuad ?_
   refine qbn ?_
   refine qah ?_
   apply LJ_or (G := [_, _, _, _, _, _]) (j := 6) (cj := 70) rfl rfl (by rfl) rfl (show _ = Value.bool _ from rfl) rfl
   ·
    intro hg7
    replace hg7 := qb hg7
    refine qbm ?_
    refine qaa ?_
    refine ybuab ?_
    refine qb0 ?_
    refine ybuad ?_
    refine qbn ?_
    exact qai
   intro junk7
   refine qaf ?_
   refine q_c (fun hc4 => ?_) (fun hc4 => ?_)
   ·
    refine qay ?_
    refine qbm ?_
    refine qaa ?_
    refine ybuab ?_
    refine qb0 ?_
    refine ybuad ?_
    refine qbm ?_
    refine qag ?_
    refine LJ_q (yv_add64 rfl rfl (by dsimp only; omega) (by dsimp only; omega)) rfl ?_
    refine ybuab ?_
    refine qb0 ?_
    refine LJ_g0 (gives_store1_ow tb ((⟨b.o, bs1⟩ : OwL XNode)) (⟨y.kind, y.cond, if y.kind = 1 then y.left else y.left + a.l.length, y.right + a.l.length⟩) rfl rfl rfl rfl (by repeat (first | apply OSeg.cons | exact OSeg.here | exact OSeg.last | exact OSeg.at (by assumption) | apply OSeg.app)) (by assumption) (fun _ => rfl) (by assumption) (by decide) (by rfl) (by rfl)) ?_
    rintro v L' R' ⟨rfl, rfl⟩
    refine qcs ?_
    refine qaa ?_
    refine qar ?_
    refine qad ?_
    refine qav ?_
    exact q_k ⟨(i + 1, bs1.set i ⟨y.kind, y.cond, if y.kind = 1 then y.left else y.left + a.l.length, y.right + a.l.length⟩), by dsimp only; omega, by dsimp only; rw [hb1, List.set_set]; exact hWn _ (by rw [shN, if_pos hc4])⟩
   refine qbj ?_
   refine qaa ?_
   refine qar ?_
   refine qad ?_
   refine qav ?_
   exact q_k ⟨(i + 1, bs1), by dsimp only; omega, by dsimp only; rw [hb1]; exact hWn _ (by rw [shN, if_neg (show ¬ (y.kind = 3 ∨ y.kind = 4) by omega)])⟩
  obtain rfl : i = b.l.length := by omega
  have hdn := hW.done
  rw [map_range_getD] at hdn
  refine qbk ?_
  refine qbm ?_
  refine qag ?_
  refine qbm ?_
  refine qag ?_
  refine qar ?_
  refine qad ?_
  refine qam ?_
  refine qbm ?_
  refine qbm ?_
  refine LJ_g (gives_appendN tb a (⟨b.o, bs⟩ : OwL XNode) rfl rfl rfl rfl ((show _ = Value.slice _ _ _ from rfl).trans (by simp only [OwL.val, hbl])) hak hbk1 (fun _ => rfl) (by repeat (first | apply OSeg.cons | exact OSeg.here | exact OSeg.last | exact OSeg.at (by assumption) | apply OSeg.app)) (by repeat (first | exact inB_here | apply inB_cons | apply inB_app)) (by dsimp only; omega) (fun _ => rfl) (by dsimp only; omega)) rfl ?_
  rintro v L' R' ⟨o95, rfl, hok95, rfl, rfl⟩
  refine qa6 ?_
  refine LJ_call rfl (range1 (by repeat (first | apply USeg.here | apply USeg.cons | apply USeg.app)) hx hk4 (by omega)) rfl ?_
  rintro v L' R' ⟨r3, k5, rfl, g3, g3', hk5, rfl, rfl⟩
  refine qbm ?_
  refine qag ?_
  refine qa9 ?_
  refine qaa ?_
  refine qa9 ?_
  refine LJ_q (yv_build (qs := [(0, (Value.int _ _).cells.toList), (2, (Value.int _ _).cells.toList), (3, (Value.int _ _).cells.toList)]) (out := [_, _, _, _]) tb rfl rfl rfl rfl) rfl ?_
  refine ybuaa ?_
  rintro v L' R' ⟨b104, rfl, rfl, hR104⟩
  replace hR104 := hR104.symm; subst hR104
  refine LJ_g (gives_append1 (f := XNode.cells) (p := (⟨o95, a.l ++ bs⟩ : OwL XNode)) (a := ⟨r3, 0, (a.l.length : Int) - 1, (a.l.length : Int) + b.l.length - 1⟩) tb rfl rfl rfl rfl (hok95) (by repeat (first | apply OSeg.cons | exact OSeg.here | exact OSeg.last | exact OSeg.at (by assumption) | apply OSeg.app)) (shown_own (by repeat (first | exact zi0 | apply zi1 | apply zi2)) rfl rfl) rfl (by first | omega | (simp only [List.length_cons, List.length_nil, List.length_append]; omega))) rfl ?_
  rintro v L' R' ⟨o105, rfl, hok105, rfl, rfl⟩
  refine qc4 ?_
  refine qa0 ?_
  refine q_r (L' := (⟨o105, a.l ++ bs ++ [⟨r3, 0, (a.l.length : Int) - 1, (a.l.length : Int) + b.l.length - 1⟩]⟩ : OwL XNode).L 161 XNode.cells ++ (cblk c x k5 :: [])) (R' := R) (res1 rfl (rv_tmp (show _ = Value.slice _ _ _ from rfl))) ?_
  refine ⟨(⟨o105, _⟩ : OwL XNode), k5, rfl, hok105, ?_, hk5, rfl, rfl⟩
  have := haD.two hbD (k := r3) (by omega)
  rw [show ((a.l.length + b.l.length : Nat) : Int) = (a.l.length : Int) + b.l.length by omega] at this
  rw [hdn]
  exact this
theorem drawRule_2 (c : Nat) (x : Arr Int) (R : List Sl) (conds : Nat) (hx : CodesR x R) (hc : 1 ≤ conds ∧ conds ≤ 64) : RuleT c x R conds 2 :=
  drawRule_step c x R conds 1 hx hc (by decide) (by decide) (drawRule_step c x R conds 0 hx hc (by decide) (by decide) (drawRule_0 c x R conds hx hc))
end Go.Proofs.Ytkpfjmibipblhaa
end
section
/-
  The draws of chapter 20: truths, thresholds, conditions, sensors at another place. By an AI agent; no person has read it.
-/
set_option linter.unusedSimpArgs false
set_option linter.unusedVariables false
namespace Go.Proofs.Ytkpfjmibipblhaa
open Go.Aw Go
set_option maxRecDepth 20000
attribute [local irreducible] CJ LJ DJ Tri YV Gives seqK blockK loopK retK RV mergeK OwL.L
section
variable {A9 B9 : Prop}
theorem ybvaa (a : A9) (h : A9 → B9 := by exact LJ_call rfl (range1 (by repeat (first | apply USeg.here | apply USeg.cons | apply USeg.app)) hx hk (by omega)) rfl) : B9 := h a
theorem ybvab (a : A9) (h : A9 → B9 := by exact LJ_q (yv_loadN (row := [_, _, _, _, _, _]) tb rfl rfl rfl (by repeat (first | exact zi0 | apply zi1 | apply zi2)) (by rfl) (by rfl)) rfl) : B9 := h a
end
theorem truth1 {c : Nat} {x : Arr Int} {k : Nat} {L : List Blk} {F : List Value → List Blk} {R : List Sl} (hu : USeg c (ccells x k) 122 L F) (hx : CodesR x R) (hk : k ≤ x.l.length) :
    Tri Try.prog 112 [.pointer (some ⟨c, 0, none⟩)].toArray L R
      (fun v L' R' => ∃ (r : Int) (k' : Nat), v = .int .i64 r ∧ (-1 ≤ r ∧ r ≤ 1) ∧ k' ≤ x.l.length ∧ F (ccells x k') = L' ∧ R = R') := by
  refine tri_enter 6 Try.call112 Try.func112 rfl rfl rfl ?_
  refine qae ?_
  refine qad ?_
  refine qam ?_
  refine qa6 ?_
  refine LJ_call rfl (next1 hu hx hk (by omega)) rfl ?_
  rintro v L' R' ⟨r1, k1, rfl, g1, g1', g1'', hk1, rfl, rfl⟩
  have g1q := g1' (by omega)
  refine qa9 ?_
  refine qad ?_
  refine qa0 ?_
  refine q_i (L' := F (ccells x k1)) (R' := R) ?_
  exact ⟨r1 - 1, k1, rfl, by omega, hk1, rfl, rfl⟩
structure LevD (l : XLevel) : Prop where
  cut : 1 ≤ l.cut ∧ l.cut ≤ 120
  clear : 0 ≤ l.clear ∧ l.clear < l.cut
  delay : 0 ≤ l.delay ∧ l.delay ≤ 11
theorem LevD.ok {l : XLevel} (h : LevD l) : LevelOk l := by
  have h1 := h.cut
  have h2 := h.clear
  have h3 := h.delay
  rw [LevelOk]; omega
theorem drawLevel_tri (c : Nat) (x : Arr Int) (k : Nat) (R : List Sl) (hx : CodesR x R) (hk : k ≤ x.l.length) :
    Tri Try.prog 89 [.pointer (some ⟨c, 0, none⟩)].toArray [cblk c x k] R
      (fun v L' R' => ∃ (l : XLevel) (k' : Nat), v = l.val ∧ LevD l ∧ k' ≤ x.l.length ∧ cblk c x k' :: [] = L' ∧ R = R') := by
  refine tri_enter 15 Try.call89 Try.func89 rfl rfl rfl ?_
  refine qae ?_
  refine qaq ?_
  intro b2
  refine qam ?_
  refine qa6 ?_
  refine ybvaa ?_
  rintro v L' R' ⟨r1, k1, rfl, g1, g1', hk1, rfl, rfl⟩
  refine qa6 ?_
  refine LJ_call rfl (next1 (by repeat (first | apply USeg.here | apply USeg.cons | apply USeg.app)) hx hk1 (by omega)) rfl ?_
  rintro v L' R' ⟨r2, k2, rfl, g2, g2', g2'', hk2, rfl, rfl⟩
  have g2q := g2' (by omega)
  refine LJ_q (yv_build (qs := [(0, (Value.int _ _).cells.toList), (2, (Value.int _ _).cells.toList)]) (out := [_, _, _]) tb rfl rfl rfl rfl) rfl ?_
  refine qaq ?_
  intro b3
  refine qak ?_
  refine qam ?_
  refine qa6 ?_
  refine qab ?_
  refine qac ?_
  refine LJ_call rfl (next1 (by repeat (first | apply USeg.here | apply USeg.cons | apply USeg.app)) hx hk2 (by omega)) rfl ?_
  rintro v L' R' ⟨r3, k3, rfl, g3, g3', g3'', hk3, rfl, rfl⟩
  have g3q := g3' (by omega)
  refine qab ?_
  refine qcn ?_
  refine qam ?_
  refine LJ_q (yv_loadN (row := [_, _, _]) tb rfl rfl rfl (by repeat (first | exact zi0 | apply zi1 | apply zi2)) (by rfl) (by rfl)) rfl ?_
  refine qak ?_
  refine qa0 ?_
  refine q_r (L' := [cblk c x k3]) (R' := R) (res1 rfl (rv_cell (row := [_, _, _]) tb rfl rfl rfl (by repeat (first | exact zi0 | apply zi1 | apply zi2)) (by rfl) (by rfl))) ?_
  exact ⟨⟨r1, r3, r2⟩, k3, rfl, ⟨by dsimp only; omega, by dsimp only; omega, by dsimp only; omega⟩, hk3, rfl, rfl⟩
theorem level1 {c : Nat} {x : Arr Int} {k : Nat} {L : List Blk} {F : List Value → List Blk} {R : List Sl} (hu : USeg c (ccells x k) 122 L F) (hx : CodesR x R) (hk : k ≤ x.l.length) :
    Tri Try.prog 89 [.pointer (some ⟨c, 0, none⟩)].toArray L R
      (fun v L' R' => ∃ (l : XLevel) (k' : Nat), v = l.val ∧ LevD l ∧ k' ≤ x.l.length ∧ F (ccells x k') = L' ∧ R = R') :=
  (Tri.at1 (Post' := fun v cs' R' => ∃ (l : XLevel) (k' : Nat), v = l.val ∧ LevD l ∧ k' ≤ x.l.length ∧ cs' = ccells x k' ∧ R = R') hu (drawLevel_tri c x k R hx hk)
    (fun v L' R' ⟨y, k', h1, h2, h5, h6, h7⟩ => ⟨_, h6, y, k', h1, h2, h5, rfl, h7⟩)).mono
    (fun v L' R' ⟨cs', h0, y, k', h1, h2, h5, h6, h7⟩ => ⟨y, k', h1, h2, h5, by rw [← h6]; exact h0, h7⟩)
theorem sensor1 {c : Nat} {x : Arr Int} {k : Nat} {kind address target : Int} {L : List Blk} {F : List Value → List Blk} {R : List Sl} (hu : USeg c (ccells x k) 122 L F) (hx : CodesR x R) (hk : k ≤ x.l.length) :
    Tri Try.prog 49 [.pointer (some ⟨c, 0, none⟩), .int .i64 kind, .int .i64 address, .int .i64 target].toArray L R
      (fun v L' R' => ∃ (s : XSens) (k' : Nat), v = s.val ∧ SensD kind address target s ∧ k' ≤ x.l.length ∧ F (ccells x k') = L' ∧ R = R') :=
  (Tri.at1 (Post' := fun v cs' R' => ∃ (s : XSens) (k' : Nat), v = s.val ∧ SensD kind address target s ∧ k' ≤ x.l.length ∧ cs' = ccells x k' ∧ R = R') hu (drawSensor_tri c x k kind address target R hx hk)
    (fun v L' R' ⟨y, k', h1, h2, h5, h6, h7⟩ => ⟨_, h6, y, k', h1, h2, h5, rfl, h7⟩)).mono
    (fun v L' R' ⟨cs', h0, y, k', h1, h2, h5, h6, h7⟩ => ⟨y, k', h1, h2, h5, by rw [← h6]; exact h0, h7⟩)
structure CondD (S : List XSens) (n : Nat) (c : XCond) : Prop where
  err : condErr S n c = 0
  value : 0 ≤ c.value ∧ c.value ≤ 60
  level : LevD c.level
theorem condD_of {S : List XSens} {n : Nat} {c : XCond} (hk : c.kind = 1 ∨ c.kind = 2 ∨ c.kind = 4 ∨ c.kind = 5) (hv : 0 ≤ c.value ∧ c.value ≤ 60) (hl : LevD c.level) (ht : 0 ≤ c.target ∧ c.target < if c.kind = 5 then (n : Int) else S.length) : CondD S n c := by
  refine ⟨?_, hv, hl⟩
  have hb : condBase S n c = 0 := by
    rw [condBase]
    rcases hk with h | h | h | h
    · rw [if_neg (by omega)] at ht; rw [if_pos (by omega), if_pos (by omega)]
    · rw [if_neg (by omega)] at ht; rw [if_pos (by omega), if_pos (by omega)]
    · rw [if_neg (by omega)] at ht; rw [if_pos (by omega), if_pos (by omega)]
    · rw [if_pos h] at ht; rw [if_neg (by omega), if_neg (by omega), if_pos h, if_pos (by omega)]
  rw [condErr, if_neg (by omega), if_neg (by omega), levelErr, if_pos hl.ok]
  split <;> rfl
theorem condD_fan {S : List XSens} {n : Nat} {c : XCond} {i : Nat} (hk : c.kind = 3) (hv : 0 ≤ c.value ∧ c.value ≤ 60) (hl : LevD c.level) (ht : c.target = (i : Int)) (hi : i < S.length) (hs : (S.getD i default).kind = 5) : CondD S n c := by
  refine ⟨?_, hv, hl⟩
  have hb : condBase S n c = 0 := by
    rw [condBase, if_neg (by omega), if_pos hk, if_pos]
    refine ⟨by omega, ?_⟩
    rw [ht, Int.toNat_natCast]; exact hs
  rw [condErr, if_neg (by omega), if_neg (by omega), if_neg (by omega)]
theorem drawCond_tri (c : Nat) (x : Arr Int) (k : Nat) (s : XSite) (R : List Sl) (hx : CodesR x R) (hk : k ≤ x.l.length) (hs : InR (sesl s.sensors) R) (hn : 1 ≤ s.sensors.l.length ∧ s.sensors.l.length ≤ 1000) (hr : 1 ≤ s.air.mine.roads.l.length ∧ s.air.mine.roads.l.length ≤ 1000) :
    Tri Try.prog 50 [.pointer (some ⟨c, 0, none⟩), s.val].toArray [cblk c x k] R
      (fun v L' R' => ∃ (z : XCond) (k' : Nat), v = z.val ∧ CondD s.sensors.l s.air.mine.roads.l.length z ∧ k' ≤ x.l.length ∧ cblk c x k' :: [] = L' ∧ R = R') := by
  refine tri_enter 54 Try.call50 Try.func50 rfl rfl rfl ?_
  refine qae ?_
  refine qax ?_
  intro b3
  refine qaq ?_
  intro b4
  refine qam ?_
  refine qa6 ?_
  refine ybvaa ?_
  rintro v L' R' ⟨r1, k1, rfl, g1, g1', hk1, rfl, rfl⟩
  refine qa6 ?_
  refine LJ_call rfl (range1 (by repeat (first | apply USeg.here | apply USeg.cons | apply USeg.app)) hx hk1 (by omega)) rfl ?_
  rintro v L' R' ⟨r2, k2, rfl, g2, g2', hk2, rfl, rfl⟩
  refine qa6 ?_
  refine LJ_call rfl (level1 (by repeat (first | apply USeg.here | apply USeg.cons | apply USeg.app)) hx hk2) rfl ?_
  rintro v L' R' ⟨l, k3, rfl, hl, hk3, rfl, rfl⟩
  refine LJ_q (yv_build (qs := [(0, (Value.int _ _).cells.toList), (2, (Value.int _ _).cells.toList), (3, (Value.agg _).cells.toList)]) (out := [_, _, _, _, _, _]) tb rfl rfl rfl rfl) rfl ?_
  refine qaq ?_
  intro b5
  refine qak ?_
  refine qaw ?_
  refine qab ?_
  refine qac ?_
  refine qbn ?_
  refine qaf ?_
  refine CJ_joinS [6, 18, 19, 20, 21, 22, 23, 24, 25, 26, 27, 28, 29, 30, 31, 32, 33, 34, 35] ((⟨fun _ => [], fun g => ⟨b5, XCond.cells ⟨g.1, 0, r2, l⟩, 133⟩ :: ⟨b4, [.int .i64 0, .int .i64 0, .int .i64 0, .int .i64 0, .int .i64 0, .int .i64 0], 133⟩ :: ⟨b3, s.cells, 36⟩ :: cblk c x k3 :: [], fun _ => R, fun _ => 0⟩ : Head {g : Int // g = 1 ∨ g = 2 ∨ g = 4 ∨ g = 5})) ?_ ?_
  ·
   skip
   refine q_c (fun hc0 => ?_) (fun hc0 => ?_)
   ·
    refine qbi ?_
    refine qad ?_
    refine qa2 ?_
    refine CJ_forgetW [6, 18, 19, 20, 21, 22, 23, 24, 25, 26, 27, 28, 29, 30, 31, 32, 33, 34, 35] (by repeat (first | apply Off.upd rfl | apply Off.havoc rfl | refine Off.updL (t' := havoc _ _ _) rfl ?_ | exact Off.refl)) [(6, Value.int _ _)] (by repeat' (first | exact trivial | refine And.intro rfl ?_)) fun tq0 => ?_
    refine q_s [6, 18, 19, 20, 21, 22, 23, 24, 25, 26, 27, 28, 29, 30, 31, 32, 33, 34] (fun g : {j : Nat // j ≤ s.sensors.l.length} => [(6, .int .i64 ((g.1 : Nat) : Int))]) (fun g => s.sensors.l.length - g.1) (⟨0, by omega⟩) ?_
    rintro ⟨j, hj⟩ junk
    try dsimp only
    refine qbi ?_
    refine qaa ?_
    refine qab ?_
    refine qac ?_
    refine qag ?_
    refine qaj ?_
    refine qaf ?_
    refine q_c (fun hc1 => ?_) (fun hc1 => ?_)
    ·
     have hsg := get_D (l := s.sensors.l) (k := j) default (by omega)
     refine qbb ?_
     refine qab ?_
     refine qac ?_
     refine qaa ?_
     refine LJ_q (by first | exact yv_index_ro tb rfl rfl rfl rfl (by first | assumption | exact zr (by simp)) (i := j) (by first | rfl | omega | (simp; omega)) (by omega) | exact yv_index tb rfl rfl rfl rfl (i := j) (by first | rfl | omega | (simp; omega)) (by omega)) rfl ?_
     refine qb0 ?_
     refine qa7 ?_
     refine qbn ?_
     refine qaf ?_
     refine q_c (fun hc2 => ?_) (fun hc2 => ?_)
     ·
      refine qae ?_
      refine qaa ?_
      refine qab ?_
      refine qcn ?_
      refine qam ?_
      refine ybvab ?_
      refine qak ?_
      refine LJ_nil (seqK_normal (CJ_ret (blockK_ret (seqK_ret (loopK_ret (blockK_ret (seqK_ret (joinK_ret ?_))))))))
      refine q_r (L' := [cblk c x k3]) (R' := R) (res1 rfl (rv_cell (row := [_, _, _, _, _, _]) tb rfl rfl rfl (by repeat (first | exact zi0 | apply zi1 | apply zi2)) (by rfl) (by rfl))) ?_
      exact ⟨⟨r1, (j : Int), r2, l⟩, k3, rfl, condD_fan (i := j) hc0 (by dsimp only; omega) hl rfl (by omega) hc2, hk3, rfl, rfl⟩
     refine qbj ?_
     refine qaa ?_
     refine qar ?_
     refine qad ?_
     refine qav ?_
     exact q_k (⟨j + 1, by omega⟩)
    refine CJ_exit (seqK_exit (loopK_exit (blockK_exit (seqK_normal (CJ_region ?_)))))
    refine qab ?_
    refine qcn ?_
    refine qav ?_
    exact q_j ⟨1, .inl rfl⟩
   refine CJ_skip ?_
   exact q_j ⟨r1, by omega⟩
  rintro ⟨kd, hkd⟩ junk
  try dsimp only
  refine qae ?_
  refine qab ?_
  refine qac ?_
  refine qag ?_
  refine qad ?_
  refine qaw ?_
  refine qab ?_
  refine qac ?_
  refine qbn ?_
  refine qaf ?_
  refine CJ_joinS [7, 42, 43, 44, 45, 46] ((⟨fun g => [(7, .int .i64 g.1)], fun g => ⟨b5, XCond.cells ⟨kd, 0, r2, l⟩, 133⟩ :: ⟨b4, [.int .i64 0, .int .i64 0, .int .i64 0, .int .i64 0, .int .i64 0, .int .i64 0], 133⟩ :: ⟨b3, s.cells, 36⟩ :: cblk c x k3 :: [], fun _ => R, fun _ => 0⟩ : Head {g : Int // g = if kd = 5 then (s.air.mine.roads.l.length : Int) else s.sensors.l.length})) ?_ ?_
  ·
   skip
   refine q_c (fun hc3 => ?_) (fun hc3 => ?_)
   ·
    refine qay ?_
    iterate 3 refine qab ?_
    refine qac ?_
    refine qag ?_
    refine qad ?_
    refine qav ?_
    exact q_j ⟨(s.air.mine.roads.l.length : Int), by rw [if_pos hc3]⟩
   refine CJ_skip ?_
   exact q_j ⟨(s.sensors.l.length : Int), by rw [if_neg hc3]⟩
  rintro ⟨nn, hnn⟩ junk
  try dsimp only
  have hnb : 1 ≤ nn ∧ nn ≤ 1000 := by rw [hnn]; split <;> omega
  refine qbi ?_
  refine qaa ?_
  refine qbn ?_
  refine qaf ?_
  refine q_c (fun hc4 => ?_) (fun hc4 => ?_)
  ·
   (exfalso; omega)
  refine qbv ?_
  refine qa6 ?_
  refine qaa ?_
  refine LJ_call rfl (next1 (by repeat (first | apply USeg.here | apply USeg.cons | apply USeg.app)) hx hk3 (by omega)) rfl ?_
  rintro v L' R' ⟨r3, k4, rfl, g3, g3', g3'', hk4, rfl, rfl⟩
  have g3q := g3' (by omega)
  refine qab ?_
  refine qcn ?_
  refine qam ?_
  refine ybvab ?_
  refine qak ?_
  refine qa0 ?_
  refine q_r (L' := [cblk c x k4]) (R' := R) (res1 rfl (rv_cell (row := [_, _, _, _, _, _]) tb rfl rfl rfl (by repeat (first | exact zi0 | apply zi1 | apply zi2)) (by rfl) (by rfl))) ?_
  exact ⟨⟨kd, r3, r2, l⟩, k4, rfl, condD_of hkd (by dsimp only; omega) hl (by dsimp only; rw [← hnn]; omega), hk4, rfl, rfl⟩
theorem cond1 {c : Nat} {x : Arr Int} {k : Nat} {s : XSite} {L : List Blk} {F : List Value → List Blk} {R : List Sl} (hu : USeg c (ccells x k) 122 L F) (hx : CodesR x R) (hk : k ≤ x.l.length) (hs : InR (sesl s.sensors) R) (hn : 1 ≤ s.sensors.l.length ∧ s.sensors.l.length ≤ 1000) (hr : 1 ≤ s.air.mine.roads.l.length ∧ s.air.mine.roads.l.length ≤ 1000) :
    Tri Try.prog 50 [.pointer (some ⟨c, 0, none⟩), s.val].toArray L R
      (fun v L' R' => ∃ (z : XCond) (k' : Nat), v = z.val ∧ CondD s.sensors.l s.air.mine.roads.l.length z ∧ k' ≤ x.l.length ∧ F (ccells x k') = L' ∧ R = R') :=
  (Tri.at1 (Post' := fun v cs' R' => ∃ (z : XCond) (k' : Nat), v = z.val ∧ CondD s.sensors.l s.air.mine.roads.l.length z ∧ k' ≤ x.l.length ∧ cs' = ccells x k' ∧ R = R') hu (drawCond_tri c x k s R hx hk hs hn hr)
    (fun v L' R' ⟨y, k', h1, h2, h5, h6, h7⟩ => ⟨_, h6, y, k', h1, h2, h5, rfl, h7⟩)).mono
    (fun v L' R' ⟨cs', h0, y, k', h1, h2, h5, h6, h7⟩ => ⟨y, k', h1, h2, h5, by rw [← h6]; exact h0, h7⟩)
end Go.Proofs.Ytkpfjmibipblhaa
end
section
/-
  A made mine without roads, with one road more. Plain. By an AI agent; no person has read it.
-/
set_option linter.unusedSimpArgs false
set_option linter.unusedVariables false
namespace Go.Proofs.Ytkpfjmibipblhaa
open Go.Aw Go
def oneRoad (n : Nat) : XRoad := ⟨0, (n : Int), 10, 4, false, false, ⟨1, 1⟩, ⟨0, 0⟩⟩
section
variable {a : XAir} {s : XSetting} {x : XState} (h : MadeA a s x) (hr : a.mine.roads.l.length = 0)
include h hr
theorem MadeA.no_fans : a.fans.l = [] := by
  have ha := airOk_of h.err
  cases hf : a.fans.l with
  | nil => rfl
  | cons f l =>
    obtain ⟨h1, h2⟩ := ha.fan 0 f (by rw [hf]; rfl)
    have := h1.road
    omega
theorem MadeA.no_doors : a.doors.l = [] := by
  have ha := airOk_of h.err
  cases hf : a.doors.l with
  | nil => rfl
  | cons f l =>
    obtain ⟨h1, h2⟩ := ha.door 0 f (by rw [hf]; rfl)
    have := h1.road
    omega
theorem MadeA.all_surface (i : Nat) (hi : i < a.mine.places.l.length) : (a.mine.places.l.getD i default).surface = true := by
  cases hs : (a.mine.places.l.getD i default).surface with
  | true => rfl
  | false =>
    obtain ⟨k, u, hk, _⟩ := h.shaft i hi hs
    omega
theorem MadeA.all_zero (i : Nat) (hi : i < a.mine.places.l.length) : x.pres.l.getD i 0 = 0 := by
  have hp := (fitsF_of h.err h.fit h.fits).place i hi
  rw [placeUnfit] at hp
  split at hp
  · cases hp
  · rename_i hn
    have := h.all_surface hr i hi
    by_cases hz : x.pres.l.getD i 0 = 0
    · exact hz
    · exact absurd (.inl ⟨this, hz⟩) hn
end
theorem places_none {m : XMine} (h : mineErr m = 0) : m.places.l.findSome? placeErr = none := by
  cases hf : m.places.l.findSome? placeErr with
  | none => rfl
  | some e =>
    rw [mineErr] at h
    split at h
    · omega
    rw [hf] at h
    obtain ⟨p, _, hp⟩ := List.exists_of_findSome?_eq_some hf
    unfold placeErr at hp
    split at hp
    · cases hp; cases h
    · cases hp
theorem airErr_mine1 {a : XAir} (h : airErr a = 0) : mineErr a.mine = 0 := by
  rw [airErr] at h
  split at h
  · omega
  · omega
section
variable {a : XAir} {s : XSetting} {x : XState} {P : Arr XPlace} {Rd : Arr XRoad} {Pr Fl : Arr Int} (h : MadeA a s x) (hr : a.mine.roads.l.length = 0) (hP : P.l = a.mine.places.l ++ [⟨0, true⟩]) (hR : Rd.l = [oneRoad a.mine.places.l.length]) (hPr : Pr.l = x.pres.l ++ [0]) (hFl : Fl.l = [0])
include h hr hP hR
theorem oneR_err : airErr ⟨⟨P, Rd⟩, a.fans, a.doors⟩ = 0 := by
  have hn := h.nplaces
  have hf := h.no_fans hr
  have hd := h.no_doors hr
  have hm : mineErr ⟨P, Rd⟩ = 0 := by
    rw [mineErr, if_neg (by simp only [hP, hR, List.length_append, List.length_singleton]; omega)]
    dsimp only
    rw [hP, List.findSome?_append, places_none (airErr_mine1 h.err), hR]
    show (([oneRoad a.mine.places.l.length].findSome? (roadErr (a.mine.places.l ++ [(⟨0, true⟩ : XPlace)]).length)).getD 0) = 0
    have e : roadErr (a.mine.places.l ++ [(⟨0, true⟩ : XPlace)]).length (oneRoad a.mine.places.l.length) = none := by
      rw [roadErr, oneRoad, if_neg (by simp only [List.length_append, List.length_singleton]; omega), if_neg]
      dsimp only
      decide
    rw [List.findSome?_cons, e]
    rfl
  rw [airErr, if_neg (by dsimp only; omega)]
  dsimp only
  rw [hf, hd]
  rfl
include hPr hFl
theorem oneR_fits : fitsS ⟨⟨P, Rd⟩, a.fans, a.doors⟩ s ⟨Pr, Fl⟩ = 0 := by
  have hn := h.nplaces
  have hpl := (fitsF_of h.err h.fit h.fits).plen
  have hz : ∀ i : Nat, i < a.mine.places.l.length + 1 → Pr.l.getD i 0 = 0 := fun i hi => by
    rw [hPr, List.getD_eq_getElem?_getD]
    rcases Nat.lt_or_ge i x.pres.l.length with h1 | h1
    · rw [List.getElem?_append_left h1, ← List.getD_eq_getElem?_getD]
      exact h.all_zero hr i (by omega)
    · rw [List.getElem?_append_right h1, show i - x.pres.l.length = 0 by omega]; rfl
  have hzm : ∀ p ∈ Pr.l, p = 0 := fun p hp => by
    obtain ⟨i, hi, rfl⟩ := List.mem_iff_getElem.1 hp
    have : Pr.l.length = a.mine.places.l.length + 1 := by rw [hPr, List.length_append, List.length_singleton]; omega
    have := hz i (by omega)
    rw [List.getD_eq_getElem?_getD, List.getElem?_eq_getElem hi] at this
    exact this
  rw [fitsS_at (oneR_err h hr hP hR) (show fitB ⟨⟨P, Rd⟩, a.fans, a.doors⟩ s = true from h.fit) (by simp only [hP, hR, hPr, hFl, List.length_append, List.length_singleton]; omega)]
  dsimp only
  rw [List.findSome?_eq_none_iff.2 (fun p hp => by rw [hzm p hp]; rfl), hFl]
  have e1 : [(0 : Int)].findSome? flowBad = none := by decide
  rw [e1]
  dsimp only
  have e2 : (List.range [(0 : Int)].length).findSome? (roadUnfit ⟨⟨P, Rd⟩, a.fans, a.doors⟩ s ⟨Pr, Fl⟩) = none := by
    refine List.findSome?_eq_none_iff.2 fun i hi => ?_
    obtain rfl : i = 0 := by simpa using List.mem_range.1 hi
    rw [roadUnfit]
    dsimp only
    rw [hR, hFl]
    have e3 : innerS ⟨⟨P, Rd⟩, a.fans, a.doors⟩ s ((0 : Nat) : Int) 0 = ⟨0, 0⟩ := by
      rw [innerS]
      dsimp only
      rw [h.no_fans hr]
      show innerTo _ s 0 0 0 = _
      rw [innerTo]
      dsimp only
      rw [h.no_doors hr]
      show baseS (restTo _ s 0 0) _ 0 = _
      rw [restTo]
      dsimp only
      rw [hR]
      rfl
    have e4 : ([(0 : Int)]).getD 0 0 = 0 := rfl
    have e5 : ([oneRoad a.mine.places.l.length]).getD 0 default = oneRoad a.mine.places.l.length := rfl
    rw [e4, e5, e3, oneRoad]
    dsimp only
    rw [show Pr.l.getD (Int.toNat 0) 0 = 0 from hz 0 (by omega), Int.toNat_natCast, hz _ (Nat.lt_succ_self _)]
    rfl
  rw [e2]
  dsimp only
  rw [List.findSome?_eq_none_iff.2 (fun i hi => ?_)]
  · rfl
  · have hi2 := List.mem_range.1 hi
    rw [hPr, List.length_append, List.length_singleton] at hi2
    rw [placeUnfit]
    dsimp only
    rw [hz i (by omega)]
    have hs : (P.l.getD i default).surface = true := by
      rw [hP, List.getD_eq_getElem?_getD]
      rcases Nat.lt_or_ge i a.mine.places.l.length with h1 | h1
      · rw [List.getElem?_append_left h1, ← List.getD_eq_getElem?_getD]
        exact h.all_surface hr i h1
      · rw [List.getElem?_append_right h1, show i - a.mine.places.l.length = 0 by omega]; rfl
    rw [hs, if_neg (by simp)]
end
end Go.Proofs.Ytkpfjmibipblhaa
end
