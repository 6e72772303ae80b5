import Derived.Test.YtkpfjmibipblhaaRuleP
import Derived.Test.YtkpfjmibipblhaaData
import Derived.Test.YtkpfjmibipblhaaOwn
import Derived.Test.YtkpfjmibipblhaaSiteP
section
/-
  Rules that are put together are right. Plain. By an AI agent; no person has read it.
-/
set_option linter.unusedSimpArgs false
set_option linter.unusedVariables false
namespace Go.Proofs.Ytkpfjmibipblhaa
open Go.Aw Go
def shN (n : Nat) (x : XNode) : XNode := ⟨x.kind, x.cond, if x.kind = 1 then x.left else x.left + n, if x.kind = 3 ∨ x.kind = 4 then x.right + n else x.right⟩
theorem getD_pre {l m : List XNode} {i : Nat} (h : i < l.length) : (l ++ m).getD i default = l.getD i default := by
  rw [List.getD_eq_getElem?_getD, List.getElem?_append_left h, ← List.getD_eq_getElem?_getD]
theorem partF_pre {a c : List XNode} : ∀ (n : Nat) (i f d : Int), i < a.length → partF a n i = some (f, d) → partF (a ++ c) n i = some (f, d)
  | 0, i, f, d, _, h => by rw [partF] at h; cases h
  | n + 1, i, f, d, hi, h => by
    rw [partF] at h ⊢
    split at h
    · cases h
    rename_i h0
    rw [if_neg h0, getD_pre (by omega)]
    split at h
    · rename_i h1; rw [if_pos h1]; exact h
    rename_i h1
    rw [if_neg h1]
    split at h
    · rename_i h2
      rw [if_pos h2]
      split at h
      · cases h
      rename_i f' d' hp
      rw [partF_pre n _ _ _ (by omega) hp]
      exact h
    rename_i h2
    rw [if_neg h2]
    split at h
    · rename_i h3
      rw [if_pos h3]
      split at h
      · cases h
      rename_i x y hp
      rw [partF_pre n _ _ _ (by omega) hp]
      dsimp only
      split at h
      · rename_i h4
        rw [if_pos h4]
        split at h
        · cases h
        rename_i x' y' hq
        have := (partF_ok _ _ _ _ hp).1
        rw [partF_pre n _ _ _ (by omega) hq]
        exact h
      · cases h
    · cases h
theorem getD_sh {a b c : List XNode} {i : Nat} (h : i < b.length) : (a ++ b.map (shN a.length) ++ c).getD (a.length + i) default = shN a.length (b.getD i default) := by
  rw [getD_pre (by simp; omega), List.getD_eq_getElem?_getD, List.getElem?_append_right (by omega), Nat.add_sub_cancel_left, List.getElem?_map, get_D (l := b) (k := i) default h]
  rfl
theorem partF_sh {a b c : List XNode} : ∀ (n : Nat) (i f d : Int), i < b.length → partF b n i = some (f, d) → partF (a ++ b.map (shN a.length) ++ c) n (a.length + i) = some (a.length + f, d)
  | 0, i, f, d, _, h => by rw [partF] at h; cases h
  | n + 1, i, f, d, hi, h => by
    rw [partF] at h ⊢
    split at h
    · cases h
    rename_i h0
    rw [if_neg (by omega), show ((a.length : Int) + i).toNat = a.length + i.toNat by omega, getD_sh (by omega)]
    generalize b.getD i.toNat default = x at h ⊢
    split at h
    · rename_i h1
      have e1 : (shN a.length x).kind = 1 := h1
      rw [if_pos e1]
      split at h
      · rename_i h2
        rw [if_pos (by rw [shN, if_pos h1, if_neg (by omega)]; exact h2)]
        cases h
        rfl
      · cases h
    rename_i h1
    have e1 : ¬ (shN a.length x).kind = 1 := h1
    rw [if_neg e1]
    split at h
    · rename_i h2
      have e2 : (shN a.length x).kind = 2 := h2
      rw [if_pos e2]
      split at h
      · cases h
      rename_i f' d' hp
      have ih := partF_sh (a := a) (c := c) n _ _ _ (by omega) hp
      rw [show (a.length : Int) + i - 1 = a.length + (i - 1) by omega, ih]
      dsimp only
      split at h
      · rename_i h3
        rw [if_pos (by rw [shN, if_neg h1, if_neg (by omega)]; dsimp only; omega)]
        cases h
        rfl
      · cases h
    rename_i h2
    have e2 : ¬ (shN a.length x).kind = 2 := h2
    rw [if_neg e2]
    split at h
    · rename_i h3
      have e3 : (shN a.length x).kind = 3 ∨ (shN a.length x).kind = 4 := h3
      rw [if_pos e3]
      split at h
      · cases h
      rename_i m r hp
      have ih := partF_sh (a := a) (c := c) n _ _ _ (by omega) hp
      rw [show (a.length : Int) + i - 1 = a.length + (i - 1) by omega, ih]
      dsimp only
      split at h
      · rename_i h4
        rw [if_pos (by rw [shN, if_neg h1, if_pos h3]; dsimp only; omega)]
        split at h
        · cases h
        rename_i f' q hq
        have := (partF_ok _ _ _ _ hp).1
        have ih2 := partF_sh (a := a) (c := c) n _ _ _ (by omega) hq
        rw [show (a.length : Int) + m - 1 = a.length + (m - 1) by omega, ih2]
        dsimp only
        cases h
        rfl
      · cases h
    · cases h
def lenB : Nat → Nat
  | 0 => 1
  | n + 1 => 2 * lenB n + 1
structure RuleD (conds : Nat) (dp : Nat) (l : List XNode) : Prop where
  len : 1 ≤ l.length ∧ l.length ≤ lenB dp
  part : ∃ d : Int, partF l l.length ((l.length : Int) - 1) = some (0, d) ∧ d ≤ dp + 1
  conds : ∀ x ∈ l, x.kind = 1 → x.cond < conds
  kind : ∀ x ∈ l, 1 ≤ x.kind ∧ x.kind ≤ 4
  small : ∀ x ∈ l, (0 ≤ x.left ∧ x.left ≤ l.length) ∧ 0 ≤ x.right ∧ x.right ≤ l.length
theorem lenB_pos : ∀ n, 1 ≤ lenB n
  | 0 => Nat.le_refl _
  | n + 1 => by rw [lenB]; omega
theorem RuleD.leaf {conds dp : Nat} {k : Int} (hk : 0 ≤ k ∧ k < conds) (hc : conds ≤ 64) : RuleD conds dp [⟨1, k, 0, 0⟩] := by
  have := lenB_pos dp
  refine ⟨by simp; omega, ⟨1, ?_, by omega⟩, fun x hx _ => ?_, fun x hx => ?_, fun x hx => ?_⟩
  · have e : partF [⟨1, k, 0, 0⟩] 1 0 = some (0, 1) := by
      have e0 : ([⟨1, k, 0, 0⟩] : List XNode).getD (0 : Int).toNat default = ⟨1, k, 0, 0⟩ := rfl
      rw [partF, if_neg (by omega), e0, if_pos (show (⟨1, k, 0, 0⟩ : XNode).kind = 1 from rfl), if_pos (show (⟨1, k, 0, 0⟩ : XNode).left = 0 ∧ (⟨1, k, 0, 0⟩ : XNode).right = 0 ∧ 0 ≤ (⟨1, k, 0, 0⟩ : XNode).cond ∧ (⟨1, k, 0, 0⟩ : XNode).cond < 64 from ⟨rfl, rfl, hk.1, (by show k < 64; omega)⟩)]
    exact e
  · rw [List.mem_singleton.1 hx]; exact hk.2
  · rw [List.mem_singleton.1 hx]; dsimp only; omega
  · rw [List.mem_singleton.1 hx]; dsimp only; simp
theorem RuleD.neg {conds dp : Nat} {a : List XNode} (ha : RuleD conds dp a) : RuleD conds (dp + 1) (a ++ [⟨2, 0, (a.length : Int) - 1, 0⟩]) := by
  have hl := ha.len
  obtain ⟨d, hp, hd⟩ := ha.part
  refine ⟨by rw [List.length_append, lenB]; simp; omega, ⟨d + 1, ?_, by omega⟩, fun x hx hk => ?_, fun x hx => ?_, fun x hx => ?_⟩
  · rw [List.length_append, List.length_singleton, partF]
    rw [if_neg (by omega)]
    have e : (a ++ [(⟨2, 0, (a.length : Int) - 1, 0⟩ : XNode)]).getD (((a.length + 1 : Nat) : Int) - 1).toNat default = ⟨2, 0, (a.length : Int) - 1, 0⟩ := by
      rw [show (((a.length + 1 : Nat) : Int) - 1).toNat = a.length by omega, List.getD_eq_getElem?_getD, List.getElem?_append_right (by omega), Nat.sub_self]; rfl
    rw [e, if_neg (show ¬ (2 : Int) = 1 by decide), if_pos (show (2 : Int) = 2 from rfl), show ((a.length + 1 : Nat) : Int) - 1 - 1 = (a.length : Int) - 1 by omega, partF_pre _ _ _ _ (by omega) hp]
    dsimp only
    rw [if_pos ⟨rfl, rfl, by omega⟩]
  · rcases List.mem_append.1 hx with h | h
    · exact ha.conds x h hk
    · rw [List.mem_singleton.1 h] at hk; cases hk
  · rcases List.mem_append.1 hx with h | h
    · exact ha.kind x h
    · rw [List.mem_singleton.1 h]; dsimp only; omega
  · rw [List.length_append, List.length_singleton]
    rcases List.mem_append.1 hx with h | h
    · have := ha.small x h; omega
    · rw [List.mem_singleton.1 h]; dsimp only; omega
theorem RuleD.two {conds dp : Nat} {a b : List XNode} {k : Int} (ha : RuleD conds dp a) (hb : RuleD conds dp b) (hk : k = 3 ∨ k = 4) :
    RuleD conds (dp + 1) (a ++ b.map (shN a.length) ++ [⟨k, 0, (a.length : Int) - 1, ((a.length + b.length : Nat) : Int) - 1⟩]) := by
  have hl := ha.len
  have hl2 := hb.len
  obtain ⟨d, hp, hd⟩ := ha.part
  obtain ⟨d2, hp2, hd2⟩ := hb.part
  have hlen : (a ++ b.map (shN a.length) ++ [(⟨k, 0, (a.length : Int) - 1, ((a.length + b.length : Nat) : Int) - 1⟩ : XNode)]).length = a.length + b.length + 1 := by simp; omega
  refine ⟨by rw [hlen, lenB]; omega, ⟨max d d2 + 1, ?_, by omega⟩, fun x hx hk1 => ?_, fun x hx => ?_, fun x hx => ?_⟩
  · rw [hlen, partF, if_neg (by omega)]
    have e : (a ++ b.map (shN a.length) ++ [(⟨k, 0, (a.length : Int) - 1, ((a.length + b.length : Nat) : Int) - 1⟩ : XNode)]).getD (((a.length + b.length + 1 : Nat) : Int) - 1).toNat default = ⟨k, 0, (a.length : Int) - 1, ((a.length + b.length : Nat) : Int) - 1⟩ := by
      rw [show (((a.length + b.length + 1 : Nat) : Int) - 1).toNat = a.length + b.length by omega, List.getD_eq_getElem?_getD, List.getElem?_append_right (by simp), show a.length + b.length - (a ++ b.map (shN a.length)).length = 0 by simp]; rfl
    rw [e, if_neg (by dsimp only; omega), if_neg (by dsimp only; omega), if_pos hk]
    have p1 := partF_sh (a := a) (c := [(⟨k, 0, (a.length : Int) - 1, ((a.length + b.length : Nat) : Int) - 1⟩ : XNode)]) _ _ _ _ (by omega) hp2
    have p2 := partF_pre (c := b.map (shN a.length) ++ [(⟨k, 0, (a.length : Int) - 1, ((a.length + b.length : Nat) : Int) - 1⟩ : XNode)]) _ _ _ _ (by omega) hp
    rw [← List.append_assoc] at p2
    rw [show ((a.length + b.length + 1 : Nat) : Int) - 1 - 1 = (a.length : Int) + ((b.length : Int) - 1) by omega, partF_mono _ (a.length + b.length) _ _ (by omega) p1]
    dsimp only
    rw [if_pos ⟨rfl, by omega, by omega⟩, show (a.length : Int) + 0 - 1 = (a.length : Int) - 1 by omega, partF_mono _ (a.length + b.length) _ _ (by omega) p2]
  · rcases List.mem_append.1 hx with h | h
    · rcases List.mem_append.1 h with h | h
      · exact ha.conds x h hk1
      · obtain ⟨y, hy, rfl⟩ := List.mem_map.1 h
        exact hb.conds y hy hk1
    · rw [List.mem_singleton.1 h] at hk1; dsimp only at hk1; omega
  · rcases List.mem_append.1 hx with h | h
    · rcases List.mem_append.1 h with h | h
      · exact ha.kind x h
      · obtain ⟨y, hy, rfl⟩ := List.mem_map.1 h
        exact hb.kind y hy
    · rw [List.mem_singleton.1 h]; dsimp only; omega
  · rw [hlen]
    rcases List.mem_append.1 hx with h | h
    · rcases List.mem_append.1 h with h | h
      · have := ha.small x h; omega
      · obtain ⟨y, hy, rfl⟩ := List.mem_map.1 h
        have := hb.small y hy
        rw [shN]; dsimp only
        constructor <;> split <;> omega
    · rw [List.mem_singleton.1 h]; dsimp only; omega
theorem RuleD.right {conds : Nat} {l : List XNode} (h : RuleD conds 2 l) : rightR l = true := by
  obtain ⟨d, hp, hd⟩ := h.part
  have hl := h.len
  have e : lenB 2 = 7 := rfl
  exact rightR_iff.2 ⟨by omega, d, hp, by omega⟩
theorem RuleD.err {conds : Nat} {l : List XNode} (h : RuleD conds 2 l) : ruleErr l conds = 0 := by
  rw [ruleErr, if_neg (by rw [h.right]; decide), if_neg]
  rintro ⟨x, hx, hk, hc⟩
  have := h.conds x hx hk
  omega
end Go.Proofs.Ytkpfjmibipblhaa
end
section
/-
  Appending nothing. By an AI agent; no person has read it.
-/
set_option linter.unusedSimpArgs false
set_option linter.unusedVariables false
namespace Go.Proofs.Ytkpfjmibipblhaa
open Go.Aw Go
section
variable {P : Program} {ρ : Operand → Value} {L : List Blk} {R : List Sl} {dst : Option Tmp} {ty : TypeId} {pos : String} {after : Array Edge} {guard : Option (Nat × Bool)} (tb : Tabs P) {T : TypeId} {x y : Operand}
end
theorem all_flat {α : Type} {f : α → List Value} (h1 : ∀ x, (f x).all (·.oneCell') = true) : ∀ l : List α, (l.flatMap f).all (·.oneCell') = true
  | [] => rfl
  | x :: l => by rw [List.flatMap_cons, List.all_append, h1 x, all_flat h1 l]; rfl
theorem shown_ow {α : Type} {f : α → List Value} {wd : Nat} {T' : TypeId} {q : OwL α} {L : List Blk} {R : List Sl} (hf : ∀ x, (f x).length = wd) (hok : q.ok wd f) (hin : InB (q.L T' f) L) (hm : 0 < q.l.length) : Shown L R q.val q.l.length wd (q.l.flatMap f) := by
  obtain ⟨g, cap, spare, ho⟩ := OwL.own_of hok hm
  refine ⟨⟨g, 0, none⟩, cap, by rw [OwL.val, ho]; rfl, rows_length hf q.l, fun c w hst j u hj => ?_⟩
  have hmem : (⟨g, q.l.flatMap f ++ spare, T'⟩ : Blk) ∈ L := hin _ (by rw [OwL.L, ho]; simp [Ow.L])
  rw [add_none, Nat.zero_add, cell_own hst hmem]
  rw [List.getElem?_append_left (List.getElem?_eq_some_iff.1 hj).1]
  exact hj
section
variable {P : Program} {ρ : Operand → Value} {L : List Blk} {R : List Sl} {dst : Option Tmp} {ty : TypeId} {pos : String} {after : Array Edge} {guard : Option (Nat × Bool)} (tb : Tabs P) {T : TypeId} {x y : Operand}
theorem gives_appendN {α : Type} {e n fl bt z k2 n2 fl2 bt2 z2} {f : α → List Value} (p q : OwL α) {T' : TypeId} {F : OwL α → List Blk} (hT : getT tb.tab T = some ⟨.slice e, n, fl, bt, z⟩) (hE : getT tb.tab e = some ⟨k2, n2, fl2, bt2, z2⟩) (hn2 : z2.length = n2)
    (hx : ρ x = p.val) (hy : ρ y = q.val) (hok : p.ok n2 f) (hokq : q.ok n2 f) (hf : ∀ x, (f x).length = n2) (hseg : OSeg e f p L F) (hB : InB (q.L T' f) L) (hm : 0 < q.l.length) (h1 : ∀ x, (f x).all (·.oneCell') = true) (hby : (p.l.length + q.l.length) * (bt2 + 1) ≤ 140737488355328) :
    Gives P ⟨dst, .call ⟨.builtin .append, #[x, y], #[T, T]⟩, ty, pos, after, guard⟩ ρ L R (fun v L' R' => ∃ o : Ow, v = (⟨o, p.l ++ q.l⟩ : OwL α).val ∧ (⟨o, p.l ++ q.l⟩ : OwL α).ok n2 f ∧ F ⟨o, p.l ++ q.l⟩ = L' ∧ R = R') := by
  have hsh : Shown L R q.val q.l.length n2 (q.l.flatMap f) := shown_ow hf hokq hB hm
  rw [← hy] at hsh
  obtain ⟨A, B, hL, hF⟩ := hseg.split
  subst hL
  have hb1 : (p.l.length + q.l.length) * bt2 ≤ 140737488355328 := Nat.le_trans (Nat.mul_le_mul_left _ (Nat.le_succ _)) hby
  have hb2 : p.l.length + q.l.length ≤ 140737488355328 := Nat.le_trans (Nat.le_mul_of_pos_right _ (Nat.succ_pos _)) hby
  have hx' : ρ x = p.o.val p.l.length := by rw [hx, Ow.val_of_ok hok]; rfl
  have := gives_append (dst := dst) (ty := ty) (pos := pos) (after := after) (guard := guard) tb hT hE hn2 hx' hok (seg_mid A _ B) hsh hm (all_flat h1 _) (by omega) hb1
  intro c w hst ac next Q kk
  refine this c w hst ac next Q ?_
  rintro v L' R' w' ⟨g, cap, spare, rfl, hok', rfl, rfl⟩ hst'
  have e : p.l.flatMap f ++ q.l.flatMap f = (p.l ++ q.l).flatMap f := by simp
  rw [e] at hok'
  have hl : (p.l ++ q.l).length = p.l.length + q.l.length := by simp
  refine kk _ _ _ w' ⟨.own g cap spare, ?_, ?_, ?_, rfl⟩ hst'
  · rw [OwL.val]; dsimp only; rw [hl]; rfl
  · rw [OwL.ok]; dsimp only; rw [hl]; exact hok'
  · rw [hF, OwL.L]; dsimp only; rw [← e]
end
def joinPK {γ : Type} (ws : List Nat) (t0 : Nat → Value) (hd : Head γ) (Q : TPost) : TPost
  | .normal, t, L, R => ∃ g, Off ws t0 t ∧ Shows t (hd.slots g) ∧ (∃ L1, L.Perm L1 ∧ (hd.L g).Sublist L1) ∧ ∀ r ∈ hd.R g, InR r R
  | e, t, L, R => Q e t L R
theorem joinPK_mk {γ : Type} {ws : List Nat} {t0 t : Nat → Value} {L L1 : List Blk} {R : List Sl} {hd : Head γ} {Q : TPost} (g : γ) (ho : Off ws t0 t) (hs : Shows t (hd.slots g)) (hp : L.Perm L1) (hL : (hd.L g).Sublist L1) (hR : ∀ r ∈ hd.R g, InR r R) : joinPK ws t0 hd Q .normal t L R := ⟨g, ho, hs, ⟨L1, hp, hL⟩, hR⟩
theorem CJ_permL {P n code t L L' R} {Q : TPost} (hp : L.Perm L') (h : CJ P n code t L' R Q) : CJ P n code t L R Q := CJ_turn fun _ _ hst => ⟨_, _, hst.perm hp, h⟩
theorem CJ_joinP {γ : Type} {P n x y t L R} {Q : TPost} (ws : List Nat) (hd : Head γ) (h : CJ P n x t L R (joinPK ws t hd Q)) (k : ∀ g junk, CJ P n y (updL (havoc ws t junk) (hd.slots g)) (hd.L g) (hd.R g) Q) : CJ P n x t L R (seqK P n y Q) := by
  intro c a w hf hs
  refine wp_mono (h c a w hf hs) ?_
  rintro e a w ⟨hnp, t', L', R', hq, hf', hs'⟩
  cases e with
  | normal =>
    obtain ⟨g, ho, hsh, ⟨L1, hp, hL⟩, hR⟩ := hq
    have e : updL (havoc ws t t') (hd.slots g) = t' := by rw [havoc_eq_self ho, updL_of_shows hsh]
    refine ⟨trivial, t', L', R', ?_, hf', hs'⟩
    have := k g t'
    rw [e] at this
    exact CJ_permL hp (CJ_weak hL hR this)
  | _ => exact ⟨hnp, t', L', R', hq, hf', hs'⟩
theorem gives_callL {P : Program} {dst : Option Tmp} {f : FuncId} {xs : List Operand} {ts : Array TypeId} {pos : String} {after : Array Edge} {guard : Option (Nat × Bool)} {ty : TypeId} {t : Nat → Value} {L : List Blk} {R : List Sl} {args : List Value} {Post : VPost} (ha : xs.map (ev t) = args)
    (h : Tri P f args.toArray L R Post) : Gives P ⟨dst, .call ⟨.value (.func f), xs.toArray, ts⟩, ty, pos, after, guard⟩ (ev t) L R Post :=
  gives_call (by rw [← ha]; simp) rfl h
theorem YV.gives2 {P op ρ L R v} (h : YV P op ρ L R v) : Gives P op ρ L R (fun v' L' R' => v' = v ∧ L = L' ∧ R = R') := by
  intro c w hs a next Q k
  rw [h c w hs]
  exact k v L R w ⟨rfl, rfl, rfl⟩ hs
theorem CJ_frzS {α : Type} {P n code t L R} {Q : TPost} {T : TypeId} {f : α → List Value} {wd : Nat} (p : OwL α) (subs : List Sl) {F : OwL α → List Blk} (hseg : OSeg T f p L F) (hf : ∀ x, (f x).length = wd) (hwd : 0 < wd) (hok : p.ok wd f) (hs : ∀ s ∈ subs, InR s R)
    (h : CJ P n code t (F OwL.nil) (p.arr.sl wd f subs :: R) Q) : CJ P n code t L R Q := by
  obtain ⟨A, B, hL, hF⟩ := hseg.split
  rw [hF] at h
  rw [hL, List.append_assoc]
  refine CJ_frz1 subs hf hwd hok hs ?_
  have e : A ++ (OwL.nil : OwL α).L T f ++ B = A ++ B := by rw [nil_L, List.append_nil]
  rw [← e]
  exact h
end Go.Proofs.Ytkpfjmibipblhaa
end
section
/-
  The draws of chapter 20: rules, thresholds, conditions. By an AI agent; no person has read it.
-/
set_option linter.unusedSimpArgs false
set_option linter.unusedVariables false
namespace Go.Proofs.Ytkpfjmibipblhaa
open Go.Aw Go
set_option maxRecDepth 20000
attribute [local irreducible] CJ LJ DJ Tri YV Gives seqK blockK loopK retK RV mergeK OwL.L
section
variable {A9 B9 : Prop}
theorem ybuaa (a : A9) (h : A9 → B9 := by exact LJ_g (gives_buildSlice (qs := [(0, (Value.agg _).cells.toList)]) (out := [_, _, _, _]) tb rfl rfl rfl rfl rfl rfl rfl) rfl) : B9 := h a
theorem ybuab (a : A9) (h : A9 → B9 := by exact LJ_q (yv_index_ow tb ((⟨b.o, bs1⟩ : OwL XNode)) _ rfl rfl ((show _ = Value.slice _ _ _ from rfl).trans (by simp only [OwL.val, hb1l])) rfl (by assumption) (i := i) (by first | rfl | omega | (simp; omega)) (by first | omega | (dsimp only; omega) | (dsimp only; rw [List.length_set]; omega) | (dsimp only; simp only [List.length_set]; omega))) rfl) : B9 := h a
theorem ybuac (a : A9) (h : A9 → B9 := by exact LJ_q (yv_index_ow tb ((⟨b.o, bs⟩ : OwL XNode)) _ rfl rfl ((show _ = Value.slice _ _ _ from rfl).trans (by simp only [OwL.val, hbl])) rfl (by assumption) (i := i) (by first | rfl | omega | (simp; omega)) (by first | omega | (dsimp only; omega) | (dsimp only; rw [List.length_set]; omega) | (dsimp only; simp only [List.length_set]; omega))) rfl) : B9 := h a
theorem ybuad (a : A9) (h : A9 → B9 := by exact LJ_q (yv_load1_ow tb ((⟨b.o, bs1⟩ : OwL XNode)) rfl rfl rfl (by repeat (first | apply OSeg.cons | exact OSeg.here | exact OSeg.last | exact OSeg.at (by assumption) | apply OSeg.app)) (by assumption) (fun _ => rfl) (by assumption) (by rfl)) rfl) : B9 := h a
theorem ybuae (a : A9) (h : A9 → B9 := by exact LJ_q (yv_build (qs := [(0, (Value.int _ _).cells.toList), (1, (Value.int _ _).cells.toList)]) (out := [_, _, _, _]) tb rfl rfl rfl rfl) rfl) : B9 := h a
theorem ybuaf (a : A9) (h : A9 → B9 := by exact LJ_q (yv_load1_ow tb ((⟨b.o, bs⟩ : OwL XNode)) rfl rfl rfl (by repeat (first | apply OSeg.cons | exact OSeg.here | exact OSeg.last | exact OSeg.at (by assumption) | apply OSeg.app)) (by assumption) (fun _ => rfl) (by assumption) (by rfl)) rfl) : B9 := h a
end
def RuleT (c : Nat) (x : Arr Int) (R : List Sl) (conds n : Nat) : Prop := ∀ k, k ≤ x.l.length → Tri Try.prog 51 [.pointer (some ⟨c, 0, none⟩), .int .i64 (conds : Int), .int .i64 (n : Int)].toArray [cblk c x k] R
  (fun v L' R' => ∃ (p : OwL XNode) (k' : Nat), v = p.val ∧ p.ok 4 XNode.cells ∧ RuleD conds n p.l ∧ k' ≤ x.l.length ∧ p.L 161 XNode.cells ++ (cblk c x k' :: []) = L' ∧ R = R')
theorem drawRule_0 (c : Nat) (x : Arr Int) (R : List Sl) (conds : Nat) (hx : CodesR x R) (hc : 1 ≤ conds ∧ conds ≤ 64) : RuleT c x R conds 0 := by
  intro k hk
  refine tri_enter 106 Try.call51 Try.func51 rfl rfl rfl ?_
  refine qae ?_
  refine qc4 ?_
  refine qaw ?_
  refine qaa ?_
  refine qaj ?_
  refine qah ?_
  refine LJ_case (k := 13) (show _ = Value.bool _ from rfl) (fun hg3 => ?_) (fun hg3 => ?_)
  ·
   replace hg3 := qb hg3
   iterate 3 refine LJ_skg rfl rfl ?_
   refine LJ_q (by first | exact yv_pick_true rfl rfl | exact yv_pick_false rfl rfl | exact yv_pick rfl) rfl ?_
   refine qaf ?_
   refine CJ_cond_true rfl ?_
   refine qae ?_
   refine qa6 ?_
   refine qaa ?_
   refine LJ_call rfl (next1 (by repeat (first | apply USeg.here | apply USeg.cons | apply USeg.app)) hx hk (by omega)) rfl ?_
   rintro v L' R' ⟨r1, k1, rfl, g1, g1', g1'', hk1, rfl, rfl⟩
   have g1q := g1' (by omega)
   refine ybuae ?_
   refine ybuaa ?_
   rintro v L' R' ⟨b22, rfl, rfl, hR22⟩
   replace hR22 := hR22.symm; subst hR22
   refine qc4 ?_
   refine qbh ?_
   refine retK_ret (L' := (⟨.own b22 1 [], [⟨1, r1, 0, 0⟩]⟩ : OwL XNode).L 161 XNode.cells ++ (cblk c x k1 :: [])) (R' := R) (res1 rfl (rv_tmp (show _ = Value.slice _ _ _ from rfl))) ?hp ?hL ?hR
   case hp => exact ⟨⟨.own b22 1 [], [⟨1, r1, 0, 0⟩]⟩, k1, rfl, built_ok (fun _ => rfl) rfl (by decide), RuleD.leaf (by omega) hc.2, hk1, rfl, rfl⟩
   case hL => rw [← built_ow (f := XNode.cells) [⟨1, r1, 0, 0⟩] rfl]; exact List.Sublist.refl _
   case hR => exact allR_self _
  replace hg3 := qb hg3
  (exfalso; omega)
theorem map_range_getD {α β : Type} [Inhabited α] {l : List α} {f : α → β} : (List.range l.length).map (fun j => f (l.getD j default)) = l.map f := by
  refine List.ext_getElem? fun j => ?_
  rcases Nat.lt_or_ge j l.length with hj | hj
  · rw [List.getElem?_map, List.getElem?_range hj, List.getElem?_map, get_D (l := l) (k := j) default hj]; rfl
  · rw [List.getElem?_eq_none (by simp; omega), List.getElem?_eq_none (by simp; omega)]
theorem set_same {α : Type} {l : List α} {i : Nat} {x : α} (h : l[i]? = some x) : l.set i x = l := by
  refine List.ext_getElem? fun j => ?_
  rw [List.getElem?_set]
  split
  · rename_i e
    subst e
    rw [h]
    split
    · rfl
    · rename_i hn
      rw [List.getElem?_eq_none (by omega)] at h
      cases h
  · rfl
theorem drawRule_step (c : Nat) (x : Arr Int) (R : List Sl) (conds n : Nat) (hx : CodesR x R) (hc : 1 ≤ conds ∧ conds ≤ 64) (hn : lenB n ≤ 100) (hn2 : n ≤ 100) (ih : RuleT c x R conds n) : RuleT c x R conds (n + 1) := by
  intro k hk
  have call : ∀ k, k ≤ x.l.length → Tri Try.prog 51 [.pointer (some ⟨c, 0, none⟩), .int .i64 (conds : Int), .int .i64 (((n + 1 : Nat) : Int) - 1)].toArray [cblk c x k] R
      (fun v L' R' => ∃ (p : OwL XNode) (k' : Nat), v = p.val ∧ p.ok 4 XNode.cells ∧ RuleD conds n p.l ∧ k' ≤ x.l.length ∧ p.L 161 XNode.cells ++ (cblk c x k' :: []) = L' ∧ R = R') := fun k hk => by
    rw [show ((n + 1 : Nat) : Int) - 1 = (n : Int) by omega]; exact ih k hk
  refine tri_enter 106 Try.call51 Try.func51 rfl rfl rfl ?_
  refine qae ?_
  refine qc4 ?_
  refine qaw ?_
  refine qaa ?_
  refine qaj ?_
  refine qah ?_
  refine LJ_case (k := 13) (show _ = Value.bool _ from rfl) (fun hg3 => ?_) (fun hg3 => ?_)
  ·
   replace hg3 := qb hg3
   (exfalso; omega)
  replace hg3 := qb hg3
  refine LJ_qg (yv_move (show _ = Value.pointer _ from rfl)) rfl rfl ?_
  refine LJ_callg rfl (next1 (by repeat (first | apply USeg.here | apply USeg.cons | apply USeg.app)) hx hk (by omega)) rfl rfl ?_
  rintro v L' R' ⟨r0, k0, rfl, g0, g0', g0'', hk0, rfl, rfl⟩
  refine LJ_qg (yv_eql rfl rfl) rfl rfl ?_
  refine LJ_q (by first | exact yv_pick_true rfl rfl | exact yv_pick_false rfl rfl | exact yv_pick rfl) rfl ?_
  refine qaf ?_
  refine q_c (fun hc0 => ?_) (fun hc0 => ?_)
  ·
   refine qae ?_
   refine qa6 ?_
   refine qaa ?_
   refine LJ_call rfl (next1 (by repeat (first | apply USeg.here | apply USeg.cons | apply USeg.app)) hx hk0 (by omega)) rfl ?_
   rintro v L' R' ⟨r1, k1, rfl, g1, g1', g1'', hk1, rfl, rfl⟩
   have g1q := g1' (by omega)
   refine ybuae ?_
   refine ybuaa ?_
   rintro v L' R' ⟨b22, rfl, rfl, hR22⟩
   replace hR22 := hR22.symm; subst hR22
   refine qc4 ?_
   refine qbh ?_
   refine retK_ret (L' := (⟨.own b22 1 [], [⟨1, r1, 0, 0⟩]⟩ : OwL XNode).L 161 XNode.cells ++ (cblk c x k1 :: [])) (R' := R) (res1 rfl (rv_tmp (show _ = Value.slice _ _ _ from rfl))) ?hp ?hL ?hR
   case hp => exact ⟨⟨.own b22 1 [], [⟨1, r1, 0, 0⟩]⟩, k1, rfl, built_ok (fun _ => rfl) rfl (by decide), RuleD.leaf (by omega) hc.2, hk1, rfl, rfl⟩
   case hL => rw [← built_ow (f := XNode.cells) [⟨1, r1, 0, 0⟩] rfl]; exact List.Sublist.refl _
   case hR => exact allR_self _
  refine qbv ?_
  refine qa6 ?_
  refine qaa ?_
  refine qaa ?_
  refine qa9 ?_
  refine LJ_call rfl (call _ hk0) rfl ?_
  rintro v L' R' ⟨a, k2, rfl, hak, haD, hk2, rfl, rfl⟩
  have hal := haD.len
  refine qc4 ?_
  refine qaw ?_
  refine qa6 ?_
  refine LJ_call rfl (one1 (by repeat (first | apply USeg.here | apply USeg.cons | apply USeg.app)) hx hk2 (by omega)) rfl ?_
  rintro v L' R' ⟨bb, k3, rfl, hk3, rfl, rfl⟩
  refine qaf ?_
  refine q_c (fun hc1 => ?_) (fun hc1 => ?_)
  ·
   refine qae ?_
   refine qbm ?_
   refine qbm ?_
   refine qag ?_
   refine qa9 ?_
   refine LJ_q (yv_build (qs := [(0, (Value.int _ _).cells.toList), (2, (Value.int _ _).cells.toList)]) (out := [_, _, _, _]) tb rfl rfl rfl rfl) rfl ?_
   refine ybuaa ?_
   rintro v L' R' ⟨b35, rfl, rfl, hR35⟩
   replace hR35 := hR35.symm; subst hR35
   refine LJ_g (gives_append1 (f := XNode.cells) (p := a) (a := ⟨2, 0, (a.l.length : Int) - 1, 0⟩) tb rfl rfl rfl rfl (hak) (by repeat (first | apply OSeg.cons | exact OSeg.here | exact OSeg.last | exact OSeg.at (by assumption) | apply OSeg.app)) (shown_own (by repeat (first | exact zi0 | apply zi1 | apply zi2)) rfl rfl) rfl (by first | omega | (simp only [List.length_cons, List.length_nil, List.length_append]; omega))) rfl ?_
   rintro v L' R' ⟨o36, rfl, hok36, rfl, rfl⟩
   refine qc4 ?_
   refine qbh ?_
   refine q_r (L' := (⟨o36, a.l ++ [⟨2, 0, (a.l.length : Int) - 1, 0⟩]⟩ : OwL XNode).L 161 XNode.cells ++ (cblk c x k3 :: [])) (R' := R) (res1 rfl (rv_tmp (show _ = Value.slice _ _ _ from rfl))) ?_
   exact ⟨(⟨o36, _⟩ : OwL XNode), k3, rfl, hok36, haD.neg, hk3, rfl, rfl⟩
  refine qbv ?_
  refine qa6 ?_
  refine qaa ?_
  refine qaa ?_
  refine qa9 ?_
  refine LJ_call rfl (Tri.spl (.appB (.consL .nil)) (call _ hk3)) rfl ?_
  rintro v L' R' ⟨_, rfl, b, k4, rfl, hbk, hbD, hk4, rfl, rfl⟩
  simp only [List.append_assoc, List.cons_append, List.nil_append]
  have hbn := hbD.len
  refine qc4 ?_
  refine qaw ?_
  refine qad ?_
  refine qa2 ?_
  refine CJ_forget [(0, Value.pointer _), (7, Value.slice _ _ _), (8, Value.slice _ _ _), (9, Value.int _ _)] (by repeat' (first | exact trivial | refine And.intro rfl ?_)) fun tq0 => ?_
  refine q_p [9, 42, 43, 44, 45, 46, 47, 48, 49, 50, 51, 52, 53, 54, 55, 56, 57, 58, 59, 60, 61, 62, 63, 64, 65, 66, 67, 68, 69, 70, 71, 72, 73, 74, 75, 76, 77, 78, 79, 80, 81, 82, 83, 84, 85, 86, 87] ((⟨fun g => [(9, .int .i64 ((g.1.1 : Nat) : Int))], fun g => a.L 161 XNode.cells ++ ((⟨b.o, g.1.2⟩ : OwL XNode).L 161 XNode.cells ++ (cblk c x k4 :: [])), fun _ => R, fun g => b.l.length - g.1.1⟩ : Head {g : Nat × List XNode // g.1 ≤ b.l.length ∧ WrO b.l (fun j => shN a.l.length (b.l.getD j default)) g.1 g.2})) (⟨(0, b.l), by dsimp only; omega, .zero⟩) ?_
  rintro ⟨⟨i, bs⟩, hi, hW⟩ junk
  try dsimp only
  dsimp only at hi hW
  have hbl := hW.len
  have hbk1 : (⟨b.o, bs⟩ : OwL XNode).ok 4 XNode.cells := OwL.len_ok (fun _ => rfl) hbk hbl
  refine qbi ?_
  refine qaa ?_
  refine qbm ?_
  refine qag ?_
  refine qaj ?_
  refine qaf ?_
  refine q_c (fun hc2 => ?_) (fun hc2 => ?_)
  ·
   have hbg0 := get_D (l := b.l) (k := i) default (by omega)
   have hbg := hW.old i (Nat.le_refl _)
   rw [hbg0] at hbg
   have hWn := fun (z : XNode) => hW.next (x := z) (by omega)
   obtain ⟨y, hy⟩ : ∃ y, y = b.l.getD i default := ⟨_, rfl⟩
   have hsm := hbD.small _ (List.mem_of_getElem? hbg0)
   rw [← hy] at hbg hWn hsm
   refine CJ_skip (seqK_normal (CJ_seq (CJ_block (CJ_seq (CJ_seq (CJ_region ?_))))))
   refine qbm ?_
   refine qaa ?_
   refine ybuac ?_
   refine qb0 ?_
   refine ybuaf ?_
   refine qbq ?_
   refine qaf ?_
   refine CJ_joinS [54, 55, 56, 57, 58, 59, 60, 61, 62, 63] ((⟨fun _ => [], fun g => a.L 161 XNode.cells ++ ((⟨b.o, g.1⟩ : OwL XNode).L 161 XNode.cells ++ (cblk c x k4 :: [])), fun _ => R, fun _ => 0⟩ : Head {g : List XNode // g = bs.set i ⟨y.kind, y.cond, if y.kind = 1 then y.left else y.left + a.l.length, y.right⟩})) ?_ ?_
   ·
    skip
    refine q_c (fun hc3 => ?_) (fun hc3 => ?_)
    ·
     refine qay ?_
     refine qbm ?_
     refine qaa ?_
     refine ybuac ?_
     refine qb0 ?_
     refine ybuaf ?_
     refine qbm ?_
     refine qag ?_
     refine qar ?_
     refine ybuac ?_
     refine qb0 ?_
     refine LJ_g0 (gives_store1_ow tb ((⟨b.o, bs⟩ : OwL XNode)) (⟨y.kind, y.cond, y.left + a.l.length, y.right⟩) rfl rfl rfl rfl (by repeat (first | apply OSeg.cons | exact OSeg.here | exact OSeg.last | exact OSeg.at (by assumption) | apply OSeg.app)) (by assumption) (fun _ => rfl) (by assumption) (by decide) (by rfl) (by rfl)) ?_
     rintro v L' R' ⟨rfl, rfl⟩
     refine qav ?_
     exact q_j ⟨bs.set i ⟨y.kind, y.cond, y.left + a.l.length, y.right⟩, by rw [if_neg hc3]⟩
    refine CJ_skip ?_
    exact q_j ⟨bs, by rw [if_pos (by omega)]; exact (set_same hbg).symm⟩
   rintro ⟨bs1, hb1⟩ junk
   try dsimp only
   have hb1l : bs1.length = b.l.length := by rw [hb1, List.length_set]; exact hbl
   have hbk2 : (⟨b.o, bs1⟩ : OwL XNode).ok 4 XNode.cells := OwL.len_ok (fun _ => rfl) hbk hb1l
   have hbg1 : bs1[i]? = some ⟨y.kind, y.cond, if y.kind = 1 then y.left else y.left + a.l.length, y.right⟩ := by rw [hb1]; exact List.getElem?_set_self (by omega)
   refine qae ?_
   refine qbm ?_
   refine qaa ?_
   refine ybuab ?_
   refine qb0 ?_
   refine ybuad ?_
   refine qbn ?_
   refine qah ?_
   apply LJ_or (G := [_, _, _, _, _, _]) (j := 6) (cj := 70) rfl rfl (by rfl) rfl (show _ = Value.bool _ from rfl) rfl
   ·
    intro hg7
    replace hg7 := qb hg7
    refine qbm ?_
    refine qaa ?_
    refine ybuab ?_
    refine qb0 ?_
    refine ybuad ?_
    refine qbn ?_
    exact qai
   intro junk7
   refine qaf ?_
   refine q_c (fun hc4 => ?_) (fun hc4 => ?_)
   ·
    refine qay ?_
    refine qbm ?_
    refine qaa ?_
    refine ybuab ?_
    refine qb0 ?_
    refine ybuad ?_
    refine qbm ?_
    refine qag ?_
    refine LJ_q (yv_add64 rfl rfl (by dsimp only; omega) (by dsimp only; omega)) rfl ?_
    refine ybuab ?_
    refine qb0 ?_
    refine LJ_g0 (gives_store1_ow tb ((⟨b.o, bs1⟩ : OwL XNode)) (⟨y.kind, y.cond, if y.kind = 1 then y.left else y.left + a.l.length, y.right + a.l.length⟩) rfl rfl rfl rfl (by repeat (first | apply OSeg.cons | exact OSeg.here | exact OSeg.last | exact OSeg.at (by assumption) | apply OSeg.app)) (by assumption) (fun _ => rfl) (by assumption) (by decide) (by rfl) (by rfl)) ?_
    rintro v L' R' ⟨rfl, rfl⟩
    refine qcs ?_
    refine qaa ?_
    refine qar ?_
    refine qad ?_
    refine qav ?_
    exact q_k ⟨(i + 1, bs1.set i ⟨y.kind, y.cond, if y.kind = 1 then y.left else y.left + a.l.length, y.right + a.l.length⟩), by dsimp only; omega, by dsimp only; rw [hb1, List.set_set]; exact hWn _ (by rw [shN, if_pos hc4])⟩
   refine qbj ?_
   refine qaa ?_
   refine qar ?_
   refine qad ?_
   refine qav ?_
   exact q_k ⟨(i + 1, bs1), by dsimp only; omega, by dsimp only; rw [hb1]; exact hWn _ (by rw [shN, if_neg (show ¬ (y.kind = 3 ∨ y.kind = 4) by omega)])⟩
  obtain rfl : i = b.l.length := by omega
  have hdn := hW.done
  rw [map_range_getD] at hdn
  refine qbk ?_
  refine qbm ?_
  refine qag ?_
  refine qbm ?_
  refine qag ?_
  refine qar ?_
  refine qad ?_
  refine qam ?_
  refine qbm ?_
  refine qbm ?_
  refine LJ_g (gives_appendN tb a (⟨b.o, bs⟩ : OwL XNode) rfl rfl rfl rfl ((show _ = Value.slice _ _ _ from rfl).trans (by simp only [OwL.val, hbl])) hak hbk1 (fun _ => rfl) (by repeat (first | apply OSeg.cons | exact OSeg.here | exact OSeg.last | exact OSeg.at (by assumption) | apply OSeg.app)) (by repeat (first | exact inB_here | apply inB_cons | apply inB_app)) (by dsimp only; omega) (fun _ => rfl) (by dsimp only; omega)) rfl ?_
  rintro v L' R' ⟨o95, rfl, hok95, rfl, rfl⟩
  refine qa6 ?_
  refine LJ_call rfl (range1 (by repeat (first | apply USeg.here | apply USeg.cons | apply USeg.app)) hx hk4 (by omega)) rfl ?_
  rintro v L' R' ⟨r3, k5, rfl, g3, g3', hk5, rfl, rfl⟩
  refine qbm ?_
  refine qag ?_
  refine qa9 ?_
  refine qaa ?_
  refine qa9 ?_
  refine LJ_q (yv_build (qs := [(0, (Value.int _ _).cells.toList), (2, (Value.int _ _).cells.toList), (3, (Value.int _ _).cells.toList)]) (out := [_, _, _, _]) tb rfl rfl rfl rfl) rfl ?_
  refine ybuaa ?_
  rintro v L' R' ⟨b104, rfl, rfl, hR104⟩
  replace hR104 := hR104.symm; subst hR104
  refine LJ_g (gives_append1 (f := XNode.cells) (p := (⟨o95, a.l ++ bs⟩ : OwL XNode)) (a := ⟨r3, 0, (a.l.length : Int) - 1, (a.l.length : Int) + b.l.length - 1⟩) tb rfl rfl rfl rfl (hok95) (by repeat (first | apply OSeg.cons | exact OSeg.here | exact OSeg.last | exact OSeg.at (by assumption) | apply OSeg.app)) (shown_own (by repeat (first | exact zi0 | apply zi1 | apply zi2)) rfl rfl) rfl (by first | omega | (simp only [List.length_cons, List.length_nil, List.length_append]; omega))) rfl ?_
  rintro v L' R' ⟨o105, rfl, hok105, rfl, rfl⟩
  refine qc4 ?_
  refine qa0 ?_
  refine q_r (L' := (⟨o105, a.l ++ bs ++ [⟨r3, 0, (a.l.length : Int) - 1, (a.l.length : Int) + b.l.length - 1⟩]⟩ : OwL XNode).L 161 XNode.cells ++ (cblk c x k5 :: [])) (R' := R) (res1 rfl (rv_tmp (show _ = Value.slice _ _ _ from rfl))) ?_
  refine ⟨(⟨o105, _⟩ : OwL XNode), k5, rfl, hok105, ?_, hk5, rfl, rfl⟩
  have := haD.two hbD (k := r3) (by omega)
  rw [show ((a.l.length + b.l.length : Nat) : Int) = (a.l.length : Int) + b.l.length by omega] at this
  rw [hdn]
  exact this
theorem drawRule_2 (c : Nat) (x : Arr Int) (R : List Sl) (conds : Nat) (hx : CodesR x R) (hc : 1 ≤ conds ∧ conds ≤ 64) : RuleT c x R conds 2 :=
  drawRule_step c x R conds 1 hx hc (by decide) (by decide) (drawRule_step c x R conds 0 hx hc (by decide) (by decide) (drawRule_0 c x R conds hx hc))
end Go.Proofs.Ytkpfjmibipblhaa
end
