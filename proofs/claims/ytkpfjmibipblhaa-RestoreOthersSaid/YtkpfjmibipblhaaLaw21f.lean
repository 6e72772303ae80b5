import Derived.Test.YtkpfjmibipblhaaEasyR
import Derived.Test.YtkpfjmibipblhaaNarrow
import Derived.Test.YtkpfjmibipblhaaFeedP
import Derived.Test.YtkpfjmibipblhaaSiteD
import Derived.Test.YtkpfjmibipblhaaRestR
import Derived.Test.YtkpfjmibipblhaaFeedD
import Derived.Test.YtkpfjmibipblhaaRule
section
/-
  Statements about chapter 21: other zones that are off. Plain. By an AI agent; no person has read it.
-/
set_option linter.unusedSimpArgs false
set_option linter.unusedVariables false
namespace Go.Proofs.Ytkpfjmibipblhaa
open Go.Aw Go
abbrev thriceS (s : XSite) (zs : Arr XZone) : XSite := ⟨s.air, s.sensors, s.conds, zs, s.persons⟩
theorem thrice_err {s : XSite} {zs : Arr XZone} {z : XZone} (h : siteErr s = 0) (hz : s.zones.l = [z]) (hzs : zs.l = [z, z, z]) : siteErr (thriceS s zs) = 0 := by
  have e1 : condsErr (thriceS s zs) = condsErr s := rfl
  have e2 : personsErr (thriceS s zs) = personsErr s := rfl
  have e3 : zonesErr (thriceS s zs) = zonesErr s := by
    rw [zonesErr, zonesErr, hz]
    show ((zs.l.findSome? _).getD 0) = _
    rw [hzs]
    simp only [List.findSome?_cons, List.findSome?_nil]
    cases nzO (zoneErr s.conds.l.length s.air.mine.roads.l.length z) <;> rfl
  have e4 : siteErr (thriceS s zs) = siteErr s := by
    rw [siteErr, e1, e2, e3, siteErr, hz]
    show (if airErr s.air ≠ 0 then _ else if 64 < s.sensors.l.length ∨ 64 < s.conds.l.length ∨ 16 < zs.l.length ∨ 64 < s.persons.l.length then _ else _) = _
    rw [hzs]
    have hq : (64 < s.sensors.l.length ∨ 64 < s.conds.l.length ∨ 16 < [z, z, z].length ∨ 64 < s.persons.l.length) ↔ (64 < s.sensors.l.length ∨ 64 < s.conds.l.length ∨ 16 < [z].length ∨ 64 < s.persons.l.length) := by simp
    simp only [hq]
  rw [e4, h]
structure OthS (n : Nat) (l : List XSwitch) : Prop where
  len : l.length = n
  sw : ∀ i : Nat, i < l.length → (-1 ≤ (l.getD i default).above ∧ (l.getD i default).above < i) ∧ (l.getD i default).since = 0 ∧ (-1 ≤ (l.getD i default).shown ∧ (l.getD i default).shown ≤ 1) ∧ (l.getD i default).late = false
theorem OthS.nil : OthS 0 [] := ⟨rfl, fun i hi => by simp at hi⟩
theorem OthS.add {n : Nat} {l : List XSwitch} (h : OthS n l) {a r : Int} {c : Bool} (ha : -1 ≤ a ∧ a < n) (hr : -1 ≤ r ∧ r ≤ 1) : OthS (n + 1) (l ++ [⟨a, 0, r, c, false⟩]) := by
  have hl := h.len
  refine ⟨by rw [List.length_append, hl]; rfl, fun i hi => ?_⟩
  rw [List.length_append, List.length_singleton] at hi
  rcases Nat.lt_or_ge i l.length with h1 | h1
  · have e : (l ++ [(⟨a, 0, r, c, false⟩ : XSwitch)]).getD i default = l.getD i default := by
      rw [List.getD_eq_getElem?_getD, List.getElem?_append_left h1, ← List.getD_eq_getElem?_getD]
    rw [e]; exact h.sw i h1
  · obtain rfl : i = l.length := by omega
    have e : (l ++ [(⟨a, 0, r, c, false⟩ : XSwitch)]).getD l.length default = ⟨a, 0, r, c, false⟩ := by
      rw [List.getD_eq_getElem?_getD, List.getElem?_append_right (Nat.le_refl _), Nat.sub_self]; rfl
    rw [e]
    exact ⟨by dsimp only; omega, rfl, hr, rfl⟩
theorem OthS.feed {n : Nat} {l : List XSwitch} (h : OthS n l) (hn : 3 ≤ n ∧ n ≤ 6) : feedE l [(n : Int) - 1 - 0, (n : Int) - 1 - 1, (n : Int) - 1 - 2] 3 = 0 := by
  have hl := h.len
  have h0 : ¬ (32 < l.length ∨ 16 < [(n : Int) - 1 - 0, (n : Int) - 1 - 1, (n : Int) - 1 - 2].length) := by rw [hl]; simp; omega
  have h1 : (List.range l.length).findSome? (swErr l) = none := by
    rw [List.findSome?_eq_none_iff]
    intro i hi
    obtain ⟨a1, a2, a3, a4⟩ := h.sw i (List.mem_range.1 hi)
    exact swErr_0 rfl (by omega) (by omega) (fun h => h.elim (fun h => by omega) (fun h => by rw [a4] at h; cases h.1))
  have h2 : (List.range [(n : Int) - 1 - 0, (n : Int) - 1 - 1, (n : Int) - 1 - 2].length).findSome? (znErr l.length [(n : Int) - 1 - 0, (n : Int) - 1 - 1, (n : Int) - 1 - 2]) = none := by
    rw [hl]
    obtain rfl | rfl | rfl | rfl : n = 3 ∨ n = 4 ∨ n = 5 ∨ n = 6 := by omega
    all_goals decide
  rw [feedE_rp h0 h1 h2, if_neg (by omega)]
theorem OthS.time {n : Nat} {l : List XSwitch} (h : OthS n l) : TimeOk l 1000 := ⟨by omega, fun x hx => by
  obtain ⟨i, hi, rfl⟩ := List.getElem_of_mem hx
  have := (h.sw i hi).2.1
  rw [List.getD_eq_getElem?_getD, List.getElem?_eq_getElem hi] at this
  have e : (some l[i]).getD default = l[i] := rfl
  rw [e] at this
  omega⟩
def stateBad (sw : List XSwitch) (a : Int) : Prop := (sw.getD a.toNat default).shown ≠ -1 ∨ (0 ≤ (sw.getD a.toNat default).above ∧ (sw.getD (sw.getD a.toNat default).above.toNat default).shown ≠ 1)
instance (sw : List XSwitch) (a : Int) : Decidable (stateBad sw a) := by unfold stateBad; infer_instance
def wantTo (c : List XCut) (sw : List XSwitch) (zn : List Int) (a : Int) (k : Nat) : Int := if ∃ j : Nat, j < k ∧ PowersAt c sw zn 3 0 a j then 20 else if stateBad sw a then 10 else 0
theorem want_one {c : List XCut} {sw : List XSwitch} {zn : List Int} {a : Int} : wantTo c sw zn a 1 = if stateBad sw a then 10 else 0 := by
  rw [wantTo, if_neg]
  rintro ⟨j, hj, h⟩
  obtain rfl : j = 0 := by omega
  exact h.1.1 rfl
theorem want_yes {c : List XCut} {sw : List XSwitch} {zn : List Int} {a : Int} {k : Nat} (h : PowersAt c sw zn 3 0 a k) : wantTo c sw zn a (k + 1) = 20 := by
  rw [wantTo, if_pos ⟨k, by omega, h⟩]
theorem want_no {c : List XCut} {sw : List XSwitch} {zn : List Int} {a : Int} {k : Nat} (h : ¬ PowersAt c sw zn 3 0 a k) : wantTo c sw zn a (k + 1) = wantTo c sw zn a k := by
  have : (∃ j : Nat, j < k + 1 ∧ PowersAt c sw zn 3 0 a j) ↔ ∃ j : Nat, j < k ∧ PowersAt c sw zn 3 0 a j := by
    constructor
    · rintro ⟨j, hj, h1⟩
      rcases Nat.lt_or_ge j k with h2 | h2
      · exact ⟨j, h2, h1⟩
      · obtain rfl : j = k := by omega
        exact absurd h1 h
    · rintro ⟨j, hj, h1⟩; exact ⟨j, by omega, h1⟩
  rw [wantTo, wantTo]
  simp only [this]
theorem others_close {s : XSite} {len dl ho : Int} (h : EasyD s len dl ho) {zs : Arr XZone} {z : XZone} (hz : s.zones.l = [z]) (hzs : zs.l = [z, z, z]) {c1 c2 : XCut} {f : XFeeder} {n : Nat} (hn : 3 ≤ n ∧ n ≤ 6) (hsw : OthS n f.switches.l) (hzn : f.zones.l = [(n : Int) - 1 - 0, (n : Int) - 1 - 1, (n : Int) - 1 - 2]) (hrp : f.reply = 3)
    (ha : 0 ≤ atR f 0 ∧ atR f 0 < n) : rcloseE (thriceS s zs) [⟨true, 0, 0⟩, c1, c2] [⟨300, 300⟩] ⟨0, 0, 1, 2, 990⟩ f 1000 = wantTo [⟨true, 0, 0⟩, c1, c2] f.switches.l f.zones.l (atR f 0) 3 := by
  have hse : siteErr (thriceS s zs) = 0 := thrice_err (easy_ok h).err hz hzs
  have hzl : (thriceS s zs).zones.l = [z, z, z] := hzs
  have hrd : (thriceS s zs).air.mine.roads.l = [easyRoad len] := h.roads
  have hsh : sharedE (thriceS s zs) 3 1 1000 = 0 := by
    rw [sharedE, hse, if_neg (by decide), if_neg (by rw [hzl, hrd]; simp), if_neg (by omega)]
  have hfe := hsw.feed hn
  have hr0 : readyE (thriceS s zs) [⟨true, 0, 0⟩, c1, c2] [⟨300, 300⟩] 0 1000 = 0 := by
    have h1 := easy_ready0 h (rs := 0) (t := 1000) (by omega)
    rw [readyE, if_neg (by simp), hz] at h1
    rw [readyE, if_neg (by simp), hzl]
    exact h1
  have hcl : closeE f.switches.l f.zones.l f.reply (atR f 0) 1000 = if stateBad f.switches.l (atR f 0) then 10 else 0 := by
    have hl := hsw.len
    have hce : canE f.switches.l f.zones.l f.reply (atR f 0) 1000 = 0 := by rw [canE, hzn, hrp, hfe, if_neg (by decide), if_neg (by omega), if_pos hsw.time]
    rw [closeE, hce, if_neg (by decide)]
    rfl
  have hzn3 : f.zones.l.length = 3 := by rw [hzn]; rfl
  have hcan : canRE (thriceS s zs) [⟨true, 0, 0⟩, c1, c2] [⟨300, 300⟩] ⟨0, 0, 1, 2, 990⟩ f 1000 = if Powers [⟨true, 0, 0⟩, c1, c2] f.switches.l f.zones.l f.reply 0 (atR f 0) then 20 else 0 := by
    rw [canRE]
    show (if sharedE (thriceS s zs) 3 1 1000 ≠ 0 then _ else _) = _
    rw [hsh, if_neg (by decide), if_neg (by simp), if_neg (show ¬ LateR ⟨0, 0, 1, 2, 990⟩ 1000 by rw [LateR]; dsimp only; omega)]
    show (if readyE (thriceS s zs) [⟨true, 0, 0⟩, c1, c2] [⟨300, 300⟩] 0 1000 ≠ 0 then _ else _) = _
    rw [hr0, if_neg (by decide), if_neg (by rw [hzn, hrp, hfe]; decide), if_neg (by rw [hzn3, hzl]; simp)]
  have hP : Powers [⟨true, 0, 0⟩, c1, c2] f.switches.l f.zones.l f.reply 0 (atR f 0) ↔ ∃ j : Nat, j < 3 ∧ PowersAt [⟨true, 0, 0⟩, c1, c2] f.switches.l f.zones.l 3 0 (atR f 0) j := by
    rw [Powers, hzn3, hrp]
  rw [rcloseE, hcan, wantTo]
  by_cases h1 : ∃ j : Nat, j < 3 ∧ PowersAt [⟨true, 0, 0⟩, c1, c2] f.switches.l f.zones.l 3 0 (atR f 0) j
  · rw [if_pos (hP.2 h1), if_pos (by decide), if_pos h1]
  · rw [if_neg (fun h => h1 (hP.1 h)), if_neg (by decide), if_neg h1]
    exact hcl
theorem nxt_zero {sw : List XSwitch} {l : List Int} : nxtTo sw l 0 = l.getD 0 0 := rfl
theorem nxt_full {sw : List XSwitch} {l : List Int} : nxtTo sw l l.length = nxtAt sw l := by rw [nxtTo, nxtAt, List.take_length]
theorem nxt_mem {sw : List XSwitch} {l : List Int} (h : 1 ≤ l.length) : ∀ k : Nat, k ≤ l.length → nxtTo sw l k ∈ l := by
  have h0 : l.getD 0 0 ∈ l := List.mem_of_getElem? (get_D (l := l) (k := 0) 0 (by omega))
  intro k
  induction k with
  | zero => intro _; exact h0
  | succ k ih =>
    intro hk
    rw [nxtTo_succ (by omega)]
    split
    · exact List.mem_of_getElem? (get_D (l := l) (k := k) 0 (by omega))
    · exact ih (by omega)
theorem path_own {f : XFeeder} {s : Int} (hfe : feedE f.switches.l f.zones.l f.reply = 0) (hs : 0 ≤ s ∧ s < f.switches.l.length) : (pathL f.switches.l f.zones.l f.reply s).getD 0 0 = s ∧ 1 ≤ (pathL f.switches.l f.zones.l f.reply s).length := by
  have hl := (feedOk_of hfe).sn
  rw [pathL, if_neg (by omega), pathS]
  obtain ⟨m, hm⟩ : ∃ m, (s + 1).toNat = m + 1 := ⟨s.toNat, by omega⟩
  rw [hm, upF, if_neg (by omega)]
  exact ⟨rfl, by simp⟩
end Go.Proofs.Ytkpfjmibipblhaa
end
section
/-
  What an append to a full read-only slice gives. By an AI agent; no person has read it.
-/
set_option linter.unusedSimpArgs false
set_option linter.unusedVariables false
namespace Go.Aw
open Go
section
variable {P : Program} {ρ : Operand → Value} {L : List Blk} {R : List Sl} {dst : Option Tmp} {ty : TypeId} {pos : String} {after : Array Edge} {guard : Option (Nat × Bool)} (tb : Tabs P) {T : TypeId} {x y : Operand}
theorem rows_len {n : Nat} : ∀ {rows : List (List Value)}, (∀ r ∈ rows, r.length = n) → rows.flatten.length = rows.length * n
  | [], _ => by simp
  | r :: rows, h => by rw [List.flatten_cons, List.length_append, rows_len fun r hr => h r (by simp [hr]), h r (by simp), List.length_cons, Nat.succ_mul]; omega
theorem gives_appendR {α : Type} {e n fl bt z k2 n2 fl2 bt2 z2} {f : α → List Value} {xs : Arr α} {ys : List α} {m : Nat} {subs : List Sl} (hT : getT tb.tab T = some ⟨.slice e, n, fl, bt, z⟩) (hE : getT tb.tab e = some ⟨k2, n2, fl2, bt2, z2⟩) (hn2 : z2.length = n2) (h0 : 0 < n2)
    (hx : ρ x = xs.val) (hR : InR (xs.sl n2 f subs) R) (hx0 : 0 < xs.l.length) (hcap : xs.cap < xs.l.length + m) (hs : Shown L R (ρ y) m n2 (ys.flatMap f)) (hm : ys.length = m) (hm0 : 0 < m) (h1 : ∀ a, (f a).all (·.oneCell') = true) (hby : (xs.l.length + m) * (bt2 + 1) ≤ 140737488355328) :
    Gives P ⟨dst, .call ⟨.builtin .append, #[x, y], #[T, T]⟩, ty, pos, after, guard⟩ ρ L R (fun v L' R' => ∃ o : Ow, v = (⟨o, xs.l ++ ys⟩ : OwL α).val ∧ (⟨o, xs.l ++ ys⟩ : OwL α).ok n2 f ∧ (⟨o, xs.l ++ ys⟩ : OwL α).L e f ++ L = L' ∧ R = R') := by
  intro c w hst a next Q kk
  obtain ⟨ar, cap, l⟩ := xs
  dsimp only at hx hR hx0 hcap hby kk ⊢
  have hu := under_slice (tb.ok _ _ hT) rfl
  obtain ⟨ti, u, zv, i1, i2, i3, i4⟩ := facts_parts (tb.ok _ _ hE)
  have hsz : ti.size = n2 := by have := congrArg TI.sz i4; simpa [tiOf] using this.symm
  have hbt : ti.bytes = bt2 := by have := congrArg TI.bt i4; simpa [tiOf] using this.symm
  have hz : zv.cells.toList = z2 := by have := congrArg TI.z i4; simpa [tiOf] using this.symm
  have hzs : zv.cells.size = n2 := by rw [← hn2, ← hz]; simp
  have hw : ∀ r ∈ l.map f, r.length = n2 := by
    have hst' := hst
    obtain ⟨⟨G, hh, _⟩, _, _⟩ := hst'
    obtain ⟨r, hr, hsub⟩ := hR
    have hrep := (hh.rep r hr).sub hsub
    cases hrep with
    | mk _ _ _ hw _ _ => exact hw
  have hf0 : (l.map f).flatten = l.flatMap f := rows_map _
  have hfl : (l.map f).flatten.length = l.length * n2 := by rw [rows_len hw, List.length_map]
  have hsx := shown_ro (L := L) hR h0 (fun c w hst => by
    obtain ⟨⟨G, hh, _⟩, _, _⟩ := hst
    obtain ⟨r, hr, hsub⟩ := hR
    have hrep := (hh.rep r hr).sub hsub
    cases hrep with
    | mk _ _ _ _ hm _ =>
      rcases hm with h | ⟨b, off, ha, _⟩
      · have h' := congrArg List.length h
        simp at h'
        rw [h'] at hx0
        simp at hx0
      · exact ⟨b, off, ha⟩) hfl ⟨c, w, hst⟩
  rw [hf0] at hsx hfl
  obtain ⟨adx, capx, hvx, hlx, hcx⟩ := hsx
  obtain ⟨ad, cap2, hy, hnl, hcells⟩ := hs
  have hcw := hcells c w hst
  have hcxw := hcx c w hst
  have e1 : execOp ρ ⟨dst, .call ⟨.builtin .append, #[x, y], #[T, T]⟩, ty, pos, after, guard⟩ = (do pure (.value (← Builtin.append_ #[T, T] ty #[ρ x, ρ y]))) := by
    simp [execOp, resolve, invoke, builtin]
  have zlen : ∀ k, (Builtin.zeroCells zv.cells k).toList.length = k * n2 := fun k => by rw [Array.length_toList, size_zeroCells, hzs]
  have hb1 : (l.length + m) * bt2 ≤ 140737488355328 := Nat.le_trans (Nat.mul_le_mul_left _ (Nat.le_succ _)) hby
  have hb2 : l.length + m ≤ 140737488355328 := Nat.le_trans (Nat.le_mul_of_pos_right _ (Nat.succ_pos _)) hby
  have hvx' : (Value.slice ar l.length cap) = .slice (some adx) l.length capx := hvx
  obtain ⟨rfl, -, rfl⟩ : ar = some adx ∧ l.length = l.length ∧ cap = capx := by simpa using hvx'
  have hr := run_append_grow (P := P) w T ty e ti zv hu i1 i3 adx l.length cap (l.flatMap f) (by rw [hsz]; exact hfl) hcxw ad m cap2 (ys.flatMap f) (by rw [hsz]; exact hnl) hcw (by omega) (by omega) (growslice_fits (by omega) (by rw [hbt]; exact hb1))
  have hge := grownCap_ge w (l.length + m) cap e
  have hcm : grownCap w (l.length + m) cap e ≤ maxLen := grownCap_le_maxLen w (l.length + m) cap e (by simp only [maxLen]; omega)
  have h2 := (hst.drew).alloc ((l.flatMap f).toArray ++ (ys.flatMap f).toArray ++ Builtin.zeroCells zv.cells (grownCap w (l.length + m) cap e - (l.length + m))) e
  have hll : (l ++ ys).length = l.length + m := by rw [List.length_append, hm]
  have hff : (l ++ ys).flatMap f = l.flatMap f ++ ys.flatMap f := by simp
  refine upon_value (w' := w.drew.alloc (.cells ((l.flatMap f).toArray ++ (ys.flatMap f).toArray ++ Builtin.zeroCells zv.cells (grownCap w (l.length + m) cap e - (l.length + m))) e)) (v := (⟨.own w.heap.size (grownCap w (l.length + m) cap e) (Builtin.zeroCells zv.cells (grownCap w (l.length + m) cap e - (l.length + m))).toList, l ++ ys⟩ : OwL α).val) ?_ (kk _ _ R _ ⟨.own w.heap.size (grownCap w (l.length + m) cap e) (Builtin.zeroCells zv.cells (grownCap w (l.length + m) cap e - (l.length + m))).toList, rfl, ⟨?_, ?_, hcm, ?_⟩, rfl, rfl⟩ ?_)
  · rw [e1, hx, hy]
    simp only [Arr.val, Sem.run_bind, hr, Result.andThen_ok, Sem.run_pure, OwL.val, Ow.addr, Ow.cap, hll]
  · rw [hff, List.length_append, hfl, hnl, hll, Nat.add_mul]
  · rw [hll]; exact hge
  · rw [hff, List.length_append, List.length_append, hfl, hnl, zlen, ← Nat.add_mul, ← Nat.add_mul]
    congr 1; omega
  · refine h2.perm ?_
    simp only [OwL.L, Ow.L, hff, World.size_drew, Array.toList_append, List.append_assoc, List.cons_append, List.nil_append]
    exact List.Perm.refl _
end
end Go.Aw
end
section
/-
  The draws: a power network. By an AI agent; no person has read it.
-/
set_option linter.unusedSimpArgs false
set_option linter.unusedVariables false
namespace Go.Proofs.Ytkpfjmibipblhaa
open Go.Aw Go
set_option maxRecDepth 20000
attribute [local irreducible] CJ LJ DJ Tri YV Gives seqK blockK loopK retK RV mergeK OwL.L
end Go.Proofs.Ytkpfjmibipblhaa
end
section
/-
  The draws of chapter 20: a site. By an AI agent; no person has read it.
-/
set_option linter.unusedSimpArgs false
set_option linter.unusedVariables false
namespace Go.Proofs.Ytkpfjmibipblhaa
open Go.Aw Go
set_option maxRecDepth 20000
attribute [local irreducible] CJ LJ DJ Tri YV Gives seqK blockK loopK retK RV mergeK OwL.L
end Go.Proofs.Ytkpfjmibipblhaa
end
section
/-
  Statements about chapter 21: the sanity check, and a drawn scene. By an AI agent; no person has read it.
-/
set_option linter.unusedSimpArgs false
set_option linter.unusedVariables false
namespace Go.Proofs.Ytkpfjmibipblhaa
open Go.Aw Go
set_option maxRecDepth 20000
attribute [local irreducible] CJ LJ DJ Tri YV Gives seqK blockK loopK retK RV mergeK OwL.L
section
variable {A9 B9 : Prop}
theorem ycoaa (a : A9) (h : A9 → B9 := by exact DJ_q (yv_move (show _ = Value.slice _ _ _ from rfl)) rfl rfl rfl) : B9 := h a
theorem ycoab (a : A9) (h : A9 → B9 := by exact DJ_q (yv_loadN (row := [_, _, _, _, _, _, _, _]) tb rfl rfl rfl (by repeat (first | exact zi0 | apply zi1 | apply zi2)) (by rfl) (by rfl)) rfl rfl rfl) : B9 := h a
theorem ycoac (a : A9) (h : A9 → B9 := by exact LJ_q (yv_loadN (row := [_, _, _, _, _, _, _, _]) tb rfl rfl rfl (by repeat (first | exact zi0 | apply zi1 | apply zi2)) (by rfl) (by rfl)) rfl) : B9 := h a
theorem ycoad (a : A9) (h : A9 → B9 := by exact LJ_q (yv_loadN (row := [_, _, _, _, _]) tb rfl rfl rfl (by repeat (first | exact zi0 | apply zi1 | apply zi2)) (by rfl) (by rfl)) rfl) : B9 := h a
end
theorem awake21_tri (L : List Blk) (R : List Sl) : Tri Try.prog 27 ([] : List Value).toArray L R (fun v L' R' => v = .bool true ∧ L = L' ∧ R = R') := by
  refine tri_enter 109 Try.call27 Try.func27 rfl rfl rfl ?_
  refine qae ?_
  refine qaz ?_
  refine qa4 ?_
  refine CJ_nil 1 ?_
  refine qay ?_
  refine LJ_call rfl (new_tri ⟨none, 0, []⟩ _ _ ⟨inR_self (.head _), fun i q hq => by simp at hq⟩) rfl ?_
  rintro v L' R' ⟨c, rfl, hx, rfl, rfl⟩
  refine LJ_call rfl (Tri.spl (.consL .rest) (drawEasy_tri c _ 0 _ hx (Nat.zero_le _))) rfl ?_
  rintro v L' R' ⟨_, rfl, s, len, dl, ho, sw, zn, n, k1, rfl, hE, ⟨hsk, hzk⟩, hn, hsl, hzl, ⟨hk1, he0⟩, ⟨hs, hR0⟩, rfl⟩
  refine LJ_q (yv_move rfl) rfl ?_
  refine qbs ?_
  refine qbs ?_
  refine qaq ?_
  intro b1
  refine qaq ?_
  intro b2
  refine qak ?_
  refine qak ?_
  refine qa4 ?_
  obtain ⟨rfl, rfl, rfl, rfl, _⟩ := he0 (Nat.zero_le _)
  obtain ⟨so, sl⟩ := sw
  obtain ⟨zo, zl⟩ := zn
  obtain rfl : sl = [⟨-1, 0, 0, true, false⟩] := hsl
  obtain rfl : zl = [0] := hzl
  have hRR : ∀ r ∈ R, InR r R' := fun r hr => hR0 r (.tail _ (.tail _ hr))
  have hsg : ([⟨-1, 0, 0, true, false⟩] : List XSwitch)[0]? = some ⟨-1, 0, 0, true, false⟩ := rfl
  have hl0 : ([⟨-1, 0, 0, true, false⟩] : List XSwitch).length = 1 := rfl
  have hl1 : ([⟨-1, 0, 0, false, false⟩] : List XSwitch).length = 1 := rfl
  have hsg1 : ([⟨-1, 0, 0, false, false⟩] : List XSwitch)[0]? = some ⟨-1, 0, 0, false, false⟩ := rfl
  have hsk1 : (⟨so, [⟨-1, 0, 0, false, false⟩]⟩ : OwL XSwitch).ok 5 XSwitch.cells := OwL.set_ok (f := XSwitch.cells) (wd := 5) (i := 0) (x := ⟨-1, 0, 0, false, false⟩) (fun _ => rfl) hsk
  have hsk2 : (⟨so, [⟨-1, 0, -1, false, false⟩]⟩ : OwL XSwitch).ok 5 XSwitch.cells := OwL.set_ok (f := XSwitch.cells) (wd := 5) (i := 0) (x := ⟨-1, 0, -1, false, false⟩) (fun _ => rfl) hsk1
  refine CJ_drawn2 tb [20, 21] [0, 1, 2, 3, 4, 5] [6, 7, 8, 9] ([Blk.mk b2 _ _]) _ mixed (by kernel_rfl) (by repeat (first | exact zs0 _ | exact zs1 _ | apply zs2 | apply zs3 | apply zs4 | apply zs5)) (by (repeat (first | apply List.Sublist.cons (a := Blk.mk b19 _ _) | apply List.Sublist.cons (a := Blk.mk b21 _ _) | apply List.Sublist.cons_cons)); exact List.Sublist.refl _) ?_
  refine qan ?_
  refine qau ?_
  refine qcp ?_
  refine qcu ?_
  refine DJ3_q (yv_index_ow tb ((⟨so, [⟨-1, 0, 0, true, false⟩]⟩ : OwL XSwitch)) _ rfl rfl rfl rfl (by assumption) (i := 0) (by first | rfl | omega | (simp; omega)) (by first | omega | (dsimp only; omega) | (dsimp only; rw [List.length_set]; omega) | (dsimp only; simp only [List.length_set]; omega))) rfl rfl rfl rfl ?_
  refine qcv ?_
  refine qba ?_
  refine DJ_g0 (gives_store1_ow tb ((⟨so, [⟨-1, 0, 0, true, false⟩]⟩ : OwL XSwitch)) (⟨-1, 0, 0, false, false⟩) rfl rfl rfl rfl (by repeat (first | apply OSeg.cons | exact OSeg.here | exact OSeg.last | exact OSeg.at (by assumption) | apply OSeg.app)) (by assumption) (fun _ => rfl) (by assumption) (by decide) (by rfl) (by rfl)) rfl rfl ?_
  rintro v L' R' ⟨rfl, rfl⟩
  refine qa1 ?_
  refine DJ_q (yv_index_ow tb ((⟨so, [⟨-1, 0, 0, false, false⟩]⟩ : OwL XSwitch)) _ rfl rfl rfl rfl (by assumption) (i := 0) (by first | rfl | omega | (simp; omega)) (by first | omega | (dsimp only; omega) | (dsimp only; rw [List.length_set]; omega) | (dsimp only; simp only [List.length_set]; omega))) rfl rfl rfl ?_
  refine qce ?_
  refine DJ_g0 (gives_store1_ow tb ((⟨so, [⟨-1, 0, 0, false, false⟩]⟩ : OwL XSwitch)) (⟨-1, 0, -1, false, false⟩) rfl rfl rfl rfl (by repeat (first | apply OSeg.cons | exact OSeg.here | exact OSeg.last | exact OSeg.at (by assumption) | apply OSeg.app)) (by assumption) (fun _ => rfl) (by assumption) (by decide) (by rfl) (by rfl)) rfl rfl ?_
  rintro v L' R' ⟨rfl, rfl⟩
  refine qa1 ?_
  refine qb9 ?_
  refine CJ_frz1 (A := ⟨b2, [(⟨so, [⟨-1, 0, -1, false, false⟩]⟩ : OwL XSwitch).val, (⟨zo, [0]⟩ : OwL Int).val, .int .i64 3], 71⟩ :: ⟨b1, s.cells, 36⟩ :: L) (p := (⟨so, [⟨-1, 0, -1, false, false⟩]⟩ : OwL XSwitch)) (wd := 5) [] (fun _ => rfl) (by decide) hsk2 (fun s hs => by cases hs) ?_
  refine CJ_frz1 (A := ⟨b2, [(⟨so, [⟨-1, 0, -1, false, false⟩]⟩ : OwL XSwitch).val, (⟨zo, [0]⟩ : OwL Int).val, .int .i64 3], 71⟩ :: ⟨b1, s.cells, 36⟩ :: L) (p := (⟨zo, [0]⟩ : OwL Int)) (wd := 1) [] (fun _ => rfl) (by decide) hzk (fun s hs => by cases hs) ?_
  refine CJ_weak (L' := ⟨b2, [(⟨so, [⟨-1, 0, -1, false, false⟩]⟩ : OwL XSwitch).val, (⟨zo, [0]⟩ : OwL Int).val, .int .i64 3], 71⟩ :: ⟨b1, s.cells, 36⟩ :: L) (List.sublist_append_left _ _) (allR_self _) ?_
  obtain ⟨f, hfe⟩ : ∃ f : XFeeder, f = ⟨(⟨so, [⟨-1, 0, -1, false, false⟩]⟩ : OwL XSwitch).arr, (⟨zo, [0]⟩ : OwL Int).arr, 3⟩ := ⟨_, rfl⟩
  obtain ⟨R2, hR2e⟩ : ∃ R2, R2 = isl f.zones :: swsl f.switches :: R' := ⟨_, rfl⟩
  have hR2 : ∀ r ∈ R', InR r R2 := fun r hr => inR_self (by rw [hR2e]; exact .tail _ (.tail _ hr))
  have hf2 : FeederR f R2 := ⟨inR_self (by rw [hR2e]; exact .tail _ (.head _)), inR_self (by rw [hR2e]; exact .head _)⟩
  have hs2 := hs.mono hR2
  have hfs : f.switches.l = [⟨-1, 0, -1, false, false⟩] := by rw [hfe]
  have hfz : f.zones.l = [0] := by rw [hfe]
  have hfr : f.reply = 3 := by rw [hfe]
  refine CJ_R (show _ = R2 by rw [hR2e, hfe]) ?_
  refine CJ_L (show _ = ⟨b2, f.cells, 71⟩ :: ⟨b1, s.cells, 36⟩ :: L by rw [hfe]; rfl) ?_
  refine qay ?_
  refine LJ_q (yv_build (qs := [(0, (Value.bool _).cells.toList)]) (out := [_, _, _]) tb rfl rfl rfl rfl) rfl ?_
  refine LJ_g (gives_buildSlice (qs := [(0, (Value.agg _).cells.toList)]) (out := [_, _, _]) tb rfl rfl rfl rfl rfl rfl rfl) rfl ?_
  rintro v L' R' ⟨b27, rfl, rfl, hR27⟩
  replace hR27 := hR27.symm; subst hR27
  refine LJ_frz (wd := 3) (len := 1) (cap := 1) (rows := [XCut.cells ⟨true, 0, 0⟩]) (subs := []) rfl (by decide) (by decide) (fun r hr => by rw [List.mem_singleton.1 hr]; rfl) (by decide) rfl (fun s hs => by cases hs) ?_
  refine qcd ?_
  refine LJ_g (gives_buildSlice (qs := [(0, (Value.agg _).cells.toList)]) (out := [_, _]) tb rfl rfl rfl rfl rfl rfl rfl) rfl ?_
  rintro v L' R' ⟨b29, rfl, rfl, hR29⟩
  replace hR29 := hR29.symm; subst hR29
  refine LJ_frz (wd := 2) (len := 1) (cap := 1) (rows := [XSpan.cells ⟨300, 300⟩]) (subs := []) rfl (by decide) (by decide) (fun r hr => by rw [List.mem_singleton.1 hr]; rfl) (by decide) rfl (fun s hs => by cases hs) ?_
  refine qc4 ?_
  refine qc4 ?_
  refine qa4 ?_
  obtain ⟨R3, hR3e⟩ : ∃ R3, R3 = spsl (⟨some ⟨b29, 0, none⟩, 1, [⟨300, 300⟩]⟩ : Arr XSpan) :: cusl (⟨some ⟨b27, 0, none⟩, 1, [⟨true, 0, 0⟩]⟩ : Arr XCut) :: R2 := ⟨_, rfl⟩
  have hR3 : ∀ r ∈ R2, InR r R3 := fun r hr => inR_self (by rw [hR3e]; exact .tail _ (.tail _ hr))
  have hA : RestA s (⟨some ⟨b27, 0, none⟩, 1, [⟨true, 0, 0⟩]⟩ : Arr XCut) (⟨some ⟨b29, 0, none⟩, 1, [⟨300, 300⟩]⟩ : Arr XSpan) R3 := ⟨hs2.mono hR3, inR_self (by rw [hR3e]; exact .tail _ (.head _)), inR_self (by rw [hR3e]; exact .head _)⟩
  have hf3 := hf2.mono hR3
  have hrd := fun t => easy_ready hE (cl := 0) (rs := 0) (t := t) (x := ⟨300, 300⟩) (by omega)
  have hrd20 : readyE s [⟨true, 0, 0⟩] [⟨300, 300⟩] 0 20 = 0 := (hrd 20).trans (by decide)
  have hrd21 : readyE s [⟨true, 0, 0⟩] [⟨300, 300⟩] 0 21 = 0 := (hrd 21).trans (by decide)
  have hrd22 : readyE s [⟨true, 0, 0⟩] [⟨300, 300⟩] 0 22 = 0 := (hrd 22).trans (by decide)
  have hrd4 : readyF s [⟨true, 0, 0⟩] [⟨300, 300⟩] 0 4 = 20 := by
    rw [readyF]
    show (if sharedE s 1 1 4 ≠ 0 then sharedE s 1 1 4 else _) = _
    rw [easy_shared hE (by omega), if_neg (by decide)]
    exact (hrd 4).trans (by decide)
  have hask : askE s [⟨true, 0, 0⟩] [⟨300, 300⟩] noRest 0 0 20 = 0 := by rw [easy_ask hE rfl rfl (by omega), hrd20]
  have haskr : askR s [⟨true, 0, 0⟩] [⟨300, 300⟩] noRest 0 0 20 = ⟨0, 0, -1, 1, 20⟩ := by rw [askR, if_pos hask]
  have hcon : confirmE s [⟨true, 0, 0⟩] [⟨300, 300⟩] ⟨0, 0, -1, 1, 20⟩ 1 21 = 0 := by rw [easy_confirm hE rfl rfl (by omega), if_neg (by omega), hrd21]
  have hconr : confirmR s [⟨true, 0, 0⟩] [⟨300, 300⟩] ⟨0, 0, -1, 1, 20⟩ 1 21 = ⟨0, 0, 1, 2, 21⟩ := by rw [confirmR, if_pos hcon]
  have hfe0 : feedE f.switches.l f.zones.l f.reply = 0 := by rw [hfs, hfz, hfr]; decide
  have hcan := easy_can hE (c := [⟨true, 0, 0⟩]) (fl := [⟨300, 300⟩]) (t0 := 21) (t := 22) (f := f) rfl rfl (by omega) (by omega) hrd22 hfe0 (by rw [hfz]; rfl)
  have hat : atR f 0 = 0 := by rw [atR, hfs, hfz, hfr]; decide
  have hcl : rcloseE s [⟨true, 0, 0⟩] [⟨300, 300⟩] ⟨0, 0, 1, 2, 21⟩ f 22 = 0 := by
    rw [rcloseE, hcan, if_neg (by decide)]
    show closeE _ _ _ (atR f 0) 22 = 0
    rw [hat, hfs, hfz, hfr]; decide
  refine CJ_R (show _ = R3 by rw [hR3e]; rfl) ?_
  refine CJ_drawn tb [0, 1, 2, 3, 4, 5, 6, 7, 8, 9, 10] ([Blk.mk b1 _ _]) mixed (by kernel_rfl) (by repeat (first | exact zs0 _ | exact zs1 _ | apply zs2 | apply zs3 | apply zs4 | apply zs5)) ?_
  refine ycoab ?_
  refine ycoaa ?_
  refine ycoaa ?_
  refine q_d rfl (None_tri _ _) ?_
  refine q_d rfl (Ask_tri s (⟨some ⟨b27, 0, none⟩, 1, [⟨true, 0, 0⟩]⟩ : Arr XCut) (⟨some ⟨b29, 0, none⟩, 1, [⟨300, 300⟩]⟩ : Arr XSpan) noRest 0 0 20 _ _ hA) ?_
  dsimp only
  rw [hask, haskr]
  refine DJ_q (yv_move rfl) rfl rfl rfl ?_
  refine DJ_q (yv_extract rfl rfl) rfl rfl rfl ?_
  refine DJ_q (yv_extract rfl rfl) rfl rfl rfl ?_
  refine qbr ?_
  intro b5
  refine qbg ?_
  refine qcg ?_
  refine DJ_nil (seqK_normal (CJ_seq (CJ_region ?_)))
  refine ycoac ?_
  refine qbm ?_
  refine qbm ?_
  refine ycoad ?_
  refine q_l rfl (Confirm_tri s (⟨some ⟨b27, 0, none⟩, 1, [⟨true, 0, 0⟩]⟩ : Arr XCut) (⟨some ⟨b29, 0, none⟩, 1, [⟨300, 300⟩]⟩ : Arr XSpan) ⟨0, 0, -1, 1, 20⟩ 1 21 _ _ hA) ?_
  dsimp only
  rw [hcon, hconr]
  refine LJ_q (yv_move rfl) rfl ?_
  refine qbs ?_
  refine qbs ?_
  refine qaq ?_
  intro b7
  refine qak ?_
  refine qad ?_
  refine qam ?_
  refine ycoac ?_
  refine qbm ?_
  refine qbm ?_
  refine ycoad ?_
  refine LJ_q (yv_loadN (row := [_, _, _]) tb rfl rfl rfl (by repeat (first | exact zi0 | apply zi1 | apply zi2)) (by rfl) (by rfl)) rfl ?_
  refine LJ_call rfl (Close_tri s (⟨some ⟨b27, 0, none⟩, 1, [⟨true, 0, 0⟩]⟩ : Arr XCut) (⟨some ⟨b29, 0, none⟩, 1, [⟨300, 300⟩]⟩ : Arr XSpan) ⟨0, 0, 1, 2, 21⟩ f 22 _ _ hA hf3 (by rw [hfs, hfz]; simp)) rfl ?_
  rintro v L' R' ⟨q, pc, psw, pz, rp, rfl, ⟨k1, k2, k3⟩, hC, rfl, hR4⟩
  have hown : ownR f ⟨0, 0, 1, 2, 21⟩ := by show atR f 0 = f.zones.l.getD 0 0; rw [hat, hfz]; rfl
  obtain rfl : q = noRest := hC.rest.trans (by rw [rcloseR]; dsimp only; rw [hcl, if_neg (by decide), if_pos hown])
  obtain ⟨po, pl⟩ := pc
  obtain ⟨qo, ql⟩ := psw
  obtain rfl : pl = [⟨false, 0, 0⟩] := hC.cuts.trans (by rw [rcloseC]; dsimp only; rw [hcl, if_neg (by decide), if_pos hown]; rfl)
  obtain rfl : ql = [⟨-1, 22, 0, true, false⟩] := hC.sw.trans (by rw [rcloseSw]; dsimp only; rw [hcl, if_neg (by decide)]; show closeSw f.switches.l (atR f 0) 22 = _; rw [hat, hfs]; rfl)
  dsimp only
  rw [hcl]
  refine LJ_q (yv_move rfl) rfl ?_
  iterate 4 refine qbs ?_
  refine qaq ?_
  intro b9
  refine qaq ?_
  intro b11
  refine qak ?_
  refine qc4 ?_
  refine qak ?_
  refine qad ?_
  refine qa4 ?_
  have hA4 := hA.mono hR4
  have hpg : ([⟨false, 0, 0⟩] : List XCut)[0]? = some ⟨false, 0, 0⟩ := rfl
  have hpl : ([⟨false, 0, 0⟩] : List XCut).length = 1 := rfl
  have hqg : ([⟨-1, 22, 0, true, false⟩] : List XSwitch)[0]? = some ⟨-1, 22, 0, true, false⟩ := rfl
  have hql : ([⟨-1, 22, 0, true, false⟩] : List XSwitch).length = 1 := rfl
  have fin : ∀ r ∈ R, InR r R' := fun r hr => (((hRR r hr).mono hR2).mono hR3).mono hR4
  refine CJ_drawn tb [0, 1, 2, 3, 4, 5, 6, 7, 8, 9, 10, 11, 12, 13, 14, 15, 16, 17, 18, 19, 20, 21, 22, 23, 24, 25, 26, 27, 28, 29, 30, 31, 32, 33, 34, 35, 36, 37, 38, 39, 40, 41, 42, 43, 44, 45, 46, 47, 48, 49, 50, 51, 52] ((⟨b11, [(⟨qo, [⟨-1, 22, 0, true, false⟩]⟩ : OwL XSwitch).val, pz.val, .int .i64 rp], 71⟩ :: ⟨b9, noRest.cells, 78⟩ :: ((⟨qo, [⟨-1, 22, 0, true, false⟩]⟩ : OwL XSwitch).L 98 XSwitch.cells ++ ((⟨po, [⟨false, 0, 0⟩]⟩ : OwL XCut).L 93 XCut.cells ++ (⟨b1, s.cells, 36⟩ :: []))))) mixed (by kernel_rfl) (by repeat (first | exact zs0 _ | exact zs1 _ | apply zs2 | apply zs3 | apply zs4 | apply zs5)) ?_
  refine ycoab ?_
  refine ycoaa ?_
  refine ycoaa ?_
  refine q_d rfl (Ready_tri s (⟨some ⟨b27, 0, none⟩, 1, [⟨true, 0, 0⟩]⟩ : Arr XCut) (⟨some ⟨b29, 0, none⟩, 1, [⟨300, 300⟩]⟩ : Arr XSpan) 0 4 _ _ hA4) ?_
  dsimp only
  rw [hrd4]
  refine DJ_q (yv_eql rfl rfl) rfl rfl rfl ?_
  refine qb2 ?_
  refine DJ_case (k := 62) (show _ = Value.bool _ from rfl) (fun hg5 => ?_) (fun hg5 => ?_)
  ·
   replace hg5 := qb hg5
   refine qao ?_
   refine DJ_q (yv_eql rfl rfl) rfl rfl rfl ?_
   refine qbp ?_
   refine qb2 ?_
   refine DJ_case (k := 66) (show _ = Value.bool _ from rfl) (fun hg9 => ?_) (fun hg9 => ?_)
   ·
    replace hg9 := qb hg9
    refine qao ?_
    refine DJ_q (yv_eql rfl rfl) rfl rfl rfl ?_
    refine qbp ?_
    refine qb2 ?_
    refine DJ_case (k := 70) (show _ = Value.bool _ from rfl) (fun hg13 => ?_) (fun hg13 => ?_)
    ·
     replace hg13 := qb hg13
     refine qao ?_
     refine DJ_q (yv_eql rfl rfl) rfl rfl rfl ?_
     refine qbp ?_
     refine qb2 ?_
     refine DJ_case (k := 74) (show _ = Value.bool _ from rfl) (fun hg17 => ?_) (fun hg17 => ?_)
     ·
      replace hg17 := qb hg17
      refine DJ_q (yv_loadN (row := [_, _, _, _, _]) tb rfl rfl rfl (by repeat (first | exact zi0 | apply zi1 | apply zi2)) (by rfl) (by rfl)) rfl rfl rfl ?_
      refine q_d rfl (None_tri _ _) ?_
      refine DJ_q (yv_eql_str restoringEq rfl rfl (by repeat (first | exact trivial | refine ⟨trivial, ?_⟩)) (by repeat (first | exact trivial | refine ⟨trivial, ?_⟩)) rfl) rfl rfl rfl ?_
      refine qbp ?_
      refine qb2 ?_
      refine DJ_case (k := 79) (show _ = Value.bool _ from rfl) (fun hg22 => ?_) (fun hg22 => ?_)
      ·
       replace hg22 := qb hg22
       refine qal ?_
       refine qat ?_
       refine DJ_q (yv_eql rfl rfl) rfl rfl rfl ?_
       refine qbp ?_
       refine qb2 ?_
       refine DJ_case (k := 84) (show _ = Value.bool _ from rfl) (fun hg27 => ?_) (fun hg27 => ?_)
       ·
        replace hg27 := qb hg27
        refine ycoaa ?_
        refine DJ_q (yv_len tb rfl rfl rfl) rfl rfl rfl ?_
        refine DJ_q (yv_eql rfl rfl) rfl rfl rfl ?_
        refine qbp ?_
        refine qb2 ?_
        refine DJ_case (k := 89) (show _ = Value.bool _ from rfl) (fun hg32 => ?_) (fun hg32 => ?_)
        ·
         replace hg32 := qb hg32
         refine ycoaa ?_
         refine DJ_q (yv_index_ow tb ((⟨po, [⟨false, 0, 0⟩]⟩ : OwL XCut)) _ rfl rfl rfl rfl (by assumption) (i := 0) (by first | rfl | omega | (simp; omega)) (by first | omega | (dsimp only; omega) | (dsimp only; rw [List.length_set]; omega) | (dsimp only; simp only [List.length_set]; omega))) rfl rfl rfl ?_
         refine qce ?_
         refine DJ_q (yv_load1_ow tb ((⟨po, [⟨false, 0, 0⟩]⟩ : OwL XCut)) rfl rfl rfl (by repeat (first | apply OSeg.cons | exact OSeg.here | exact OSeg.last | exact OSeg.at (by assumption) | apply OSeg.app)) (by assumption) (fun _ => rfl) (by assumption) (by rfl)) rfl rfl rfl ?_
         refine DJ_q (yv_not rfl) rfl rfl rfl ?_
         refine qbp ?_
         refine qb2 ?_
         refine DJ_case (k := 96) (show _ = Value.bool _ from rfl) (fun hg39 => ?_) (fun hg39 => ?_)
         ·
          replace hg39 := qb hg39
          refine qal ?_
          refine qat ?_
          refine DJ_q (yv_len tb rfl rfl rfl) rfl rfl rfl ?_
          refine DJ_q (yv_eql rfl rfl) rfl rfl rfl ?_
          refine qbp ?_
          refine qb2 ?_
          refine DJ_case (k := 102) (show _ = Value.bool _ from rfl) (fun hg45 => ?_) (fun hg45 => ?_)
          ·
           replace hg45 := qb hg45
           refine qal ?_
           refine qat ?_
           refine DJ_q (yv_index_ow tb ((⟨qo, [⟨-1, 22, 0, true, false⟩]⟩ : OwL XSwitch)) _ rfl rfl rfl rfl (by assumption) (i := 0) (by first | rfl | omega | (simp; omega)) (by first | omega | (dsimp only; omega) | (dsimp only; rw [List.length_set]; omega) | (dsimp only; simp only [List.length_set]; omega))) rfl rfl rfl ?_
           refine qce ?_
           refine DJ_q (yv_load1_ow tb ((⟨qo, [⟨-1, 22, 0, true, false⟩]⟩ : OwL XSwitch)) rfl rfl rfl (by repeat (first | apply OSeg.cons | exact OSeg.here | exact OSeg.last | exact OSeg.at (by assumption) | apply OSeg.app)) (by assumption) (fun _ => rfl) (by assumption) (by rfl)) rfl rfl rfl ?_
           refine qbp ?_
           refine DJ_q (yv_assign (show _ = Value.bool _ from rfl)) rfl rfl rfl ?_
           refine DJ_nil (seqK_normal (CJ_ret ?_))
           refine retK_ret (L' := L) (R' := R) (res1 rfl (rv_tmp (show _ = Value.bool _ from rfl))) ?hp ?hL ?hR
           case hp => exact ⟨rfl, rfl, rfl⟩
           case hL => exact (by repeat (first | exact zs0 _ | exact zs1 _ | apply zs2 | apply zs3 | apply zs4 | apply zs5))
           case hR => exact fin
          replace hg45 := qb hg45
          simp at hg45
         replace hg39 := qb hg39
         simp at hg39
        replace hg32 := qb hg32
        simp at hg32
       replace hg27 := qb hg27
       exact absurd rfl hg27
      replace hg22 := qb hg22
      exact absurd (show true = false from hg22) (by decide)
     replace hg17 := qb hg17
     simp at hg17
    replace hg13 := qb hg13
    simp at hg13
   replace hg9 := qb hg9
   simp at hg9
  replace hg5 := qb hg5
  simp at hg5
end Go.Proofs.Ytkpfjmibipblhaa
end
section
/-
  Statements about chapter 21: a drawn scene. By an AI agent; no person has read it.
-/
set_option linter.unusedSimpArgs false
set_option linter.unusedVariables false
namespace Go.Proofs.Ytkpfjmibipblhaa
open Go.Aw Go
set_option maxRecDepth 20000
attribute [local irreducible] CJ LJ DJ Tri YV Gives seqK blockK loopK retK RV mergeK OwL.L
end Go.Proofs.Ytkpfjmibipblhaa
end
section
/-
  The values of conditions, the reference's. By an AI agent; no person has read it.
-/
set_option linter.unusedSimpArgs false
set_option linter.unusedVariables false
namespace Go.Proofs.Ytkpfjmibipblhaa
open Go.Aw Go
set_option maxRecDepth 20000
attribute [local irreducible] CJ LJ DJ Tri YV Gives seqK blockK loopK retK RV mergeK OwL.L
end Go.Proofs.Ytkpfjmibipblhaa
end
section
/-
  The values of conditions and the states of zones, the reference's; lists that are compared. By an AI agent; no person has read it.
-/
set_option linter.unusedSimpArgs false
set_option linter.unusedVariables false
namespace Go.Proofs.Ytkpfjmibipblhaa
open Go.Aw Go
set_option maxRecDepth 20000
attribute [local irreducible] CJ LJ DJ Tri YV Gives seqK blockK loopK retK RV mergeK OwL.L
theorem sameCuts_tri (x y : Arr XCut) (L : List Blk) (R : List Sl) (hx : InR (cusl x) R) (hy : InR (cusl y) R) (he : x.l = y.l) :
    Tri Try.prog 41 [x.val, y.val].toArray L R (fun v L' R' => v = .bool true ∧ L = L' ∧ R = R') := by
  have hle : x.l.length = y.l.length := by rw [he]
  refine Tri_len Try.call41 hx fun hxn => ?_
  refine tri_enter 26 Try.call41 Try.func41 rfl rfl rfl ?_
  refine qae ?_
  refine qaz ?_
  refine qaw ?_
  refine qbm ?_
  refine qag ?_
  refine qbm ?_
  refine qag ?_
  refine qbq ?_
  refine qaf ?_
  refine q_c (fun hc0 => ?_) (fun hc0 => ?_)
  ·
   refine qae ?_
   refine qaz ?_
   refine qbh ?_
   refine q_b (L' := L) (R' := R) ?_
   exact absurd hle (by omega)
  refine qbo ?_
  refine qad ?_
  refine qa2 ?_
  refine CJ_forget [(0, Value.slice _ _ _), (1, Value.slice _ _ _), (5, Value.int _ _)] (by repeat' (first | exact trivial | refine And.intro rfl ?_)) fun tq0 => ?_
  refine q_s [4, 5, 11, 12, 13, 14, 15, 16, 17, 18, 19, 20, 21, 22, 23, 24, 25] (fun g : {k : Nat // k ≤ x.l.length} => [(5, .int .i64 ((g.1 : Nat) : Int))]) (fun g => x.l.length - g.1) (⟨0, by omega⟩) ?_
  rintro ⟨k, hk⟩ junk
  try dsimp only
  refine qbi ?_
  refine qaa ?_
  refine qbm ?_
  refine qag ?_
  refine qaj ?_
  refine qaf ?_
  refine q_c (fun hc1 => ?_) (fun hc1 => ?_)
  ·
   have hxg := get_D (l := x.l) (k := k) default (by omega)
   have hyg : y.l[k]? = some (x.l.getD k default) := by rw [← he]; exact hxg
   refine CJ_skip (seqK_normal (CJ_seq (CJ_block (CJ_seq ?_))))
   refine CJ_drawn tb [0, 1, 2, 3, 4, 5, 6, 7, 8] ([]) mixed (by kernel_rfl) (by repeat (first | exact zs0 _ | exact zs1 _ | apply zs2 | apply zs3 | apply zs4 | apply zs5)) ?_
   refine DJ_q (yv_move (show _ = Value.slice _ _ _ from rfl)) rfl rfl rfl ?_
   refine qao ?_
   refine qds ?_
   refine qdv ?_
   refine DJ_q (yv_move (show _ = Value.slice _ _ _ from rfl)) rfl rfl rfl ?_
   refine qao ?_
   refine qds ?_
   refine qdv ?_
   refine DJ_q (yv_neq_str cutEq rfl rfl (by repeat (first | exact trivial | refine ⟨trivial, ?_⟩)) (by repeat (first | exact trivial | refine ⟨trivial, ?_⟩)) rfl) rfl rfl rfl ?_
   refine qbu ?_
   refine q_c (fun hc2 => ?_) (fun hc2 => ?_)
   ·
    refine qae ?_
    refine qaz ?_
    refine qbt ?_
    refine q_b (L' := L) (R' := R) ?_
    exact absurd hc2 (by simp [cellsEq, cellEq])
   refine qbj ?_
   refine qaa ?_
   refine qar ?_
   refine qad ?_
   refine qav ?_
   exact q_k (⟨k + 1, by omega⟩)
  refine qbk ?_
  refine qaz ?_
  refine qa0 ?_
  refine q_b (L' := L) (R' := R) ?_
  exact ⟨rfl, rfl, rfl⟩
end Go.Proofs.Ytkpfjmibipblhaa
end
section
/-
  Statements about chapter 21: what comes too late. By an AI agent; no person has read it.
-/
set_option linter.unusedSimpArgs false
set_option linter.unusedVariables false
namespace Go.Proofs.Ytkpfjmibipblhaa
open Go.Aw Go
set_option maxRecDepth 20000
attribute [local irreducible] CJ LJ DJ Tri YV Gives seqK blockK loopK retK RV mergeK OwL.L
end Go.Proofs.Ytkpfjmibipblhaa
end
section
/-
  Conditions of which less is known, and zones behind a step. Plain. By an AI agent; no person has read it.
-/
set_option linter.unusedSimpArgs false
set_option linter.unusedVariables false
namespace Go.Proofs.Ytkpfjmibipblhaa
open Go.Aw Go
def Wd (x y : XSpan) : Prop := x.low ≤ x.high ∧ y.low ≤ x.low ∧ x.high ≤ y.high
structure MLoose (m m' : XMeas) : Prop where
  sensor : m'.sensor = m.sensor
  time : m'.time = m.time
  span : m' = m ∨ (Wd m.span m'.span ∧ (-1000000000 ≤ m'.span.low ∧ m'.span.high ≤ 1000000000))
section
variable {S : List XSens} {m m' : List XMeas} {fl fl' : List XSpan} {c : XCond} {w : XWatch} {t : Int} (hl : m'.length = m.length) (h : ∀ i : Nat, i < m.length → MLoose (m.getD i default) (m'.getD i default)) (hfl : fl'.length = fl.length) (hf : ∀ i : Nat, i < fl.length → Wd (fl.getD i default) (fl'.getD i default))
include hl h
include hfl hf
end
end Go.Proofs.Ytkpfjmibipblhaa
end
section
/-
  Statements about chapter 20: the reasons of cuts. By an AI agent; no person has read it.
-/
set_option linter.unusedSimpArgs false
set_option linter.unusedVariables false
namespace Go.Proofs.Ytkpfjmibipblhaa
open Go.Aw Go
set_option maxRecDepth 20000
attribute [local irreducible] CJ LJ DJ Tri YV Gives seqK blockK loopK retK RV mergeK OwL.L
end Go.Proofs.Ytkpfjmibipblhaa
end
section
/-
  Statements about chapter 21: from the top down. By an AI agent; no person has read it.
-/
set_option linter.unusedSimpArgs false
set_option linter.unusedVariables false
namespace Go.Proofs.Ytkpfjmibipblhaa
open Go.Aw Go
set_option maxRecDepth 20000
attribute [local irreducible] CJ LJ DJ Tri YV Gives seqK blockK loopK retK RV mergeK OwL.L
end Go.Proofs.Ytkpfjmibipblhaa
end
