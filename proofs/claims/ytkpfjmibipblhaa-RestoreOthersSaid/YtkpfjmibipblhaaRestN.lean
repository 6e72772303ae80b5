/-
  Restoring power: the switch that is closed next, and whether that gives power to others. By an AI agent; no person has read it.
-/
import Derived.Test.YtkpfjmibipblhaaSiteD
import Derived.Test.YtkpfjmibipblhaaFeedD
set_option linter.unusedSimpArgs false
set_option linter.unusedVariables false
namespace Go.Proofs.Ytkpfjmibipblhaa
open Go.Aw Go
set_option maxRecDepth 20000
attribute [local irreducible] CJ LJ DJ Tri YV Gives seqK blockK loopK retK RV mergeK OwL.L
section
variable {A9 B9 : Prop}
theorem yb7aa (a : A9) (h : A9 → B9 := by exact LJ_q (by first | exact yv_index_ro tb rfl rfl rfl rfl (by first | assumption | exact zr (by simp)) (i := k) (by first | rfl | omega | (simp; omega)) (by omega) | exact yv_index tb rfl rfl rfl rfl (i := k) (by first | rfl | omega | (simp; omega)) (by omega)) rfl) : B9 := h a
theorem yb7ab (a : A9) (h : A9 → B9 := by exact LJ_q (by first | exact yv_index_ro tb rfl rfl rfl rfl (by first | assumption | exact zr (by simp)) (i := i) (by first | rfl | omega | (simp; omega)) (by omega) | exact yv_index tb rfl rfl rfl rfl (i := i) (by first | rfl | omega | (simp; omega)) (by omega)) rfl) : B9 := h a
end
theorem index_tri (x : Arr Int) (a : Int) (L : List Blk) (R : List Sl) (hx : InR (isl x) R) :
    Tri Try.prog 141 [x.val, .int .i64 a].toArray L R (fun v L' R' => ∃ r : Int, v = .int .i64 r ∧ (0 ≤ r ↔ a ∈ x.l) ∧ L = L' ∧ R = R') := by
  refine Tri_cap Try.call141 hx fun hcap => ?_
  refine tri_enter 19 Try.call141 Try.func141 rfl rfl rfl ?_
  refine qae ?_
  refine qad ?_
  refine qaw ?_
  refine qbm ?_
  refine qag ?_
  refine qaa ?_
  refine qa2 ?_
  refine CJ_forget [(0, Value.slice _ _ _), (1, Value.int _ _), (7, Value.int _ _), (8, Value.int _ _)] (by repeat' (first | exact trivial | refine And.intro rfl ?_)) fun tq0 => ?_
  refine q_s [4, 5, 8, 9, 10, 11, 12, 13, 14, 15, 16, 17, 18] (fun g : {k : Nat // k ≤ x.l.length ∧ ∀ j : Nat, j < k → x.l.getD j 0 ≠ a} => [(8, .int .i64 ((g.1 : Nat) : Int))]) (fun g => x.l.length - g.1) (⟨0, by omega, fun j hj => by omega⟩) ?_
  rintro ⟨k, hk, hal⟩ junk
  try dsimp only
  refine qae ?_
  refine qaj ?_
  refine qa4 ?_
  refine q_c (fun hc0 => ?_) (fun hc0 => ?_)
  ·
   have hg := get_D (l := x.l) (k := k) 0 (by omega)
   refine qbb ?_
   refine qaa ?_
   refine qad ?_
   refine qam ?_
   refine qaa ?_
   refine qbm ?_
   refine qaa ?_
   refine yb7aa ?_
   refine qa7 ?_
   refine qbn ?_
   refine qaf ?_
   refine q_c (fun hc1 => ?_) (fun hc1 => ?_)
   ·
    refine qae ?_
    refine qaa ?_
    refine qad ?_
    refine qbt ?_
    refine q_i (L' := L) (R' := R) ?_
    exact ⟨k, rfl, ⟨fun _ => by rw [hc1]; exact List.mem_of_getElem? hg, fun _ => by omega⟩, rfl, rfl⟩
   refine qbj ?_
   refine qar ?_
   refine qaa ?_
   refine qav ?_
   exact loopK_mk (⟨k + 1, by omega, fun j hj => by
   rcases Nat.lt_or_ge j k with h | h
   · exact hal j h
   · obtain rfl : j = k := by omega
     exact fun h => hc1 h.symm⟩) (by repeat (first | exact Off.refl | apply Off.upd rfl | apply Off.havoc rfl | apply Off.updL rfl | apply Off.left rfl)) (by repeat' (first | exact trivial | refine And.intro rfl ?_)) (by repeat (first | exact zs0 _ | exact zs1 _ | apply zs2 | apply zs3 | apply zs4 | apply zs5)) (allR_self _) (by dsimp only; omega)
  refine qbk ?_
  refine qad ?_
  refine qa0 ?_
  refine q_i (L' := L) (R' := R) ?_
  refine ⟨-1, rfl, ⟨fun h => by omega, fun h => ?_⟩, rfl, rfl⟩
  obtain ⟨j, hj, rfl⟩ := List.getElem_of_mem h
  have := hal j (by omega)
  rw [List.getD_eq_getElem?_getD, List.getElem?_eq_getElem hj] at this
  exact absurd rfl this
theorem contains_tri (x : Arr Int) (a : Int) (L : List Blk) (R : List Sl) (hx : InR (isl x) R) :
    Tri Try.prog 133 [x.val, .int .i64 a].toArray L R (fun v L' R' => v = .bool (decide (a ∈ x.l)) ∧ L = L' ∧ R = R') := by
  refine tri_enter 9 Try.call133 Try.func133 rfl rfl rfl ?_
  refine qae ?_
  refine qaz ?_
  refine qam ?_
  refine qbm ?_
  refine qaa ?_
  refine LJ_call rfl (index_tri x a _ _ hx) rfl ?_
  rintro v L' R' ⟨r, rfl, hr, rfl, rfl⟩
  refine qbz ?_
  refine qaz ?_
  refine qa0 ?_
  refine q_b (L' := L) (R' := R) ?_
  exact ⟨congrArg Value.bool (decide_eq_decide.2 hr), rfl, rfl⟩
theorem indexFunc_tri (x : Arr Int) (g : Int → Bool) (fid : FuncId) (cap : Array Value) (L : List Blk) (R : List Sl) (hx : InR (isl x) R) (hc : ∀ y ∈ x.l, Tri Try.prog fid (.int .i64 y :: cap.toList).toArray L R (fun v L' R' => v = .bool (g y) ∧ L = L' ∧ R = R')) :
    Tri Try.prog 140 [x.val, .func (.func fid) #[] cap].toArray L R (fun v L' R' => ∃ r : Int, v = .int .i64 r ∧ (0 ≤ r ↔ ∃ y ∈ x.l, g y = true) ∧ L = L' ∧ R = R') := by
  refine Tri_cap Try.call140 hx fun hcap => ?_
  refine tri_enter 19 Try.call140 Try.func140 rfl rfl rfl ?_
  refine qae ?_
  refine qad ?_
  refine qaw ?_
  refine qbm ?_
  refine qag ?_
  refine qaa ?_
  refine qa2 ?_
  refine CJ_forget [(0, Value.slice _ _ _), (1, _), (7, Value.int _ _), (8, Value.int _ _)] (by repeat' (first | exact trivial | refine And.intro rfl ?_)) fun tq0 => ?_
  refine q_s [4, 5, 8, 9, 10, 11, 12, 13, 14, 15, 16, 17, 18] (fun g : {k : Nat // k ≤ x.l.length ∧ ∀ j : Nat, j < k → g (x.l.getD j 0) = false} => [(8, .int .i64 ((g.1 : Nat) : Int))]) (fun g => x.l.length - g.1) (⟨0, by omega, fun j hj => by omega⟩) ?_
  rintro ⟨k, hk, hal⟩ junk
  try dsimp only
  refine qae ?_
  refine qaj ?_
  refine qa4 ?_
  refine q_c (fun hc0 => ?_) (fun hc0 => ?_)
  ·
   have hg := get_D (l := x.l) (k := k) 0 (by omega)
   refine qbb ?_
   refine qaa ?_
   refine qad ?_
   refine qam ?_
   refine LJ_q (yv_move rfl) rfl ?_
   refine qbm ?_
   refine qaa ?_
   refine yb7aa ?_
   refine qa7 ?_
   refine LJ_gg (gives_callv rfl rfl (hc (x.l.getD k 0) (List.mem_of_getElem? hg))) rfl rfl ?_
   rintro v L' R' ⟨rfl, rfl, rfl⟩
   refine qaf ?_
   refine q_c (fun hc1 => ?_) (fun hc1 => ?_)
   ·
    refine qae ?_
    refine qaa ?_
    refine qad ?_
    refine qbt ?_
    refine q_i (L' := L) (R' := R) ?_
    exact ⟨k, rfl, ⟨fun _ => ⟨_, List.mem_of_getElem? hg, hc1⟩, fun _ => by omega⟩, rfl, rfl⟩
   refine qbj ?_
   refine qar ?_
   refine qaa ?_
   refine qav ?_
   exact loopK_mk (⟨k + 1, by omega, fun j hj => by
   rcases Nat.lt_or_ge j k with h | h
   · exact hal j h
   · obtain rfl : j = k := by omega
     simpa using hc1⟩) (by repeat (first | exact Off.refl | apply Off.upd rfl | apply Off.havoc rfl | apply Off.updL rfl | apply Off.left rfl)) (by repeat' (first | exact trivial | refine And.intro rfl ?_)) (by repeat (first | exact zs0 _ | exact zs1 _ | apply zs2 | apply zs3 | apply zs4 | apply zs5)) (allR_self _) (by dsimp only; omega)
  refine qbk ?_
  refine qad ?_
  refine qa0 ?_
  refine q_i (L' := L) (R' := R) ?_
  refine ⟨-1, rfl, ⟨fun h => by omega, fun ⟨y, hy, hgy⟩ => ?_⟩, rfl, rfl⟩
  obtain ⟨j, hj, rfl⟩ := List.getElem_of_mem hy
  have := hal j (by omega)
  rw [List.getD_eq_getElem?_getD, List.getElem?_eq_getElem hj] at this
  rw [show (some x.l[j]).getD 0 = x.l[j] from rfl, hgy] at this
  cases this
theorem containsFunc_tri (x : Arr Int) (g : Int → Bool) (fid : FuncId) (cap : Array Value) (L : List Blk) (R : List Sl) (hx : InR (isl x) R) (hc : ∀ y ∈ x.l, Tri Try.prog fid (.int .i64 y :: cap.toList).toArray L R (fun v L' R' => v = .bool (g y) ∧ L = L' ∧ R = R')) :
    Tri Try.prog 131 [x.val, .func (.func fid) #[] cap].toArray L R (fun v L' R' => v = .bool (decide (∃ y ∈ x.l, g y = true)) ∧ L = L' ∧ R = R') := by
  refine tri_enter 9 Try.call131 Try.func131 rfl rfl rfl ?_
  refine qae ?_
  refine qaz ?_
  refine qam ?_
  refine qbm ?_
  refine LJ_q (yv_move rfl) rfl ?_
  refine LJ_call rfl (indexFunc_tri x g fid cap _ _ hx hc) rfl ?_
  rintro v L' R' ⟨r, rfl, hr, rfl, rfl⟩
  refine qbz ?_
  refine qaz ?_
  refine qa0 ?_
  refine q_b (L' := L) (R' := R) ?_
  exact ⟨congrArg Value.bool (decide_eq_decide.2 hr), rfl, rfl⟩
def holdsB (sw : List XSwitch) (a y : Int) : Bool := decide (y ≠ a ∧ (sw.getD y.toNat default).shown = -1)
theorem next1f_tri (f : XFeeder) (a y : Int) (b9 b4 : Nat) (L : List Blk) (R : List Sl) (hf : FeederR f R) (hy : 0 ≤ y ∧ y < f.switches.l.length) :
    Tri Try.prog 132 [.int .i64 y, .pointer (some ⟨b9, 0, none⟩), .pointer (some ⟨b4, 0, none⟩)].toArray (⟨b9, [.int .i64 a], 3⟩ :: ⟨b4, f.cells, 71⟩ :: L) R (fun v L' R' => v = .bool (holdsB f.switches.l a y) ∧ (⟨b9, [.int .i64 a], 3⟩ :: ⟨b4, f.cells, 71⟩ :: L) = L' ∧ R = R') := by
  have hsR := hf.sw
  have hg := get_D (l := f.switches.l) (k := y.toNat) default (by omega)
  refine tri_enter 17 Try.call132 Try.func132 rfl rfl rfl ?_
  refine qae ?_
  refine qaz ?_
  refine qam ?_
  refine qaa ?_
  refine qac ?_
  refine qbq ?_
  refine qah ?_
  apply LJ_and (G := [_, _, _, _, _, _, _]) (j := 3) (cj := 8) rfl rfl (by rfl) rfl (show _ = Value.bool _ from rfl) rfl
  ·
   intro hg4
   replace hg4 := qb hg4
   refine qab ?_
   refine qac ?_
   refine qaa ?_
   refine LJ_q (by first | exact yv_index_ro tb rfl rfl rfl rfl (by first | assumption | exact zr (by simp)) (i := y.toNat) (by first | rfl | omega | (simp; omega)) (by omega) | exact yv_index tb rfl rfl rfl rfl (i := y.toNat) (by first | rfl | omega | (simp; omega)) (by omega)) rfl ?_
   refine qb0 ?_
   refine qa7 ?_
   refine qbn ?_
   exact qai
  intro junk4
  refine qaz ?_
  refine qa0 ?_
  refine q_b (L' := ⟨b9, [.int .i64 a], 3⟩ :: ⟨b4, f.cells, 71⟩ :: L) (R' := R) ?_
  exact ⟨by refine congrArg Value.bool ?_; rw [Bool.eq_iff_iff, holdsB, decide_eq_true_iff]; simp, rfl, rfl⟩
def nxtAt (sw : List XSwitch) (l : List Int) : Int := l.foldl (fun a x => if (sw.getD x.toNat default).shown ≠ 1 then x else a) (l.getD 0 0)
def nxtTo (sw : List XSwitch) (l : List Int) (k : Nat) : Int := (l.take k).foldl (fun a x => if (sw.getD x.toNat default).shown ≠ 1 then x else a) (l.getD 0 0)
theorem nxtTo_succ {sw : List XSwitch} {l : List Int} {k : Nat} (h : k < l.length) : nxtTo sw l (k + 1) = if (sw.getD (l.getD k 0).toNat default).shown ≠ 1 then l.getD k 0 else nxtTo sw l k := by
  have hg := get_D (l := l) (k := k) 0 h
  rw [nxtTo, List.take_add_one, hg, Option.toList_some, List.foldl_append]; rfl
def PowersAt (c : List XCut) (sw : List XSwitch) (zn : List Int) (rp zone a : Int) (k : Nat) : Prop :=
  ((k : Int) ≠ zone ∧ (c.getD k default).off = true) ∧ a ∈ pathL sw zn rp (zn.getD k 0) ∧ ¬ ∃ y ∈ pathL sw zn rp (zn.getD k 0), holdsB sw a y = true
instance (c : List XCut) (sw : List XSwitch) (zn : List Int) (rp zone a : Int) (k : Nat) : Decidable (PowersAt c sw zn rp zone a k) := by unfold PowersAt; infer_instance
def Powers (c : List XCut) (sw : List XSwitch) (zn : List Int) (rp zone a : Int) : Prop := ∃ k : Nat, k < zn.length ∧ PowersAt c sw zn rp zone a k
instance (c : List XCut) (sw : List XSwitch) (zn : List Int) (rp zone a : Int) : Decidable (Powers c sw zn rp zone a) := by unfold Powers; infer_instance
theorem Next_tri (c : Arr XCut) (f : XFeeder) (zone : Int) (L : List Blk) (R : List Sl) (hcR : InR (cusl c) R) (hf : FeederR f R) (hfe : feedE f.switches.l f.zones.l f.reply = 0) (hz : 0 ≤ zone ∧ zone < f.zones.l.length) (hcl : c.l.length = f.zones.l.length) :
    Tri Try.prog 116 [c.val, f.val, .int .i64 zone].toArray L R (fun v L' R' => v = .tuple #[.int .i64 (nxtAt f.switches.l (pathL f.switches.l f.zones.l f.reply (f.zones.l.getD zone.toNat 0))), .bool (decide (Powers c.l f.switches.l f.zones.l f.reply zone (nxtAt f.switches.l (pathL f.switches.l f.zones.l f.reply (f.zones.l.getD zone.toNat 0)))))] ∧ L = L' ∧ ∀ r ∈ R, InR r R') := by
  have hsR := hf.sw
  have hzR := hf.zn
  have hok := feedOk_of hfe
  have hsn := hok.sn
  have hzl := hok.zl
  have hzg := get_D (l := f.zones.l) (k := zone.toNat) 0 (by omega)
  have hzr := hok.zr zone.toNat (by omega)
  refine tri_enter 76 Try.call116 Try.func116 rfl rfl rfl ?_
  refine qae ?_
  refine qax ?_
  intro b4
  refine qad ?_
  refine qaz ?_
  refine qa4 ?_
  refine CJ_drawn tb [0, 1, 2, 3, 4, 5, 6, 7] _ mixed (by kernel_rfl) (List.Sublist.refl _) ?_
  refine DJ_q (yv_loadN (row := [_, _, _]) tb rfl rfl rfl (by repeat (first | exact zi0 | apply zi1 | apply zi2)) (by rfl) (by rfl)) rfl rfl rfl ?_
  refine qal ?_
  refine qat ?_
  refine qao ?_
  refine DJ_q (by first | exact yv_index_ro tb rfl rfl rfl rfl (by first | assumption | exact zr (by simp)) (i := zone.toNat) (by first | rfl | omega | (simp; omega)) (by omega) | exact yv_index tb rfl rfl rfl rfl (i := zone.toNat) (by first | rfl | omega | (simp; omega)) (by omega)) rfl rfl rfl ?_
  refine qbl ?_
  refine DJ_call rfl (path_tri f (f.zones.l.getD zone.toNat 0) _ _ hf) rfl rfl ?_
  rintro v L' R' ⟨q, rfl, hqk, hql, rfl, rfl⟩
  refine qas ?_
  refine DJ_q (yv_assign (show _ = Value.slice _ _ _ from rfl)) rfl rfl rfl ?_
  refine qb9 ?_
  have hqn := pathL_len (sw := f.switches.l) (zn := f.zones.l) (rp := f.reply) (s := f.zones.l.getD zone.toNat 0)
  rw [← hql] at hqn
  have hq0 : 0 < q.l.length := by
    rw [hql, pathL, if_neg (by omega), pathS_step hok.up (by omega) (by omega), List.length_cons]; omega
  have hqm : ∀ x ∈ q.l, 0 ≤ x ∧ x < f.switches.l.length := fun x hx => by
    have := pathL_mem (sw := f.switches.l) (zn := f.zones.l) (rp := f.reply) (s := f.zones.l.getD zone.toNat 0) (x := x) (by rw [← hql]; exact hx)
    omega
  have hqg0 := get_D (l := q.l) (k := 0) 0 hq0
  refine CJ_frz1 (A := []) (wd := 1) [] (fun _ => rfl) (by decide) hqk (fun s hs => by cases hs) ?_
  refine CJ_L (by first | (simp only [List.nil_append]; done) | (simp only [List.nil_append]; rfl)) ?_
  obtain ⟨R2, hR2e⟩ : ∃ R2, R2 = isl q.arr :: R := ⟨_, rfl⟩
  have hR2 : ∀ r ∈ R, InR r R2 := fun r hr => inR_self (by rw [hR2e]; exact .tail _ hr)
  have hqR : InR (isl q.arr) R2 := inR_self (by rw [hR2e]; exact .head _)
  have hcR2 := hcR.mono hR2
  have hf2 := hf.mono hR2
  have hsR2 := hf2.sw
  have hzR2 := hf2.zn
  refine CJ_R (show _ = R2 by rw [hR2e]) ?_
  refine qay ?_
  refine qbm ?_
  refine qdt ?_
  refine qa7 ?_
  refine qaq ?_
  intro b9
  refine qcn ?_
  refine qaw ?_
  refine qbm ?_
  refine qag ?_
  refine qaa ?_
  refine qa2 ?_
  refine CJ_forget [(0, Value.slice _ _ _), (2, Value.int _ _), (4, Value.pointer _), (9, Value.pointer _), (26, Value.slice _ _ _), (27, Value.int _ _), (28, Value.int _ _)] (by repeat' (first | exact trivial | refine And.intro rfl ?_)) fun tq0 => ?_
  refine q_p [11, 28, 29, 30, 31, 32, 33, 34, 35, 36, 37, 38, 39, 40] ((⟨fun g => [(28, .int .i64 ((g.1.1 : Nat) : Int))], fun g => ⟨b9, [.int .i64 g.1.2], 3⟩ :: ⟨b4, f.cells, 71⟩ :: L, fun _ => R2, fun g => q.l.length - g.1.1⟩ : Head {g : Nat × Int // g.1 ≤ q.l.length ∧ g.2 = nxtTo f.switches.l q.l g.1})) (⟨(0, q.l.getD 0 0), by dsimp only; omega, rfl⟩) ?_
  rintro ⟨⟨k, a⟩, hk, ha⟩ junk
  try dsimp only
  dsimp only at hk ha
  refine qae ?_
  refine qaj ?_
  refine qa4 ?_
  refine q_c (fun hc0 => ?_) (fun hc0 => ?_)
  ·
   have hqg := get_D (l := q.l) (k := k) 0 (by omega)
   have hqr := hqm _ (List.mem_of_getElem? hqg)
   have hsg := get_D (l := f.switches.l) (k := (q.l.getD k 0).toNat) default (by omega)
   refine qbb ?_
   refine yb7aa ?_
   refine qa7 ?_
   refine qad ?_
   refine qam ?_
   refine qab ?_
   refine qac ?_
   refine qaa ?_
   refine LJ_q (by first | exact yv_index_ro tb rfl rfl rfl rfl (by first | assumption | exact zr (by simp)) (i := (q.l.getD k 0).toNat) (by first | rfl | omega | (simp; omega)) (by omega) | exact yv_index tb rfl rfl rfl rfl (i := (q.l.getD k 0).toNat) (by first | rfl | omega | (simp; omega)) (by omega)) rfl ?_
   refine qb0 ?_
   refine qa7 ?_
   refine qbq ?_
   refine qaf ?_
   refine q_c (fun hc1 => ?_) (fun hc1 => ?_)
   ·
    refine qay ?_
    refine qaa ?_
    refine qcn ?_
    refine qcs ?_
    refine qar ?_
    refine qaa ?_
    refine qav ?_
    exact q_k ⟨(k + 1, q.l.getD k 0), by dsimp only; omega, by dsimp only; rw [nxtTo_succ (by omega), if_pos hc1]⟩
   refine qbj ?_
   refine qar ?_
   refine qaa ?_
   refine qav ?_
   exact q_k ⟨(k + 1, a), by dsimp only; omega, by dsimp only; rw [nxtTo_succ (by omega), if_neg hc1]; exact ha⟩
  obtain rfl : k = q.l.length := by omega
  have hat : (nxtAt f.switches.l (pathL f.switches.l f.zones.l f.reply (f.zones.l.getD zone.toNat 0))) = a := by rw [ha, nxtTo, List.take_length, ← hql]; rfl
  refine qcf ?_
  refine qab ?_
  refine qac ?_
  refine qag ?_
  refine qaa ?_
  refine qa2 ?_
  refine CJ_forget [(0, Value.slice _ _ _), (2, Value.int _ _), (4, Value.pointer _), (9, Value.pointer _), (42, Value.slice _ _ _), (43, Value.int _ _), (44, Value.int _ _)] (by repeat' (first | exact trivial | refine And.intro rfl ?_)) fun tq1 => ?_
  refine q_p [6, 7, 12, 13, 14, 15, 44, 45, 46, 47, 48, 49, 50, 51, 52, 53, 54, 55, 56, 57, 58, 59, 60, 61, 62, 63, 64, 65, 66, 67, 68, 69, 70, 71, 72, 73, 74] ((⟨fun g => [(44, .int .i64 ((g.1 : Nat) : Int))], fun g => ⟨b9, [.int .i64 a], 3⟩ :: ⟨b4, f.cells, 71⟩ :: L, fun _ => R2, fun g => f.zones.l.length - g.1⟩ : Head {i : Nat // i ≤ f.zones.l.length ∧ ∀ j : Nat, j < i → ¬ PowersAt c.l f.switches.l f.zones.l f.reply zone a j})) (⟨0, by omega, fun j hj => by omega⟩) ?_
  rintro ⟨i, hi, hal⟩ junk
  try dsimp only
  refine qae ?_
  refine qaj ?_
  refine qa4 ?_
  refine q_c (fun hc2 => ?_) (fun hc2 => ?_)
  ·
   have hig := get_D (l := f.zones.l) (k := i) 0 (by omega)
   have hcg := get_D (l := c.l) (k := i) default (by omega)
   refine qbb ?_
   refine qaa ?_
   refine yb7ab ?_
   refine qa7 ?_
   refine qad ?_
   refine qad ?_
   refine qaw ?_
   refine qaa ?_
   refine qaa ?_
   refine qbn ?_
   refine qah ?_
   apply LJ_or (G := [_, _, _, _, _, _]) (j := 3) (cj := 52) rfl rfl (by rfl) rfl (show _ = Value.bool _ from rfl) rfl
   ·
    intro hg4
    replace hg4 := qb hg4
    refine qbm ?_
    refine qaa ?_
    refine yb7ab ?_
    refine qb0 ?_
    refine qa7 ?_
    refine qb4 ?_
    exact qai
   intro junk4
   refine qaf ?_
   refine q_c (fun hc3 => ?_) (fun hc3 => ?_)
   ·
    refine CJ_exit (seqK_exit (blockK_exit (seqK_normal (CJ_region ?_))))
    refine qar ?_
    refine qaa ?_
    refine qav ?_
    exact loopK_mk ⟨i + 1, by omega, fun j hj => by
    rcases Nat.lt_or_ge j i with h | h
    · exact hal j h
    · obtain rfl : j = i := by omega
      rintro ⟨⟨h1, h2⟩, _⟩
      rcases hc3 with h3 | h3
      · exact h1 h3
      · rw [h2] at h3; cases h3⟩ (by repeat (first | exact Off.refl | apply Off.upd rfl | apply Off.havoc rfl | apply Off.updL rfl | apply Off.left rfl)) (by repeat' (first | exact trivial | refine And.intro rfl ?_)) (by repeat (first | exact zs0 _ | exact zs1 _ | apply zs2 | apply zs3 | apply zs4 | apply zs5)) (allR_self _) (by dsimp only; omega)
   refine qbv ?_
   refine LJ_q (yv_loadN (row := [_, _, _]) tb rfl rfl rfl (by repeat (first | exact zi0 | apply zi1 | apply zi2)) (by rfl) (by rfl)) rfl ?_
   refine qaa ?_
   refine LJ_call rfl (path_tri f (f.zones.l.getD i 0) _ _ hf2) rfl ?_
   rintro v L' R' ⟨q2, rfl, hq2k, hq2l, rfl, rfl⟩
   refine qc4 ?_
   refine qa4 ?_
   have hq2m : ∀ x ∈ q2.l, 0 ≤ x ∧ x < f.switches.l.length := fun x hx => by
     have := pathL_mem (sw := f.switches.l) (zn := f.zones.l) (rp := f.reply) (s := f.zones.l.getD i 0) (x := x) (by rw [← hq2l]; exact hx)
     omega
   refine CJ_frz1 (A := []) (wd := 1) [] (fun _ => rfl) (by decide) hq2k (fun s hs => by cases hs) ?_
   refine CJ_L (by first | (simp only [List.nil_append]; done) | (simp only [List.nil_append]; rfl)) ?_
   obtain ⟨R3, hR3e⟩ : ∃ R3, R3 = isl q2.arr :: R2 := ⟨_, rfl⟩
   have hR3 : ∀ r ∈ R2, InR r R3 := fun r hr => inR_self (by rw [hR3e]; exact .tail _ hr)
   have hq2R : InR (isl q2.arr) R3 := inR_self (by rw [hR3e]; exact .head _)
   have hf3 := hf2.mono hR3
   refine CJ_R (show _ = R3 by rw [hR3e]) ?_
   refine qay ?_
   refine qbm ?_
   refine LJ_q (yv_func rfl) rfl ?_
   refine q_l rfl (containsFunc_tri q2.arr (holdsB f.switches.l a) 132 #[.pointer (some ⟨b9, 0, none⟩), .pointer (some ⟨b4, 0, none⟩)] _ _ hq2R (fun y hy => next1f_tri f a y b9 b4 L _ hf3 (hq2m y hy))) ?_
   refine qaz ?_
   refine qam ?_
   refine qbm ?_
   refine qac ?_
   refine q_l rfl (contains_tri q2.arr a _ _ hq2R) ?_
   refine qah ?_
   apply LJ_and (G := [_, _]) (j := 3) (cj := 69) rfl rfl (by rfl) rfl (show _ = Value.bool _ from rfl) rfl
   ·
    intro hg4
    replace hg4 := qb hg4
    refine qah ?_
    refine qb4 ?_
    exact qai
   intro junk4
   refine qaf ?_
   refine q_c (fun hc4 => ?_) (fun hc4 => ?_)
   ·
    have hpa : PowersAt c.l f.switches.l f.zones.l f.reply zone a i := ⟨hc3, by rw [← hq2l]; exact hc4⟩
    refine qae ?_
    refine qac ?_
    refine qad ?_
    refine qaz ?_
    refine qbt ?_
    refine q_r (L' := L) (R' := R3) (res2 rfl (rv_tmp (show _ = Value.int _ _ from rfl)) (rv_tmp (show _ = Value.bool _ from rfl))) ?_
    exact ⟨by rw [hat, decide_eq_true (p := Powers c.l f.switches.l f.zones.l f.reply zone a) ⟨i, by omega, hpa⟩], rfl, fun r hr => (hR2 r hr).mono hR3⟩
   refine qbj ?_
   refine qar ?_
   refine qaa ?_
   refine qav ?_
   exact loopK_mk ⟨i + 1, by omega, fun j hj => by
   rcases Nat.lt_or_ge j i with h | h
   · exact hal j h
   · obtain rfl : j = i := by omega
     rintro ⟨_, h2⟩
     rw [← hq2l] at h2
     rcases hc4 with h4 | h4
     · exact h4 h2.1
     · exact h2.2 h4⟩ (by repeat (first | exact Off.refl | apply Off.upd rfl | apply Off.havoc rfl | apply Off.updL rfl | apply Off.left rfl)) (by repeat' (first | exact trivial | refine And.intro rfl ?_)) (by repeat (first | exact zs0 _ | exact zs1 _ | apply zs2 | apply zs3 | apply zs4 | apply zs5)) hR3 (by dsimp only; omega)
  refine qbk ?_
  refine qac ?_
  refine qad ?_
  refine qaz ?_
  refine qa0 ?_
  refine q_r (L' := L) (R' := R2) (res2 rfl (rv_tmp (show _ = Value.int _ _ from rfl)) (rv_tmp (show _ = Value.bool _ from rfl))) ?_
  exact ⟨by rw [hat, decide_eq_false (p := Powers c.l f.switches.l f.zones.l f.reply zone a)]; rintro ⟨j, hj, hpa⟩; exact hal j (by omega) hpa, rfl, hR2⟩
end Go.Proofs.Ytkpfjmibipblhaa
