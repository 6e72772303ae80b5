/-
  The draws of chapter 20: a site with one zone. By an AI agent; no person has read it.
-/
import Derived.Test.YtkpfjmibipblhaaSiteD
set_option linter.unusedSimpArgs false
set_option linter.unusedVariables false
namespace Go.Proofs.Ytkpfjmibipblhaa
open Go.Aw Go
section
variable {A9 B9 : Prop}
theorem ybyaa (a : A9) (h : A9 → B9 := by exact WZ_q 12 hT2 (List.nil_sublist _) (by kernel_rfl) rfl rfl rfl rfl rfl (yv_build (qs := [(0, (Value.agg _).cells.toList), (1, (Value.slice _ _ _).cells.toList), (2, (Value.slice _ _ _).cells.toList), (4, (Value.slice _ _ _).cells.toList)]) (out := [_, _, _, _, _, _, _, _]) tb rfl rfl rfl rfl)) : B9 := h a
theorem ybyab (a : A9) (h : A9 → B9 := by exact WStep_g rfl (gives_buildSlice (qs := [(0, (Value.agg _).cells.toList)]) (out := [_, _, _, _, _, _]) tb rfl rfl rfl rfl rfl rfl rfl) rfl rfl) : B9 := h a
theorem ybyac (a : A9) (h : A9 → B9 := by exact WStep_g rfl (gives_buildSlice (qs := [(0, (Value.agg _).cells.toList)]) (out := [_, _, _, _, _, _, _, _]) tb rfl rfl rfl rfl rfl rfl rfl) rfl rfl) : B9 := h a
theorem ybyad (a : A9) (h : A9 → B9 := by exact WStep_g rfl (gives_buildSlice (qs := [(0, (Value.agg _).cells.toList), (1, (Value.agg _).cells.toList)]) (out := [_, _]) tb rfl rfl rfl rfl rfl rfl rfl) rfl rfl) : B9 := h a
theorem ybyae (a : A9) (h : A9 → B9 := by exact WStep_g rfl (gives_callL rfl (range12 (by repeat (first | apply USeg.here | apply USeg.cons | apply USeg.app)) hx1 hk1 (by omega))) rfl rfl) : B9 := h a
theorem ybyaf (a : A9) (h : A9 → B9 := by exact WZ_q 6 hT2 (List.nil_sublist _) (by kernel_rfl) rfl rfl rfl rfl rfl (yv_build (qs := [(0, (Value.int _ _).cells.toList), (1, (Value.int _ _).cells.toList), (2, (Value.int _ _).cells.toList)]) (out := [_, _, _]) tb rfl rfl rfl rfl)) : B9 := h a
theorem ybyag (a : A9) (h : A9 → B9 := by exact WZ_q 7 hT2 (List.nil_sublist _) (by kernel_rfl) rfl rfl rfl rfl rfl (yv_build (qs := [(0, (Value.int _ _).cells.toList), (3, (Value.agg _).cells.toList)]) (out := [_, _, _, _, _, _]) tb rfl rfl rfl rfl)) : B9 := h a
theorem ybyah (a : A9) (h : A9 → B9 := by exact LJ_g (gives_buildSlice (qs := [(0, (Value.agg _).cells.toList)]) (out := [_, _, _, _]) tb rfl rfl rfl rfl rfl rfl rfl) rfl) : B9 := h a
theorem ybyai (a : A9) (h : A9 → B9 := by exact LJ_q (yv_build (qs := [(0, (Value.int _ _).cells.toList), (3, (Value.bool _).cells.toList)]) (out := [_, _, _, _, _]) tb rfl rfl rfl rfl) rfl) : B9 := h a
theorem ybyaj (a : A9) (h : A9 → B9 := by exact LJ_g (gives_buildSlice (qs := [(0, (Value.agg _).cells.toList)]) (out := [_, _, _, _, _]) tb rfl rfl rfl rfl rfl rfl rfl) rfl) : B9 := h a
end
structure XSwitch where
  above : Int
  since : Int
  shown : Int
  closed : Bool
  late : Bool
  deriving Inhabited, DecidableEq
def XSwitch.cells (x : XSwitch) : List Value := [.int .i64 x.above, .int .i64 x.since, .int .i64 x.shown, .bool x.closed, .bool x.late]
structure XFeeder where
  switches : Arr XSwitch
  zones : Arr Int
  reply : Int
def XFeeder.cells (x : XFeeder) : List Value := [x.switches.val, x.zones.val, .int .i64 x.reply]
abbrev XFeeder.val (x : XFeeder) : Value := .agg #[x.switches.val, x.zones.val, .int .i64 x.reply]
abbrev swsl (x : Arr XSwitch) : Sl := x.sl 5 XSwitch.cells []
theorem pm0 {x : Blk} {l m : List Blk} (h : l.Perm m) : (x :: l).Perm (x :: m) := h.cons x
theorem pm1 {a x : Blk} {l m : List Blk} (h : (a :: l).Perm m) : (a :: x :: l).Perm (x :: m) := (List.Perm.swap x a l).trans (h.cons x)
theorem pm2 {a b x : Blk} {l m : List Blk} (h : (a :: b :: l).Perm m) : (a :: b :: x :: l).Perm (x :: m) := ((List.Perm.swap x b l).cons a).trans (pm1 h)
theorem pm3 {a b c x : Blk} {l m : List Blk} (h : (a :: b :: c :: l).Perm m) : (a :: b :: c :: x :: l).Perm (x :: m) := (((List.Perm.swap x c l).cons b).cons a).trans (pm2 h)
def easyRoad (len : Int) : XRoad := ⟨0, 1, len, 4, false, false, ⟨1, 1⟩, ⟨90000, 90000⟩⟩
def easySens : XSens := ⟨0, 1, 0, 0, 1000, 1, 1000, 60⟩
def easyCond (dl : Int) : XCond := ⟨1, 0, 0, ⟨100, 60, dl⟩⟩
structure EasyD (s : XSite) (len dl ho : Int) : Prop where
  places : s.air.mine.places.l = [⟨0, true⟩, ⟨0, true⟩]
  roads : s.air.mine.roads.l = [easyRoad len]
  fans : s.air.fans.l = []
  doors : s.air.doors.l = []
  sens : s.sensors.l = [easySens]
  conds : s.conds.l = [easyCond dl]
  zone : ∃ z : XZone, s.zones.l = [z] ∧ z.rule.l = [⟨1, 0, 0, 0⟩] ∧ z.hold = ho ∧ z.roads.l = [0] ∧ z.fresh = 1
  zcap : s.zones.cap = 1
  pers : s.persons.l = [1, 2]
  rng : (1 ≤ len ∧ len ≤ 4) ∧ (1 ≤ dl ∧ dl ≤ 5) ∧ 1 ≤ ho ∧ ho ≤ 5
def chainS (n : Nat) : List XSwitch := (List.range n).map fun (i : Nat) => ⟨(i : Int) - 1, 0, 0, true, false⟩
theorem chainS_succ {n : Nat} : chainS (n + 1) = chainS n ++ [⟨(n : Int) - 1, 0, 0, true, false⟩] := by rw [chainS, List.range_succ, List.map_append]; rfl
set_option maxRecDepth 20000
attribute [local irreducible] CJ LJ DJ Tri YV Gives seqK blockK loopK retK RV mergeK OwL.L
structure EJ where
  b1 : Nat
  b2 : Nat
  b3 : Nat
  b5 : Nat
set_option maxHeartbeats 4000000 in
theorem drawEasy_tri (c : Nat) (x : Arr Int) (k : Nat) (R : List Sl) (hx : CodesR x R) (hk : k ≤ x.l.length) :
    Tri Try.prog 37 [.pointer (some ⟨c, 0, none⟩)].toArray [cblk c x k] R
      (fun v L' R' => ∃ (s : XSite) (len dl ho : Int) (sw : OwL XSwitch) (zn : OwL Int) (n k' : Nat), v = .tuple #[s.val, .agg #[sw.val, zn.val, .int .i64 3]] ∧ EasyD s len dl ho ∧ (sw.ok 5 XSwitch.cells ∧ zn.ok 1 icell) ∧ (1 ≤ n ∧ n ≤ 3) ∧ sw.l = chainS n ∧ zn.l = [(n : Int) - 1] ∧ (k' ≤ x.l.length ∧ (x.l.length ≤ k → len = 1 ∧ dl = 1 ∧ ho = 1 ∧ n = 1 ∧ k' = k)) ∧ (SiteR s R' ∧ ∀ r ∈ R, InR r R') ∧ sw.L 98 XSwitch.cells ++ (zn.L 3 icell ++ (cblk c x k' :: [])) = L') := by
  refine tri_enter 68 Try.call37 Try.func37 rfl rfl rfl ?_
  refine qae ?_
  refine qaq ?_
  intro b2
  refine qaq ?_
  intro b3
  refine qam ?_
  refine LJ_q (yv_build (qs := [(1, (Value.bool _).cells.toList)]) (out := [_, _]) tb rfl rfl rfl rfl) rfl ?_
  refine LJ_q (yv_build (qs := [(1, (Value.bool _).cells.toList)]) (out := [_, _]) tb rfl rfl rfl rfl) rfl ?_
  refine LJ_g (gives_buildSlice (qs := [(0, (Value.agg _).cells.toList), (1, (Value.agg _).cells.toList)]) (out := [_, _, _, _]) tb rfl rfl rfl rfl rfl rfl rfl) rfl ?_
  rintro v L' R' ⟨b10, rfl, rfl, hR10⟩
  replace hR10 := hR10.symm; subst hR10
  refine LJ_frz (wd := 2) (len := 2) (cap := 2) (rows := [XPlace.cells ⟨0, true⟩, XPlace.cells ⟨0, true⟩]) (subs := []) rfl (by decide) (by decide) (fun r hr => by simp only [List.mem_cons, List.not_mem_nil, or_false] at hr; rcases hr with rfl | rfl <;> rfl) (by decide) rfl (fun s hs => by cases hs) ?_
  refine qa6 ?_
  refine LJ_call rfl (range12 (by repeat (first | apply USeg.here | apply USeg.cons | apply USeg.app)) (hx.mono fun r h => inR_self (.tail _ h)) hk (by omega)) rfl ?_
  rintro v L' R' ⟨r1, k1, rfl, g1, g1', hk1, he1, rfl, rfl⟩
  refine qcd ?_
  refine qcd ?_
  refine LJ_q (yv_build (qs := [(1, (Value.int _ _).cells.toList), (2, (Value.int _ _).cells.toList), (3, (Value.int _ _).cells.toList), (6, (Value.agg _).cells.toList), (7, (Value.agg _).cells.toList)]) (out := [_, _, _, _, _, _, _, _, _, _]) tb rfl rfl rfl rfl) rfl ?_
  refine LJ_g (gives_buildSlice (qs := [(0, (Value.agg _).cells.toList)]) (out := [_, _, _, _, _, _, _, _, _, _]) tb rfl rfl rfl rfl rfl rfl rfl) rfl ?_
  rintro v L' R' ⟨b16, rfl, rfl, hR16⟩
  replace hR16 := hR16.symm; subst hR16
  refine LJ_frz (wd := 10) (len := 1) (cap := 1) (rows := [XRoad.cells (easyRoad r1)]) (subs := []) rfl (by decide) (by decide) (fun r hr => by rw [List.mem_singleton.1 hr]; rfl) (by decide) rfl (fun s hs => by cases hs) ?_
  refine LJ_q (yv_build (qs := [(0, (Value.slice _ _ _).cells.toList), (1, (Value.slice _ _ _).cells.toList)]) (out := [_, _]) tb rfl rfl rfl rfl) rfl ?_
  refine qaq ?_
  intro b4
  refine qak ?_
  refine qa4 ?_
  refine CJ_nil 4 (CJ_nil 3 ?_)
  obtain ⟨pl, hpl⟩ : ∃ pl : Arr XPlace, pl = ⟨some ⟨b10, 0, none⟩, 2, [⟨0, true⟩, ⟨0, true⟩]⟩ := ⟨_, rfl⟩
  obtain ⟨rd, hrd⟩ : ∃ rd : Arr XRoad, rd = ⟨some ⟨b16, 0, none⟩, 1, [easyRoad r1]⟩ := ⟨_, rfl⟩
  obtain ⟨R1, hR1e⟩ : ∃ R1, R1 = dsl ⟨none, 0, []⟩ :: fsl ⟨none, 0, []⟩ :: rsl rd :: psl pl :: R := ⟨_, rfl⟩
  have hR1 : ∀ r ∈ R, InR r R1 := fun r hr => inR_self (by rw [hR1e]; exact .tail _ (.tail _ (.tail _ (.tail _ hr))))
  have hplR : InR (psl pl) R1 := inR_self (by rw [hR1e]; exact .tail _ (.tail _ (.tail _ (.head _))))
  have hrdR : InR (rsl rd) R1 := inR_self (by rw [hR1e]; exact .tail _ (.tail _ (.head _)))
  have hfnR : InR (fsl ⟨none, 0, []⟩) R1 := inR_self (by rw [hR1e]; exact .tail _ (.head _))
  have hdrR : InR (dsl ⟨none, 0, []⟩) R1 := inR_self (by rw [hR1e]; exact .head _)
  have hx1 := hx.mono hR1
  refine CJ_R (show _ = R1 by rw [hR1e, hpl, hrd]; rfl) ?_
  refine CJ_joinP [18, 19, 20, 21, 22, 23, 24, 25, 26, 27, 28, 29, 30, 5] ((⟨fun g => [(5, .pointer (some ⟨g.1.b5, 0, none⟩))], fun g => ⟨g.1.b5, [.slice (some ⟨b10, 0, none⟩) 2 2, .slice (some ⟨b16, 0, none⟩) 1 1, .slice none 0 0, .slice none 0 0, .slice (some ⟨g.1.b1, 0, none⟩) 1 1, .slice (some ⟨g.1.b2, 0, none⟩) 1 1, .slice none 0 0, .slice (some ⟨g.1.b3, 0, none⟩) 2 2], 36⟩ :: ⟨g.1.b3, [.int .i64 1, .int .i64 2], 87⟩ :: ⟨g.1.b2, XCond.cells (easyCond g.2.1.1), 133⟩ :: ⟨g.1.b1, easySens.cells, 128⟩ :: ⟨b4, [.slice (some ⟨b10, 0, none⟩) 2 2, .slice (some ⟨b16, 0, none⟩) 1 1], 26⟩ :: ⟨b3, [.slice none 0 0, .slice none 0 0, .int .i64 0], 71⟩ :: ⟨b2, [.slice none 0 0, .slice none 0 0, .slice none 0 0, .slice none 0 0, .slice none 0 0, .slice none 0 0, .slice none 0 0, .slice none 0 0], 36⟩ :: cblk c x g.2.1.2 :: [], fun _ => R1, fun _ => 0⟩ : Head (EJ × {g : Int × Nat // (1 ≤ g.1 ∧ g.1 ≤ 5) ∧ g.2 ≤ x.l.length ∧ (x.l.length ≤ k1 → g.1 = 1 ∧ g.2 = k1)}))) ?_ ?_
  ·
   skip
   refine CJ_tree tb [] [0, 1, 2, 4, 9, 10, 3, 5, 6, 7, 8, 11, 12, 13] [14] ([Blk.mk b4 _ _]) [] 14 mixed (by kernel_rfl) rfl rfl (by repeat (first | exact zs0 _ | exact zs1 _ | apply zs2 | apply zs3 | apply zs4 | apply zs5)) fun hT2 => ?_
   refine WZ_q 0 hT2 (List.nil_sublist _) (by kernel_rfl) rfl rfl rfl rfl rfl (yv_loadN (row := [_, _]) tb rfl rfl rfl (by repeat (first | exact zi0 | apply zi1 | apply zi2)) (by rfl) (by rfl)) ?_
   refine WZ_q 1 hT2 (List.nil_sublist _) (by kernel_rfl) rfl rfl rfl rfl rfl (yv_build (qs := [(0, (Value.agg _).cells.toList)]) (out := [_, _, _, _]) tb rfl rfl rfl rfl) ?_
   refine WZ_q 2 hT2 (List.nil_sublist _) (by kernel_rfl) rfl rfl rfl rfl rfl (yv_build (qs := [(1, (Value.int _ _).cells.toList), (4, (Value.int _ _).cells.toList), (5, (Value.int _ _).cells.toList), (6, (Value.int _ _).cells.toList), (7, (Value.int _ _).cells.toList)]) (out := [_, _, _, _, _, _, _, _]) tb rfl rfl rfl rfl) ?_
   refine WZ_q 4 hT2 (List.nil_sublist _) (by kernel_rfl) rfl rfl rfl rfl rfl (yv_move (show _ = Value.pointer _ from rfl)) ?_
   refine WZ_q 9 hT2 (List.nil_sublist _) (by kernel_rfl) rfl rfl rfl rfl rfl (yv_build (qs := [(0, (Value.int _ _).cells.toList)]) (out := [_]) tb rfl rfl rfl rfl) ?_
   refine WZ_q 10 hT2 (List.nil_sublist _) (by kernel_rfl) rfl rfl rfl rfl rfl (yv_build (qs := [(0, (Value.int _ _).cells.toList)]) (out := [_]) tb rfl rfl rfl rfl) ?_
   refine WZ_branch [3, 5, 11, 13] hT2 (List.nil_sublist _) (by kernel_rfl) ?_
   refine WSteps_cons ?_ ?_
   ·
    skip
    refine ybyac ?_
    rintro v L' R' ⟨b21, rfl, rfl, hR21⟩
    replace hR21 := hR21.symm; subst hR21
    refine qa1 ?_
    refine WZ_branch [5, 11, 13] hT2 (List.nil_sublist _) (by kernel_rfl) ?_
    refine WSteps_cons ?_ ?_
    ·
     skip
     refine ybyae ?_
     rintro v L' R' ⟨r2, k2, rfl, g2, g2', hk2, he2, rfl, rfl⟩
     refine qas ?_
     refine ybyaf ?_
     refine ybyag ?_
     refine WZ_branch [8, 11, 13] hT2 (List.nil_sublist _) (by kernel_rfl) ?_
     refine WSteps_cons ?_ ?_
     ·
      skip
      refine ybyab ?_
      rintro v L' R' ⟨b26, rfl, rfl, hR26⟩
      replace hR26 := hR26.symm; subst hR26
      refine qa1 ?_
      refine WZ_branch [11, 13] hT2 (List.nil_sublist _) (by kernel_rfl) ?_
      refine WSteps_cons ?_ ?_
      ·
       skip
       refine ybyad ?_
       rintro v L' R' ⟨b29, rfl, rfl, hR29⟩
       replace hR29 := hR29.symm; subst hR29
       refine qa1 ?_
       refine ybyaa ?_
       refine WZ_branch [13] hT2 (List.nil_sublist _) (by kernel_rfl) ?_
       refine qca ?_
       refine WStep_g rfl (gives_alloc tb rfl) rfl rfl ?_
       rintro v L' R' ⟨b5, rfl, rfl, hR5⟩
       replace hR5 := hR5.symm; subst hR5
       refine qa1 ?_
       refine WZ_endL hT2 (List.nil_sublist _) (by kernel_rfl) rfl ?_
       refine qbg ?_
       refine DJ_nil ?_
       exact joinPK_mk (⟨b21, b26, b29, b5⟩, ⟨(r2, k2), ⟨g2, g2'⟩, hk2, he2⟩) (by repeat (first | exact Off.refl | apply Off.upd rfl | apply Off.havoc rfl | apply Off.updL rfl | apply Off.left rfl)) (by repeat' (first | exact trivial | refine And.intro rfl ?_)) (by repeat (first | exact List.Perm.refl _ | refine pm0 ?_ | refine pm1 ?_ | refine pm2 ?_ | refine pm3 ?_)) (List.Sublist.refl _) (allR_self _)
      refine qca ?_
      refine WStep_g rfl (gives_alloc tb rfl) rfl rfl ?_
      rintro v L' R' ⟨b5, rfl, rfl, hR5⟩
      replace hR5 := hR5.symm; subst hR5
      refine qa1 ?_
      refine WZ_branch [11] hT2 (List.nil_sublist _) (by kernel_rfl) ?_
      refine qca ?_
      refine ybyad ?_
      rintro v L' R' ⟨b29, rfl, rfl, hR29⟩
      replace hR29 := hR29.symm; subst hR29
      refine qa1 ?_
      refine ybyaa ?_
      refine WZ_endL hT2 (List.nil_sublist _) (by kernel_rfl) rfl ?_
      refine qbg ?_
      refine DJ_nil ?_
      exact joinPK_mk (⟨b21, b26, b29, b5⟩, ⟨(r2, k2), ⟨g2, g2'⟩, hk2, he2⟩) (by repeat (first | exact Off.refl | apply Off.upd rfl | apply Off.havoc rfl | apply Off.updL rfl | apply Off.left rfl)) (by repeat' (first | exact trivial | refine And.intro rfl ?_)) (by repeat (first | exact List.Perm.refl _ | refine pm0 ?_ | refine pm1 ?_ | refine pm2 ?_ | refine pm3 ?_)) (List.Sublist.refl _) (allR_self _)
     refine WSteps_cons ?_ ?_
     ·
      skip
      refine ybyad ?_
      rintro v L' R' ⟨b29, rfl, rfl, hR29⟩
      replace hR29 := hR29.symm; subst hR29
      refine qa1 ?_
      refine WZ_branch [8, 13] hT2 (List.nil_sublist _) (by kernel_rfl) ?_
      refine WSteps_cons ?_ ?_
      ·
       skip
       refine ybyab ?_
       rintro v L' R' ⟨b26, rfl, rfl, hR26⟩
       replace hR26 := hR26.symm; subst hR26
       refine qa1 ?_
       refine ybyaa ?_
       refine WZ_branch [13] hT2 (List.nil_sublist _) (by kernel_rfl) ?_
       refine qca ?_
       refine WStep_g rfl (gives_alloc tb rfl) rfl rfl ?_
       rintro v L' R' ⟨b5, rfl, rfl, hR5⟩
       replace hR5 := hR5.symm; subst hR5
       refine qa1 ?_
       refine WZ_endL hT2 (List.nil_sublist _) (by kernel_rfl) rfl ?_
       refine qbg ?_
       refine DJ_nil ?_
       exact joinPK_mk (⟨b21, b26, b29, b5⟩, ⟨(r2, k2), ⟨g2, g2'⟩, hk2, he2⟩) (by repeat (first | exact Off.refl | apply Off.upd rfl | apply Off.havoc rfl | apply Off.updL rfl | apply Off.left rfl)) (by repeat' (first | exact trivial | refine And.intro rfl ?_)) (by repeat (first | exact List.Perm.refl _ | refine pm0 ?_ | refine pm1 ?_ | refine pm2 ?_ | refine pm3 ?_)) (List.Sublist.refl _) (allR_self _)
      refine qca ?_
      refine WStep_g rfl (gives_alloc tb rfl) rfl rfl ?_
      rintro v L' R' ⟨b5, rfl, rfl, hR5⟩
      replace hR5 := hR5.symm; subst hR5
      refine qa1 ?_
      refine WZ_branch [8] hT2 (List.nil_sublist _) (by kernel_rfl) ?_
      refine qca ?_
      refine ybyab ?_
      rintro v L' R' ⟨b26, rfl, rfl, hR26⟩
      replace hR26 := hR26.symm; subst hR26
      refine qa1 ?_
      refine ybyaa ?_
      refine WZ_endL hT2 (List.nil_sublist _) (by kernel_rfl) rfl ?_
      refine qbg ?_
      refine DJ_nil ?_
      exact joinPK_mk (⟨b21, b26, b29, b5⟩, ⟨(r2, k2), ⟨g2, g2'⟩, hk2, he2⟩) (by repeat (first | exact Off.refl | apply Off.upd rfl | apply Off.havoc rfl | apply Off.updL rfl | apply Off.left rfl)) (by repeat' (first | exact trivial | refine And.intro rfl ?_)) (by repeat (first | exact List.Perm.refl _ | refine pm0 ?_ | refine pm1 ?_ | refine pm2 ?_ | refine pm3 ?_)) (List.Sublist.refl _) (allR_self _)
     refine qca ?_
     refine WStep_g rfl (gives_alloc tb rfl) rfl rfl ?_
     rintro v L' R' ⟨b5, rfl, rfl, hR5⟩
     replace hR5 := hR5.symm; subst hR5
     refine qa1 ?_
     refine WZ_branch [8, 11] hT2 (List.nil_sublist _) (by kernel_rfl) ?_
     refine WSteps_cons ?_ ?_
     ·
      skip
      refine ybyab ?_
      rintro v L' R' ⟨b26, rfl, rfl, hR26⟩
      replace hR26 := hR26.symm; subst hR26
      refine qa1 ?_
      refine WZ_branch [11] hT2 (List.nil_sublist _) (by kernel_rfl) ?_
      refine qca ?_
      refine ybyad ?_
      rintro v L' R' ⟨b29, rfl, rfl, hR29⟩
      replace hR29 := hR29.symm; subst hR29
      refine qa1 ?_
      refine ybyaa ?_
      refine WZ_endL hT2 (List.nil_sublist _) (by kernel_rfl) rfl ?_
      refine qbg ?_
      refine DJ_nil ?_
      exact joinPK_mk (⟨b21, b26, b29, b5⟩, ⟨(r2, k2), ⟨g2, g2'⟩, hk2, he2⟩) (by repeat (first | exact Off.refl | apply Off.upd rfl | apply Off.havoc rfl | apply Off.updL rfl | apply Off.left rfl)) (by repeat' (first | exact trivial | refine And.intro rfl ?_)) (by repeat (first | exact List.Perm.refl _ | refine pm0 ?_ | refine pm1 ?_ | refine pm2 ?_ | refine pm3 ?_)) (List.Sublist.refl _) (allR_self _)
     refine qca ?_
     refine ybyad ?_
     rintro v L' R' ⟨b29, rfl, rfl, hR29⟩
     replace hR29 := hR29.symm; subst hR29
     refine qa1 ?_
     refine WZ_branch [8] hT2 (List.nil_sublist _) (by kernel_rfl) ?_
     refine qca ?_
     refine ybyab ?_
     rintro v L' R' ⟨b26, rfl, rfl, hR26⟩
     replace hR26 := hR26.symm; subst hR26
     refine qa1 ?_
     refine ybyaa ?_
     refine WZ_endL hT2 (List.nil_sublist _) (by kernel_rfl) rfl ?_
     refine qbg ?_
     refine DJ_nil ?_
     exact joinPK_mk (⟨b21, b26, b29, b5⟩, ⟨(r2, k2), ⟨g2, g2'⟩, hk2, he2⟩) (by repeat (first | exact Off.refl | apply Off.upd rfl | apply Off.havoc rfl | apply Off.updL rfl | apply Off.left rfl)) (by repeat' (first | exact trivial | refine And.intro rfl ?_)) (by repeat (first | exact List.Perm.refl _ | refine pm0 ?_ | refine pm1 ?_ | refine pm2 ?_ | refine pm3 ?_)) (List.Sublist.refl _) (allR_self _)
    refine WSteps_cons ?_ ?_
    ·
     skip
     refine ybyad ?_
     rintro v L' R' ⟨b29, rfl, rfl, hR29⟩
     replace hR29 := hR29.symm; subst hR29
     refine qa1 ?_
     refine WZ_branch [5, 13] hT2 (List.nil_sublist _) (by kernel_rfl) ?_
     refine WSteps_cons ?_ ?_
     ·
      skip
      refine ybyae ?_
      rintro v L' R' ⟨r2, k2, rfl, g2, g2', hk2, he2, rfl, rfl⟩
      refine qas ?_
      refine ybyaf ?_
      refine ybyag ?_
      refine WZ_branch [8, 13] hT2 (List.nil_sublist _) (by kernel_rfl) ?_
      refine WSteps_cons ?_ ?_
      ·
       skip
       refine ybyab ?_
       rintro v L' R' ⟨b26, rfl, rfl, hR26⟩
       replace hR26 := hR26.symm; subst hR26
       refine qa1 ?_
       refine ybyaa ?_
       refine WZ_branch [13] hT2 (List.nil_sublist _) (by kernel_rfl) ?_
       refine qca ?_
       refine WStep_g rfl (gives_alloc tb rfl) rfl rfl ?_
       rintro v L' R' ⟨b5, rfl, rfl, hR5⟩
       replace hR5 := hR5.symm; subst hR5
       refine qa1 ?_
       refine WZ_endL hT2 (List.nil_sublist _) (by kernel_rfl) rfl ?_
       refine qbg ?_
       refine DJ_nil ?_
       exact joinPK_mk (⟨b21, b26, b29, b5⟩, ⟨(r2, k2), ⟨g2, g2'⟩, hk2, he2⟩) (by repeat (first | exact Off.refl | apply Off.upd rfl | apply Off.havoc rfl | apply Off.updL rfl | apply Off.left rfl)) (by repeat' (first | exact trivial | refine And.intro rfl ?_)) (by repeat (first | exact List.Perm.refl _ | refine pm0 ?_ | refine pm1 ?_ | refine pm2 ?_ | refine pm3 ?_)) (List.Sublist.refl _) (allR_self _)
      refine qca ?_
      refine WStep_g rfl (gives_alloc tb rfl) rfl rfl ?_
      rintro v L' R' ⟨b5, rfl, rfl, hR5⟩
      replace hR5 := hR5.symm; subst hR5
      refine qa1 ?_
      refine WZ_branch [8] hT2 (List.nil_sublist _) (by kernel_rfl) ?_
      refine qca ?_
      refine ybyab ?_
      rintro v L' R' ⟨b26, rfl, rfl, hR26⟩
      replace hR26 := hR26.symm; subst hR26
      refine qa1 ?_
      refine ybyaa ?_
      refine WZ_endL hT2 (List.nil_sublist _) (by kernel_rfl) rfl ?_
      refine qbg ?_
      refine DJ_nil ?_
      exact joinPK_mk (⟨b21, b26, b29, b5⟩, ⟨(r2, k2), ⟨g2, g2'⟩, hk2, he2⟩) (by repeat (first | exact Off.refl | apply Off.upd rfl | apply Off.havoc rfl | apply Off.updL rfl | apply Off.left rfl)) (by repeat' (first | exact trivial | refine And.intro rfl ?_)) (by repeat (first | exact List.Perm.refl _ | refine pm0 ?_ | refine pm1 ?_ | refine pm2 ?_ | refine pm3 ?_)) (List.Sublist.refl _) (allR_self _)
     refine qca ?_
     refine WStep_g rfl (gives_alloc tb rfl) rfl rfl ?_
     rintro v L' R' ⟨b5, rfl, rfl, hR5⟩
     replace hR5 := hR5.symm; subst hR5
     refine qa1 ?_
     refine WZ_branch [5] hT2 (List.nil_sublist _) (by kernel_rfl) ?_
     refine qca ?_
     refine ybyae ?_
     rintro v L' R' ⟨r2, k2, rfl, g2, g2', hk2, he2, rfl, rfl⟩
     refine qas ?_
     refine ybyaf ?_
     refine ybyag ?_
     refine WZ_branch [8] hT2 (List.nil_sublist _) (by kernel_rfl) ?_
     refine qca ?_
     refine ybyab ?_
     rintro v L' R' ⟨b26, rfl, rfl, hR26⟩
     replace hR26 := hR26.symm; subst hR26
     refine qa1 ?_
     refine ybyaa ?_
     refine WZ_endL hT2 (List.nil_sublist _) (by kernel_rfl) rfl ?_
     refine qbg ?_
     refine DJ_nil ?_
     exact joinPK_mk (⟨b21, b26, b29, b5⟩, ⟨(r2, k2), ⟨g2, g2'⟩, hk2, he2⟩) (by repeat (first | exact Off.refl | apply Off.upd rfl | apply Off.havoc rfl | apply Off.updL rfl | apply Off.left rfl)) (by repeat' (first | exact trivial | refine And.intro rfl ?_)) (by repeat (first | exact List.Perm.refl _ | refine pm0 ?_ | refine pm1 ?_ | refine pm2 ?_ | refine pm3 ?_)) (List.Sublist.refl _) (allR_self _)
    refine qca ?_
    refine WStep_g rfl (gives_alloc tb rfl) rfl rfl ?_
    rintro v L' R' ⟨b5, rfl, rfl, hR5⟩
    replace hR5 := hR5.symm; subst hR5
    refine qa1 ?_
    refine WZ_branch [5, 11] hT2 (List.nil_sublist _) (by kernel_rfl) ?_
    refine WSteps_cons ?_ ?_
    ·
     skip
     refine ybyae ?_
     rintro v L' R' ⟨r2, k2, rfl, g2, g2', hk2, he2, rfl, rfl⟩
     refine qas ?_
     refine ybyaf ?_
     refine ybyag ?_
     refine WZ_branch [8, 11] hT2 (List.nil_sublist _) (by kernel_rfl) ?_
     refine WSteps_cons ?_ ?_
     ·
      skip
      refine ybyab ?_
      rintro v L' R' ⟨b26, rfl, rfl, hR26⟩
      replace hR26 := hR26.symm; subst hR26
      refine qa1 ?_
      refine WZ_branch [11] hT2 (List.nil_sublist _) (by kernel_rfl) ?_
      refine qca ?_
      refine ybyad ?_
      rintro v L' R' ⟨b29, rfl, rfl, hR29⟩
      replace hR29 := hR29.symm; subst hR29
      refine qa1 ?_
      refine ybyaa ?_
      refine WZ_endL hT2 (List.nil_sublist _) (by kernel_rfl) rfl ?_
      refine qbg ?_
      refine DJ_nil ?_
      exact joinPK_mk (⟨b21, b26, b29, b5⟩, ⟨(r2, k2), ⟨g2, g2'⟩, hk2, he2⟩) (by repeat (first | exact Off.refl | apply Off.upd rfl | apply Off.havoc rfl | apply Off.updL rfl | apply Off.left rfl)) (by repeat' (first | exact trivial | refine And.intro rfl ?_)) (by repeat (first | exact List.Perm.refl _ | refine pm0 ?_ | refine pm1 ?_ | refine pm2 ?_ | refine pm3 ?_)) (List.Sublist.refl _) (allR_self _)
     refine qca ?_
     refine ybyad ?_
     rintro v L' R' ⟨b29, rfl, rfl, hR29⟩
     replace hR29 := hR29.symm; subst hR29
     refine qa1 ?_
     refine WZ_branch [8] hT2 (List.nil_sublist _) (by kernel_rfl) ?_
     refine qca ?_
     refine ybyab ?_
     rintro v L' R' ⟨b26, rfl, rfl, hR26⟩
     replace hR26 := hR26.symm; subst hR26
     refine qa1 ?_
     refine ybyaa ?_
     refine WZ_endL hT2 (List.nil_sublist _) (by kernel_rfl) rfl ?_
     refine qbg ?_
     refine DJ_nil ?_
     exact joinPK_mk (⟨b21, b26, b29, b5⟩, ⟨(r2, k2), ⟨g2, g2'⟩, hk2, he2⟩) (by repeat (first | exact Off.refl | apply Off.upd rfl | apply Off.havoc rfl | apply Off.updL rfl | apply Off.left rfl)) (by repeat' (first | exact trivial | refine And.intro rfl ?_)) (by repeat (first | exact List.Perm.refl _ | refine pm0 ?_ | refine pm1 ?_ | refine pm2 ?_ | refine pm3 ?_)) (List.Sublist.refl _) (allR_self _)
    refine qca ?_
    refine ybyad ?_
    rintro v L' R' ⟨b29, rfl, rfl, hR29⟩
    replace hR29 := hR29.symm; subst hR29
    refine qa1 ?_
    refine WZ_branch [5] hT2 (List.nil_sublist _) (by kernel_rfl) ?_
    refine qca ?_
    refine ybyae ?_
    rintro v L' R' ⟨r2, k2, rfl, g2, g2', hk2, he2, rfl, rfl⟩
    refine qas ?_
    refine ybyaf ?_
    refine ybyag ?_
    refine WZ_branch [8] hT2 (List.nil_sublist _) (by kernel_rfl) ?_
    refine qca ?_
    refine ybyab ?_
    rintro v L' R' ⟨b26, rfl, rfl, hR26⟩
    replace hR26 := hR26.symm; subst hR26
    refine qa1 ?_
    refine ybyaa ?_
    refine WZ_endL hT2 (List.nil_sublist _) (by kernel_rfl) rfl ?_
    refine qbg ?_
    refine DJ_nil ?_
    exact joinPK_mk (⟨b21, b26, b29, b5⟩, ⟨(r2, k2), ⟨g2, g2'⟩, hk2, he2⟩) (by repeat (first | exact Off.refl | apply Off.upd rfl | apply Off.havoc rfl | apply Off.updL rfl | apply Off.left rfl)) (by repeat' (first | exact trivial | refine And.intro rfl ?_)) (by repeat (first | exact List.Perm.refl _ | refine pm0 ?_ | refine pm1 ?_ | refine pm2 ?_ | refine pm3 ?_)) (List.Sublist.refl _) (allR_self _)
   refine WSteps_cons ?_ ?_
   ·
    skip
    refine ybyae ?_
    rintro v L' R' ⟨r2, k2, rfl, g2, g2', hk2, he2, rfl, rfl⟩
    refine qas ?_
    refine ybyaf ?_
    refine ybyag ?_
    refine WZ_branch [3, 8, 11, 13] hT2 (List.nil_sublist _) (by kernel_rfl) ?_
    refine WSteps_cons ?_ ?_
    ·
     skip
     refine ybyac ?_
     rintro v L' R' ⟨b21, rfl, rfl, hR21⟩
     replace hR21 := hR21.symm; subst hR21
     refine qa1 ?_
     refine WZ_branch [8, 11, 13] hT2 (List.nil_sublist _) (by kernel_rfl) ?_
     refine WSteps_cons ?_ ?_
     ·
      skip
      refine ybyab ?_
      rintro v L' R' ⟨b26, rfl, rfl, hR26⟩
      replace hR26 := hR26.symm; subst hR26
      refine qa1 ?_
      refine WZ_branch [11, 13] hT2 (List.nil_sublist _) (by kernel_rfl) ?_
      refine WSteps_cons ?_ ?_
      ·
       skip
       refine ybyad ?_
       rintro v L' R' ⟨b29, rfl, rfl, hR29⟩
       replace hR29 := hR29.symm; subst hR29
       refine qa1 ?_
       refine ybyaa ?_
       refine WZ_branch [13] hT2 (List.nil_sublist _) (by kernel_rfl) ?_
       refine qca ?_
       refine WStep_g rfl (gives_alloc tb rfl) rfl rfl ?_
       rintro v L' R' ⟨b5, rfl, rfl, hR5⟩
       replace hR5 := hR5.symm; subst hR5
       refine qa1 ?_
       refine WZ_endL hT2 (List.nil_sublist _) (by kernel_rfl) rfl ?_
       refine qbg ?_
       refine DJ_nil ?_
       exact joinPK_mk (⟨b21, b26, b29, b5⟩, ⟨(r2, k2), ⟨g2, g2'⟩, hk2, he2⟩) (by repeat (first | exact Off.refl | apply Off.upd rfl | apply Off.havoc rfl | apply Off.updL rfl | apply Off.left rfl)) (by repeat' (first | exact trivial | refine And.intro rfl ?_)) (by repeat (first | exact List.Perm.refl _ | refine pm0 ?_ | refine pm1 ?_ | refine pm2 ?_ | refine pm3 ?_)) (List.Sublist.refl _) (allR_self _)
      refine qca ?_
      refine WStep_g rfl (gives_alloc tb rfl) rfl rfl ?_
      rintro v L' R' ⟨b5, rfl, rfl, hR5⟩
      replace hR5 := hR5.symm; subst hR5
      refine qa1 ?_
      refine WZ_branch [11] hT2 (List.nil_sublist _) (by kernel_rfl) ?_
      refine qca ?_
      refine ybyad ?_
      rintro v L' R' ⟨b29, rfl, rfl, hR29⟩
      replace hR29 := hR29.symm; subst hR29
      refine qa1 ?_
      refine ybyaa ?_
      refine WZ_endL hT2 (List.nil_sublist _) (by kernel_rfl) rfl ?_
      refine qbg ?_
      refine DJ_nil ?_
      exact joinPK_mk (⟨b21, b26, b29, b5⟩, ⟨(r2, k2), ⟨g2, g2'⟩, hk2, he2⟩) (by repeat (first | exact Off.refl | apply Off.upd rfl | apply Off.havoc rfl | apply Off.updL rfl | apply Off.left rfl)) (by repeat' (first | exact trivial | refine And.intro rfl ?_)) (by repeat (first | exact List.Perm.refl _ | refine pm0 ?_ | refine pm1 ?_ | refine pm2 ?_ | refine pm3 ?_)) (List.Sublist.refl _) (allR_self _)
     refine WSteps_cons ?_ ?_
     ·
      skip
      refine ybyad ?_
      rintro v L' R' ⟨b29, rfl, rfl, hR29⟩
      replace hR29 := hR29.symm; subst hR29
      refine qa1 ?_
      refine WZ_branch [8, 13] hT2 (List.nil_sublist _) (by kernel_rfl) ?_
      refine WSteps_cons ?_ ?_
      ·
       skip
       refine ybyab ?_
       rintro v L' R' ⟨b26, rfl, rfl, hR26⟩
       replace hR26 := hR26.symm; subst hR26
       refine qa1 ?_
       refine ybyaa ?_
       refine WZ_branch [13] hT2 (List.nil_sublist _) (by kernel_rfl) ?_
       refine qca ?_
       refine WStep_g rfl (gives_alloc tb rfl) rfl rfl ?_
       rintro v L' R' ⟨b5, rfl, rfl, hR5⟩
       replace hR5 := hR5.symm; subst hR5
       refine qa1 ?_
       refine WZ_endL hT2 (List.nil_sublist _) (by kernel_rfl) rfl ?_
       refine qbg ?_
       refine DJ_nil ?_
       exact joinPK_mk (⟨b21, b26, b29, b5⟩, ⟨(r2, k2), ⟨g2, g2'⟩, hk2, he2⟩) (by repeat (first | exact Off.refl | apply Off.upd rfl | apply Off.havoc rfl | apply Off.updL rfl | apply Off.left rfl)) (by repeat' (first | exact trivial | refine And.intro rfl ?_)) (by repeat (first | exact List.Perm.refl _ | refine pm0 ?_ | refine pm1 ?_ | refine pm2 ?_ | refine pm3 ?_)) (List.Sublist.refl _) (allR_self _)
      refine qca ?_
      refine WStep_g rfl (gives_alloc tb rfl) rfl rfl ?_
      rintro v L' R' ⟨b5, rfl, rfl, hR5⟩
      replace hR5 := hR5.symm; subst hR5
      refine qa1 ?_
      refine WZ_branch [8] hT2 (List.nil_sublist _) (by kernel_rfl) ?_
      refine qca ?_
      refine ybyab ?_
      rintro v L' R' ⟨b26, rfl, rfl, hR26⟩
      replace hR26 := hR26.symm; subst hR26
      refine qa1 ?_
      refine ybyaa ?_
      refine WZ_endL hT2 (List.nil_sublist _) (by kernel_rfl) rfl ?_
      refine qbg ?_
      refine DJ_nil ?_
      exact joinPK_mk (⟨b21, b26, b29, b5⟩, ⟨(r2, k2), ⟨g2, g2'⟩, hk2, he2⟩) (by repeat (first | exact Off.refl | apply Off.upd rfl | apply Off.havoc rfl | apply Off.updL rfl | apply Off.left rfl)) (by repeat' (first | exact trivial | refine And.intro rfl ?_)) (by repeat (first | exact List.Perm.refl _ | refine pm0 ?_ | refine pm1 ?_ | refine pm2 ?_ | refine pm3 ?_)) (List.Sublist.refl _) (allR_self _)
     refine qca ?_
     refine WStep_g rfl (gives_alloc tb rfl) rfl rfl ?_
     rintro v L' R' ⟨b5, rfl, rfl, hR5⟩
     replace hR5 := hR5.symm; subst hR5
     refine qa1 ?_
     refine WZ_branch [8, 11] hT2 (List.nil_sublist _) (by kernel_rfl) ?_
     refine WSteps_cons ?_ ?_
     ·
      skip
      refine ybyab ?_
      rintro v L' R' ⟨b26, rfl, rfl, hR26⟩
      replace hR26 := hR26.symm; subst hR26
      refine qa1 ?_
      refine WZ_branch [11] hT2 (List.nil_sublist _) (by kernel_rfl) ?_
      refine qca ?_
      refine ybyad ?_
      rintro v L' R' ⟨b29, rfl, rfl, hR29⟩
      replace hR29 := hR29.symm; subst hR29
      refine qa1 ?_
      refine ybyaa ?_
      refine WZ_endL hT2 (List.nil_sublist _) (by kernel_rfl) rfl ?_
      refine qbg ?_
      refine DJ_nil ?_
      exact joinPK_mk (⟨b21, b26, b29, b5⟩, ⟨(r2, k2), ⟨g2, g2'⟩, hk2, he2⟩) (by repeat (first | exact Off.refl | apply Off.upd rfl | apply Off.havoc rfl | apply Off.updL rfl | apply Off.left rfl)) (by repeat' (first | exact trivial | refine And.intro rfl ?_)) (by repeat (first | exact List.Perm.refl _ | refine pm0 ?_ | refine pm1 ?_ | refine pm2 ?_ | refine pm3 ?_)) (List.Sublist.refl _) (allR_self _)
     refine qca ?_
     refine ybyad ?_
     rintro v L' R' ⟨b29, rfl, rfl, hR29⟩
     replace hR29 := hR29.symm; subst hR29
     refine qa1 ?_
     refine WZ_branch [8] hT2 (List.nil_sublist _) (by kernel_rfl) ?_
     refine qca ?_
     refine ybyab ?_
     rintro v L' R' ⟨b26, rfl, rfl, hR26⟩
     replace hR26 := hR26.symm; subst hR26
     refine qa1 ?_
     refine ybyaa ?_
     refine WZ_endL hT2 (List.nil_sublist _) (by kernel_rfl) rfl ?_
     refine qbg ?_
     refine DJ_nil ?_
     exact joinPK_mk (⟨b21, b26, b29, b5⟩, ⟨(r2, k2), ⟨g2, g2'⟩, hk2, he2⟩) (by repeat (first | exact Off.refl | apply Off.upd rfl | apply Off.havoc rfl | apply Off.updL rfl | apply Off.left rfl)) (by repeat' (first | exact trivial | refine And.intro rfl ?_)) (by repeat (first | exact List.Perm.refl _ | refine pm0 ?_ | refine pm1 ?_ | refine pm2 ?_ | refine pm3 ?_)) (List.Sublist.refl _) (allR_self _)
    refine WSteps_cons ?_ ?_
    ·
     skip
     refine ybyab ?_
     rintro v L' R' ⟨b26, rfl, rfl, hR26⟩
     replace hR26 := hR26.symm; subst hR26
     refine qa1 ?_
     refine WZ_branch [3, 11, 13] hT2 (List.nil_sublist _) (by kernel_rfl) ?_
     refine WSteps_cons ?_ ?_
     ·
      skip
      refine ybyac ?_
      rintro v L' R' ⟨b21, rfl, rfl, hR21⟩
      replace hR21 := hR21.symm; subst hR21
      refine qa1 ?_
      refine WZ_branch [11, 13] hT2 (List.nil_sublist _) (by kernel_rfl) ?_
      refine WSteps_cons ?_ ?_
      ·
       skip
       refine ybyad ?_
       rintro v L' R' ⟨b29, rfl, rfl, hR29⟩
       replace hR29 := hR29.symm; subst hR29
       refine qa1 ?_
       refine ybyaa ?_
       refine WZ_branch [13] hT2 (List.nil_sublist _) (by kernel_rfl) ?_
       refine qca ?_
       refine WStep_g rfl (gives_alloc tb rfl) rfl rfl ?_
       rintro v L' R' ⟨b5, rfl, rfl, hR5⟩
       replace hR5 := hR5.symm; subst hR5
       refine qa1 ?_
       refine WZ_endL hT2 (List.nil_sublist _) (by kernel_rfl) rfl ?_
       refine qbg ?_
       refine DJ_nil ?_
       exact joinPK_mk (⟨b21, b26, b29, b5⟩, ⟨(r2, k2), ⟨g2, g2'⟩, hk2, he2⟩) (by repeat (first | exact Off.refl | apply Off.upd rfl | apply Off.havoc rfl | apply Off.updL rfl | apply Off.left rfl)) (by repeat' (first | exact trivial | refine And.intro rfl ?_)) (by repeat (first | exact List.Perm.refl _ | refine pm0 ?_ | refine pm1 ?_ | refine pm2 ?_ | refine pm3 ?_)) (List.Sublist.refl _) (allR_self _)
      refine qca ?_
      refine WStep_g rfl (gives_alloc tb rfl) rfl rfl ?_
      rintro v L' R' ⟨b5, rfl, rfl, hR5⟩
      replace hR5 := hR5.symm; subst hR5
      refine qa1 ?_
      refine WZ_branch [11] hT2 (List.nil_sublist _) (by kernel_rfl) ?_
      refine qca ?_
      refine ybyad ?_
      rintro v L' R' ⟨b29, rfl, rfl, hR29⟩
      replace hR29 := hR29.symm; subst hR29
      refine qa1 ?_
      refine ybyaa ?_
      refine WZ_endL hT2 (List.nil_sublist _) (by kernel_rfl) rfl ?_
      refine qbg ?_
      refine DJ_nil ?_
      exact joinPK_mk (⟨b21, b26, b29, b5⟩, ⟨(r2, k2), ⟨g2, g2'⟩, hk2, he2⟩) (by repeat (first | exact Off.refl | apply Off.upd rfl | apply Off.havoc rfl | apply Off.updL rfl | apply Off.left rfl)) (by repeat' (first | exact trivial | refine And.intro rfl ?_)) (by repeat (first | exact List.Perm.refl _ | refine pm0 ?_ | refine pm1 ?_ | refine pm2 ?_ | refine pm3 ?_)) (List.Sublist.refl _) (allR_self _)
     refine WSteps_cons ?_ ?_
     ·
      skip
      refine ybyad ?_
      rintro v L' R' ⟨b29, rfl, rfl, hR29⟩
      replace hR29 := hR29.symm; subst hR29
      refine qa1 ?_
      refine WZ_branch [3, 13] hT2 (List.nil_sublist _) (by kernel_rfl) ?_
      refine WSteps_cons ?_ ?_
      ·
       skip
       refine ybyac ?_
       rintro v L' R' ⟨b21, rfl, rfl, hR21⟩
       replace hR21 := hR21.symm; subst hR21
       refine qa1 ?_
       refine ybyaa ?_
       refine WZ_branch [13] hT2 (List.nil_sublist _) (by kernel_rfl) ?_
       refine qca ?_
       refine WStep_g rfl (gives_alloc tb rfl) rfl rfl ?_
       rintro v L' R' ⟨b5, rfl, rfl, hR5⟩
       replace hR5 := hR5.symm; subst hR5
       refine qa1 ?_
       refine WZ_endL hT2 (List.nil_sublist _) (by kernel_rfl) rfl ?_
       refine qbg ?_
       refine DJ_nil ?_
       exact joinPK_mk (⟨b21, b26, b29, b5⟩, ⟨(r2, k2), ⟨g2, g2'⟩, hk2, he2⟩) (by repeat (first | exact Off.refl | apply Off.upd rfl | apply Off.havoc rfl | apply Off.updL rfl | apply Off.left rfl)) (by repeat' (first | exact trivial | refine And.intro rfl ?_)) (by repeat (first | exact List.Perm.refl _ | refine pm0 ?_ | refine pm1 ?_ | refine pm2 ?_ | refine pm3 ?_)) (List.Sublist.refl _) (allR_self _)
      refine qca ?_
      refine WStep_g rfl (gives_alloc tb rfl) rfl rfl ?_
      rintro v L' R' ⟨b5, rfl, rfl, hR5⟩
      replace hR5 := hR5.symm; subst hR5
      refine qa1 ?_
      refine WZ_branch [3] hT2 (List.nil_sublist _) (by kernel_rfl) ?_
      refine qca ?_
      refine ybyac ?_
      rintro v L' R' ⟨b21, rfl, rfl, hR21⟩
      replace hR21 := hR21.symm; subst hR21
      refine qa1 ?_
      refine ybyaa ?_
      refine WZ_endL hT2 (List.nil_sublist _) (by kernel_rfl) rfl ?_
      refine qbg ?_
      refine DJ_nil ?_
      exact joinPK_mk (⟨b21, b26, b29, b5⟩, ⟨(r2, k2), ⟨g2, g2'⟩, hk2, he2⟩) (by repeat (first | exact Off.refl | apply Off.upd rfl | apply Off.havoc rfl | apply Off.updL rfl | apply Off.left rfl)) (by repeat' (first | exact trivial | refine And.intro rfl ?_)) (by repeat (first | exact List.Perm.refl _ | refine pm0 ?_ | refine pm1 ?_ | refine pm2 ?_ | refine pm3 ?_)) (List.Sublist.refl _) (allR_self _)
     refine qca ?_
     refine WStep_g rfl (gives_alloc tb rfl) rfl rfl ?_
     rintro v L' R' ⟨b5, rfl, rfl, hR5⟩
     replace hR5 := hR5.symm; subst hR5
     refine qa1 ?_
     refine WZ_branch [3, 11] hT2 (List.nil_sublist _) (by kernel_rfl) ?_
     refine WSteps_cons ?_ ?_
     ·
      skip
      refine ybyac ?_
      rintro v L' R' ⟨b21, rfl, rfl, hR21⟩
      replace hR21 := hR21.symm; subst hR21
      refine qa1 ?_
      refine WZ_branch [11] hT2 (List.nil_sublist _) (by kernel_rfl) ?_
      refine qca ?_
      refine ybyad ?_
      rintro v L' R' ⟨b29, rfl, rfl, hR29⟩
      replace hR29 := hR29.symm; subst hR29
      refine qa1 ?_
      refine ybyaa ?_
      refine WZ_endL hT2 (List.nil_sublist _) (by kernel_rfl) rfl ?_
      refine qbg ?_
      refine DJ_nil ?_
      exact joinPK_mk (⟨b21, b26, b29, b5⟩, ⟨(r2, k2), ⟨g2, g2'⟩, hk2, he2⟩) (by repeat (first | exact Off.refl | apply Off.upd rfl | apply Off.havoc rfl | apply Off.updL rfl | apply Off.left rfl)) (by repeat' (first | exact trivial | refine And.intro rfl ?_)) (by repeat (first | exact List.Perm.refl _ | refine pm0 ?_ | refine pm1 ?_ | refine pm2 ?_ | refine pm3 ?_)) (List.Sublist.refl _) (allR_self _)
     refine qca ?_
     refine ybyad ?_
     rintro v L' R' ⟨b29, rfl, rfl, hR29⟩
     replace hR29 := hR29.symm; subst hR29
     refine qa1 ?_
     refine WZ_branch [3] hT2 (List.nil_sublist _) (by kernel_rfl) ?_
     refine qca ?_
     refine ybyac ?_
     rintro v L' R' ⟨b21, rfl, rfl, hR21⟩
     replace hR21 := hR21.symm; subst hR21
     refine qa1 ?_
     refine ybyaa ?_
     refine WZ_endL hT2 (List.nil_sublist _) (by kernel_rfl) rfl ?_
     refine qbg ?_
     refine DJ_nil ?_
     exact joinPK_mk (⟨b21, b26, b29, b5⟩, ⟨(r2, k2), ⟨g2, g2'⟩, hk2, he2⟩) (by repeat (first | exact Off.refl | apply Off.upd rfl | apply Off.havoc rfl | apply Off.updL rfl | apply Off.left rfl)) (by repeat' (first | exact trivial | refine And.intro rfl ?_)) (by repeat (first | exact List.Perm.refl _ | refine pm0 ?_ | refine pm1 ?_ | refine pm2 ?_ | refine pm3 ?_)) (List.Sublist.refl _) (allR_self _)
    refine WSteps_cons ?_ ?_
    ·
     skip
     refine ybyad ?_
     rintro v L' R' ⟨b29, rfl, rfl, hR29⟩
     replace hR29 := hR29.symm; subst hR29
     refine qa1 ?_
     refine WZ_branch [3, 8, 13] hT2 (List.nil_sublist _) (by kernel_rfl) ?_
     refine WSteps_cons ?_ ?_
     ·
      skip
      refine ybyac ?_
      rintro v L' R' ⟨b21, rfl, rfl, hR21⟩
      replace hR21 := hR21.symm; subst hR21
      refine qa1 ?_
      refine WZ_branch [8, 13] hT2 (List.nil_sublist _) (by kernel_rfl) ?_
      refine WSteps_cons ?_ ?_
      ·
       skip
       refine ybyab ?_
       rintro v L' R' ⟨b26, rfl, rfl, hR26⟩
       replace hR26 := hR26.symm; subst hR26
       refine qa1 ?_
       refine ybyaa ?_
       refine WZ_branch [13] hT2 (List.nil_sublist _) (by kernel_rfl) ?_
       refine qca ?_
       refine WStep_g rfl (gives_alloc tb rfl) rfl rfl ?_
       rintro v L' R' ⟨b5, rfl, rfl, hR5⟩
       replace hR5 := hR5.symm; subst hR5
       refine qa1 ?_
       refine WZ_endL hT2 (List.nil_sublist _) (by kernel_rfl) rfl ?_
       refine qbg ?_
       refine DJ_nil ?_
       exact joinPK_mk (⟨b21, b26, b29, b5⟩, ⟨(r2, k2), ⟨g2, g2'⟩, hk2, he2⟩) (by repeat (first | exact Off.refl | apply Off.upd rfl | apply Off.havoc rfl | apply Off.updL rfl | apply Off.left rfl)) (by repeat' (first | exact trivial | refine And.intro rfl ?_)) (by repeat (first | exact List.Perm.refl _ | refine pm0 ?_ | refine pm1 ?_ | refine pm2 ?_ | refine pm3 ?_)) (List.Sublist.refl _) (allR_self _)
      refine qca ?_
      refine WStep_g rfl (gives_alloc tb rfl) rfl rfl ?_
      rintro v L' R' ⟨b5, rfl, rfl, hR5⟩
      replace hR5 := hR5.symm; subst hR5
      refine qa1 ?_
      refine WZ_branch [8] hT2 (List.nil_sublist _) (by kernel_rfl) ?_
      refine qca ?_
      refine ybyab ?_
      rintro v L' R' ⟨b26, rfl, rfl, hR26⟩
      replace hR26 := hR26.symm; subst hR26
      refine qa1 ?_
      refine ybyaa ?_
      refine WZ_endL hT2 (List.nil_sublist _) (by kernel_rfl) rfl ?_
      refine qbg ?_
      refine DJ_nil ?_
      exact joinPK_mk (⟨b21, b26, b29, b5⟩, ⟨(r2, k2), ⟨g2, g2'⟩, hk2, he2⟩) (by repeat (first | exact Off.refl | apply Off.upd rfl | apply Off.havoc rfl | apply Off.updL rfl | apply Off.left rfl)) (by repeat' (first | exact trivial | refine And.intro rfl ?_)) (by repeat (first | exact List.Perm.refl _ | refine pm0 ?_ | refine pm1 ?_ | refine pm2 ?_ | refine pm3 ?_)) (List.Sublist.refl _) (allR_self _)
     refine WSteps_cons ?_ ?_
     ·
      skip
      refine ybyab ?_
      rintro v L' R' ⟨b26, rfl, rfl, hR26⟩
      replace hR26 := hR26.symm; subst hR26
      refine qa1 ?_
      refine WZ_branch [3, 13] hT2 (List.nil_sublist _) (by kernel_rfl) ?_
      refine WSteps_cons ?_ ?_
      ·
       skip
       refine ybyac ?_
       rintro v L' R' ⟨b21, rfl, rfl, hR21⟩
       replace hR21 := hR21.symm; subst hR21
       refine qa1 ?_
       refine ybyaa ?_
       refine WZ_branch [13] hT2 (List.nil_sublist _) (by kernel_rfl) ?_
       refine qca ?_
       refine WStep_g rfl (gives_alloc tb rfl) rfl rfl ?_
       rintro v L' R' ⟨b5, rfl, rfl, hR5⟩
       replace hR5 := hR5.symm; subst hR5
       refine qa1 ?_
       refine WZ_endL hT2 (List.nil_sublist _) (by kernel_rfl) rfl ?_
       refine qbg ?_
       refine DJ_nil ?_
       exact joinPK_mk (⟨b21, b26, b29, b5⟩, ⟨(r2, k2), ⟨g2, g2'⟩, hk2, he2⟩) (by repeat (first | exact Off.refl | apply Off.upd rfl | apply Off.havoc rfl | apply Off.updL rfl | apply Off.left rfl)) (by repeat' (first | exact trivial | refine And.intro rfl ?_)) (by repeat (first | exact List.Perm.refl _ | refine pm0 ?_ | refine pm1 ?_ | refine pm2 ?_ | refine pm3 ?_)) (List.Sublist.refl _) (allR_self _)
      refine qca ?_
      refine WStep_g rfl (gives_alloc tb rfl) rfl rfl ?_
      rintro v L' R' ⟨b5, rfl, rfl, hR5⟩
      replace hR5 := hR5.symm; subst hR5
      refine qa1 ?_
      refine WZ_branch [3] hT2 (List.nil_sublist _) (by kernel_rfl) ?_
      refine qca ?_
      refine ybyac ?_
      rintro v L' R' ⟨b21, rfl, rfl, hR21⟩
      replace hR21 := hR21.symm; subst hR21
      refine qa1 ?_
      refine ybyaa ?_
      refine WZ_endL hT2 (List.nil_sublist _) (by kernel_rfl) rfl ?_
      refine qbg ?_
      refine DJ_nil ?_
      exact joinPK_mk (⟨b21, b26, b29, b5⟩, ⟨(r2, k2), ⟨g2, g2'⟩, hk2, he2⟩) (by repeat (first | exact Off.refl | apply Off.upd rfl | apply Off.havoc rfl | apply Off.updL rfl | apply Off.left rfl)) (by repeat' (first | exact trivial | refine And.intro rfl ?_)) (by repeat (first | exact List.Perm.refl _ | refine pm0 ?_ | refine pm1 ?_ | refine pm2 ?_ | refine pm3 ?_)) (List.Sublist.refl _) (allR_self _)
     refine qca ?_
     refine WStep_g rfl (gives_alloc tb rfl) rfl rfl ?_
     rintro v L' R' ⟨b5, rfl, rfl, hR5⟩
     replace hR5 := hR5.symm; subst hR5
     refine qa1 ?_
     refine WZ_branch [3, 8] hT2 (List.nil_sublist _) (by kernel_rfl) ?_
     refine WSteps_cons ?_ ?_
     ·
      skip
      refine ybyac ?_
      rintro v L' R' ⟨b21, rfl, rfl, hR21⟩
      replace hR21 := hR21.symm; subst hR21
      refine qa1 ?_
      refine WZ_branch [8] hT2 (List.nil_sublist _) (by kernel_rfl) ?_
      refine qca ?_
      refine ybyab ?_
      rintro v L' R' ⟨b26, rfl, rfl, hR26⟩
      replace hR26 := hR26.symm; subst hR26
      refine qa1 ?_
      refine ybyaa ?_
      refine WZ_endL hT2 (List.nil_sublist _) (by kernel_rfl) rfl ?_
      refine qbg ?_
      refine DJ_nil ?_
      exact joinPK_mk (⟨b21, b26, b29, b5⟩, ⟨(r2, k2), ⟨g2, g2'⟩, hk2, he2⟩) (by repeat (first | exact Off.refl | apply Off.upd rfl | apply Off.havoc rfl | apply Off.updL rfl | apply Off.left rfl)) (by repeat' (first | exact trivial | refine And.intro rfl ?_)) (by repeat (first | exact List.Perm.refl _ | refine pm0 ?_ | refine pm1 ?_ | refine pm2 ?_ | refine pm3 ?_)) (List.Sublist.refl _) (allR_self _)
     refine qca ?_
     refine ybyab ?_
     rintro v L' R' ⟨b26, rfl, rfl, hR26⟩
     replace hR26 := hR26.symm; subst hR26
     refine qa1 ?_
     refine WZ_branch [3] hT2 (List.nil_sublist _) (by kernel_rfl) ?_
     refine qca ?_
     refine ybyac ?_
     rintro v L' R' ⟨b21, rfl, rfl, hR21⟩
     replace hR21 := hR21.symm; subst hR21
     refine qa1 ?_
     refine ybyaa ?_
     refine WZ_endL hT2 (List.nil_sublist _) (by kernel_rfl) rfl ?_
     refine qbg ?_
     refine DJ_nil ?_
     exact joinPK_mk (⟨b21, b26, b29, b5⟩, ⟨(r2, k2), ⟨g2, g2'⟩, hk2, he2⟩) (by repeat (first | exact Off.refl | apply Off.upd rfl | apply Off.havoc rfl | apply Off.updL rfl | apply Off.left rfl)) (by repeat' (first | exact trivial | refine And.intro rfl ?_)) (by repeat (first | exact List.Perm.refl _ | refine pm0 ?_ | refine pm1 ?_ | refine pm2 ?_ | refine pm3 ?_)) (List.Sublist.refl _) (allR_self _)
    refine qca ?_
    refine WStep_g rfl (gives_alloc tb rfl) rfl rfl ?_
    rintro v L' R' ⟨b5, rfl, rfl, hR5⟩
    replace hR5 := hR5.symm; subst hR5
    refine qa1 ?_
    refine WZ_branch [3, 8, 11] hT2 (List.nil_sublist _) (by kernel_rfl) ?_
    refine WSteps_cons ?_ ?_
    ·
     skip
     refine ybyac ?_
     rintro v L' R' ⟨b21, rfl, rfl, hR21⟩
     replace hR21 := hR21.symm; subst hR21
     refine qa1 ?_
     refine WZ_branch [8, 11] hT2 (List.nil_sublist _) (by kernel_rfl) ?_
     refine WSteps_cons ?_ ?_
     ·
      skip
      refine ybyab ?_
      rintro v L' R' ⟨b26, rfl, rfl, hR26⟩
      replace hR26 := hR26.symm; subst hR26
      refine qa1 ?_
      refine WZ_branch [11] hT2 (List.nil_sublist _) (by kernel_rfl) ?_
      refine qca ?_
      refine ybyad ?_
      rintro v L' R' ⟨b29, rfl, rfl, hR29⟩
      replace hR29 := hR29.symm; subst hR29
      refine qa1 ?_
      refine ybyaa ?_
      refine WZ_endL hT2 (List.nil_sublist _) (by kernel_rfl) rfl ?_
      refine qbg ?_
      refine DJ_nil ?_
      exact joinPK_mk (⟨b21, b26, b29, b5⟩, ⟨(r2, k2), ⟨g2, g2'⟩, hk2, he2⟩) (by repeat (first | exact Off.refl | apply Off.upd rfl | apply Off.havoc rfl | apply Off.updL rfl | apply Off.left rfl)) (by repeat' (first | exact trivial | refine And.intro rfl ?_)) (by repeat (first | exact List.Perm.refl _ | refine pm0 ?_ | refine pm1 ?_ | refine pm2 ?_ | refine pm3 ?_)) (List.Sublist.refl _) (allR_self _)
     refine qca ?_
     refine ybyad ?_
     rintro v L' R' ⟨b29, rfl, rfl, hR29⟩
     replace hR29 := hR29.symm; subst hR29
     refine qa1 ?_
     refine WZ_branch [8] hT2 (List.nil_sublist _) (by kernel_rfl) ?_
     refine qca ?_
     refine ybyab ?_
     rintro v L' R' ⟨b26, rfl, rfl, hR26⟩
     replace hR26 := hR26.symm; subst hR26
     refine qa1 ?_
     refine ybyaa ?_
     refine WZ_endL hT2 (List.nil_sublist _) (by kernel_rfl) rfl ?_
     refine qbg ?_
     refine DJ_nil ?_
     exact joinPK_mk (⟨b21, b26, b29, b5⟩, ⟨(r2, k2), ⟨g2, g2'⟩, hk2, he2⟩) (by repeat (first | exact Off.refl | apply Off.upd rfl | apply Off.havoc rfl | apply Off.updL rfl | apply Off.left rfl)) (by repeat' (first | exact trivial | refine And.intro rfl ?_)) (by repeat (first | exact List.Perm.refl _ | refine pm0 ?_ | refine pm1 ?_ | refine pm2 ?_ | refine pm3 ?_)) (List.Sublist.refl _) (allR_self _)
    refine WSteps_cons ?_ ?_
    ·
     skip
     refine ybyab ?_
     rintro v L' R' ⟨b26, rfl, rfl, hR26⟩
     replace hR26 := hR26.symm; subst hR26
     refine qa1 ?_
     refine WZ_branch [3, 11] hT2 (List.nil_sublist _) (by kernel_rfl) ?_
     refine WSteps_cons ?_ ?_
     ·
      skip
      refine ybyac ?_
      rintro v L' R' ⟨b21, rfl, rfl, hR21⟩
      replace hR21 := hR21.symm; subst hR21
      refine qa1 ?_
      refine WZ_branch [11] hT2 (List.nil_sublist _) (by kernel_rfl) ?_
      refine qca ?_
      refine ybyad ?_
      rintro v L' R' ⟨b29, rfl, rfl, hR29⟩
      replace hR29 := hR29.symm; subst hR29
      refine qa1 ?_
      refine ybyaa ?_
      refine WZ_endL hT2 (List.nil_sublist _) (by kernel_rfl) rfl ?_
      refine qbg ?_
      refine DJ_nil ?_
      exact joinPK_mk (⟨b21, b26, b29, b5⟩, ⟨(r2, k2), ⟨g2, g2'⟩, hk2, he2⟩) (by repeat (first | exact Off.refl | apply Off.upd rfl | apply Off.havoc rfl | apply Off.updL rfl | apply Off.left rfl)) (by repeat' (first | exact trivial | refine And.intro rfl ?_)) (by repeat (first | exact List.Perm.refl _ | refine pm0 ?_ | refine pm1 ?_ | refine pm2 ?_ | refine pm3 ?_)) (List.Sublist.refl _) (allR_self _)
     refine qca ?_
     refine ybyad ?_
     rintro v L' R' ⟨b29, rfl, rfl, hR29⟩
     replace hR29 := hR29.symm; subst hR29
     refine qa1 ?_
     refine WZ_branch [3] hT2 (List.nil_sublist _) (by kernel_rfl) ?_
     refine qca ?_
     refine ybyac ?_
     rintro v L' R' ⟨b21, rfl, rfl, hR21⟩
     replace hR21 := hR21.symm; subst hR21
     refine qa1 ?_
     refine ybyaa ?_
     refine WZ_endL hT2 (List.nil_sublist _) (by kernel_rfl) rfl ?_
     refine qbg ?_
     refine DJ_nil ?_
     exact joinPK_mk (⟨b21, b26, b29, b5⟩, ⟨(r2, k2), ⟨g2, g2'⟩, hk2, he2⟩) (by repeat (first | exact Off.refl | apply Off.upd rfl | apply Off.havoc rfl | apply Off.updL rfl | apply Off.left rfl)) (by repeat' (first | exact trivial | refine And.intro rfl ?_)) (by repeat (first | exact List.Perm.refl _ | refine pm0 ?_ | refine pm1 ?_ | refine pm2 ?_ | refine pm3 ?_)) (List.Sublist.refl _) (allR_self _)
    refine qca ?_
    refine ybyad ?_
    rintro v L' R' ⟨b29, rfl, rfl, hR29⟩
    replace hR29 := hR29.symm; subst hR29
    refine qa1 ?_
    refine WZ_branch [3, 8] hT2 (List.nil_sublist _) (by kernel_rfl) ?_
    refine WSteps_cons ?_ ?_
    ·
     skip
     refine ybyac ?_
     rintro v L' R' ⟨b21, rfl, rfl, hR21⟩
     replace hR21 := hR21.symm; subst hR21
     refine qa1 ?_
     refine WZ_branch [8] hT2 (List.nil_sublist _) (by kernel_rfl) ?_
     refine qca ?_
     refine ybyab ?_
     rintro v L' R' ⟨b26, rfl, rfl, hR26⟩
     replace hR26 := hR26.symm; subst hR26
     refine qa1 ?_
     refine ybyaa ?_
     refine WZ_endL hT2 (List.nil_sublist _) (by kernel_rfl) rfl ?_
     refine qbg ?_
     refine DJ_nil ?_
     exact joinPK_mk (⟨b21, b26, b29, b5⟩, ⟨(r2, k2), ⟨g2, g2'⟩, hk2, he2⟩) (by repeat (first | exact Off.refl | apply Off.upd rfl | apply Off.havoc rfl | apply Off.updL rfl | apply Off.left rfl)) (by repeat' (first | exact trivial | refine And.intro rfl ?_)) (by repeat (first | exact List.Perm.refl _ | refine pm0 ?_ | refine pm1 ?_ | refine pm2 ?_ | refine pm3 ?_)) (List.Sublist.refl _) (allR_self _)
    refine qca ?_
    refine ybyab ?_
    rintro v L' R' ⟨b26, rfl, rfl, hR26⟩
    replace hR26 := hR26.symm; subst hR26
    refine qa1 ?_
    refine WZ_branch [3] hT2 (List.nil_sublist _) (by kernel_rfl) ?_
    refine qca ?_
    refine ybyac ?_
    rintro v L' R' ⟨b21, rfl, rfl, hR21⟩
    replace hR21 := hR21.symm; subst hR21
    refine qa1 ?_
    refine ybyaa ?_
    refine WZ_endL hT2 (List.nil_sublist _) (by kernel_rfl) rfl ?_
    refine qbg ?_
    refine DJ_nil ?_
    exact joinPK_mk (⟨b21, b26, b29, b5⟩, ⟨(r2, k2), ⟨g2, g2'⟩, hk2, he2⟩) (by repeat (first | exact Off.refl | apply Off.upd rfl | apply Off.havoc rfl | apply Off.updL rfl | apply Off.left rfl)) (by repeat' (first | exact trivial | refine And.intro rfl ?_)) (by repeat (first | exact List.Perm.refl _ | refine pm0 ?_ | refine pm1 ?_ | refine pm2 ?_ | refine pm3 ?_)) (List.Sublist.refl _) (allR_self _)
   refine WSteps_cons ?_ ?_
   ·
    skip
    refine ybyad ?_
    rintro v L' R' ⟨b29, rfl, rfl, hR29⟩
    replace hR29 := hR29.symm; subst hR29
    refine qa1 ?_
    refine WZ_branch [3, 5, 13] hT2 (List.nil_sublist _) (by kernel_rfl) ?_
    refine WSteps_cons ?_ ?_
    ·
     skip
     refine ybyac ?_
     rintro v L' R' ⟨b21, rfl, rfl, hR21⟩
     replace hR21 := hR21.symm; subst hR21
     refine qa1 ?_
     refine WZ_branch [5, 13] hT2 (List.nil_sublist _) (by kernel_rfl) ?_
     refine WSteps_cons ?_ ?_
     ·
      skip
      refine ybyae ?_
      rintro v L' R' ⟨r2, k2, rfl, g2, g2', hk2, he2, rfl, rfl⟩
      refine qas ?_
      refine ybyaf ?_
      refine ybyag ?_
      refine WZ_branch [8, 13] hT2 (List.nil_sublist _) (by kernel_rfl) ?_
      refine WSteps_cons ?_ ?_
      ·
       skip
       refine ybyab ?_
       rintro v L' R' ⟨b26, rfl, rfl, hR26⟩
       replace hR26 := hR26.symm; subst hR26
       refine qa1 ?_
       refine ybyaa ?_
       refine WZ_branch [13] hT2 (List.nil_sublist _) (by kernel_rfl) ?_
       refine qca ?_
       refine WStep_g rfl (gives_alloc tb rfl) rfl rfl ?_
       rintro v L' R' ⟨b5, rfl, rfl, hR5⟩
       replace hR5 := hR5.symm; subst hR5
       refine qa1 ?_
       refine WZ_endL hT2 (List.nil_sublist _) (by kernel_rfl) rfl ?_
       refine qbg ?_
       refine DJ_nil ?_
       exact joinPK_mk (⟨b21, b26, b29, b5⟩, ⟨(r2, k2), ⟨g2, g2'⟩, hk2, he2⟩) (by repeat (first | exact Off.refl | apply Off.upd rfl | apply Off.havoc rfl | apply Off.updL rfl | apply Off.left rfl)) (by repeat' (first | exact trivial | refine And.intro rfl ?_)) (by repeat (first | exact List.Perm.refl _ | refine pm0 ?_ | refine pm1 ?_ | refine pm2 ?_ | refine pm3 ?_)) (List.Sublist.refl _) (allR_self _)
      refine qca ?_
      refine WStep_g rfl (gives_alloc tb rfl) rfl rfl ?_
      rintro v L' R' ⟨b5, rfl, rfl, hR5⟩
      replace hR5 := hR5.symm; subst hR5
      refine qa1 ?_
      refine WZ_branch [8] hT2 (List.nil_sublist _) (by kernel_rfl) ?_
      refine qca ?_
      refine ybyab ?_
      rintro v L' R' ⟨b26, rfl, rfl, hR26⟩
      replace hR26 := hR26.symm; subst hR26
      refine qa1 ?_
      refine ybyaa ?_
      refine WZ_endL hT2 (List.nil_sublist _) (by kernel_rfl) rfl ?_
      refine qbg ?_
      refine DJ_nil ?_
      exact joinPK_mk (⟨b21, b26, b29, b5⟩, ⟨(r2, k2), ⟨g2, g2'⟩, hk2, he2⟩) (by repeat (first | exact Off.refl | apply Off.upd rfl | apply Off.havoc rfl | apply Off.updL rfl | apply Off.left rfl)) (by repeat' (first | exact trivial | refine And.intro rfl ?_)) (by repeat (first | exact List.Perm.refl _ | refine pm0 ?_ | refine pm1 ?_ | refine pm2 ?_ | refine pm3 ?_)) (List.Sublist.refl _) (allR_self _)
     refine qca ?_
     refine WStep_g rfl (gives_alloc tb rfl) rfl rfl ?_
     rintro v L' R' ⟨b5, rfl, rfl, hR5⟩
     replace hR5 := hR5.symm; subst hR5
     refine qa1 ?_
     refine WZ_branch [5] hT2 (List.nil_sublist _) (by kernel_rfl) ?_
     refine qca ?_
     refine ybyae ?_
     rintro v L' R' ⟨r2, k2, rfl, g2, g2', hk2, he2, rfl, rfl⟩
     refine qas ?_
     refine ybyaf ?_
     refine ybyag ?_
     refine WZ_branch [8] hT2 (List.nil_sublist _) (by kernel_rfl) ?_
     refine qca ?_
     refine ybyab ?_
     rintro v L' R' ⟨b26, rfl, rfl, hR26⟩
     replace hR26 := hR26.symm; subst hR26
     refine qa1 ?_
     refine ybyaa ?_
     refine WZ_endL hT2 (List.nil_sublist _) (by kernel_rfl) rfl ?_
     refine qbg ?_
     refine DJ_nil ?_
     exact joinPK_mk (⟨b21, b26, b29, b5⟩, ⟨(r2, k2), ⟨g2, g2'⟩, hk2, he2⟩) (by repeat (first | exact Off.refl | apply Off.upd rfl | apply Off.havoc rfl | apply Off.updL rfl | apply Off.left rfl)) (by repeat' (first | exact trivial | refine And.intro rfl ?_)) (by repeat (first | exact List.Perm.refl _ | refine pm0 ?_ | refine pm1 ?_ | refine pm2 ?_ | refine pm3 ?_)) (List.Sublist.refl _) (allR_self _)
    refine WSteps_cons ?_ ?_
    ·
     skip
     refine ybyae ?_
     rintro v L' R' ⟨r2, k2, rfl, g2, g2', hk2, he2, rfl, rfl⟩
     refine qas ?_
     refine ybyaf ?_
     refine ybyag ?_
     refine WZ_branch [3, 8, 13] hT2 (List.nil_sublist _) (by kernel_rfl) ?_
     refine WSteps_cons ?_ ?_
     ·
      skip
      refine ybyac ?_
      rintro v L' R' ⟨b21, rfl, rfl, hR21⟩
      replace hR21 := hR21.symm; subst hR21
      refine qa1 ?_
      refine WZ_branch [8, 13] hT2 (List.nil_sublist _) (by kernel_rfl) ?_
      refine WSteps_cons ?_ ?_
      ·
       skip
       refine ybyab ?_
       rintro v L' R' ⟨b26, rfl, rfl, hR26⟩
       replace hR26 := hR26.symm; subst hR26
       refine qa1 ?_
       refine ybyaa ?_
       refine WZ_branch [13] hT2 (List.nil_sublist _) (by kernel_rfl) ?_
       refine qca ?_
       refine WStep_g rfl (gives_alloc tb rfl) rfl rfl ?_
       rintro v L' R' ⟨b5, rfl, rfl, hR5⟩
       replace hR5 := hR5.symm; subst hR5
       refine qa1 ?_
       refine WZ_endL hT2 (List.nil_sublist _) (by kernel_rfl) rfl ?_
       refine qbg ?_
       refine DJ_nil ?_
       exact joinPK_mk (⟨b21, b26, b29, b5⟩, ⟨(r2, k2), ⟨g2, g2'⟩, hk2, he2⟩) (by repeat (first | exact Off.refl | apply Off.upd rfl | apply Off.havoc rfl | apply Off.updL rfl | apply Off.left rfl)) (by repeat' (first | exact trivial | refine And.intro rfl ?_)) (by repeat (first | exact List.Perm.refl _ | refine pm0 ?_ | refine pm1 ?_ | refine pm2 ?_ | refine pm3 ?_)) (List.Sublist.refl _) (allR_self _)
      refine qca ?_
      refine WStep_g rfl (gives_alloc tb rfl) rfl rfl ?_
      rintro v L' R' ⟨b5, rfl, rfl, hR5⟩
      replace hR5 := hR5.symm; subst hR5
      refine qa1 ?_
      refine WZ_branch [8] hT2 (List.nil_sublist _) (by kernel_rfl) ?_
      refine qca ?_
      refine ybyab ?_
      rintro v L' R' ⟨b26, rfl, rfl, hR26⟩
      replace hR26 := hR26.symm; subst hR26
      refine qa1 ?_
      refine ybyaa ?_
      refine WZ_endL hT2 (List.nil_sublist _) (by kernel_rfl) rfl ?_
      refine qbg ?_
      refine DJ_nil ?_
      exact joinPK_mk (⟨b21, b26, b29, b5⟩, ⟨(r2, k2), ⟨g2, g2'⟩, hk2, he2⟩) (by repeat (first | exact Off.refl | apply Off.upd rfl | apply Off.havoc rfl | apply Off.updL rfl | apply Off.left rfl)) (by repeat' (first | exact trivial | refine And.intro rfl ?_)) (by repeat (first | exact List.Perm.refl _ | refine pm0 ?_ | refine pm1 ?_ | refine pm2 ?_ | refine pm3 ?_)) (List.Sublist.refl _) (allR_self _)
     refine WSteps_cons ?_ ?_
     ·
      skip
      refine ybyab ?_
      rintro v L' R' ⟨b26, rfl, rfl, hR26⟩
      replace hR26 := hR26.symm; subst hR26
      refine qa1 ?_
      refine WZ_branch [3, 13] hT2 (List.nil_sublist _) (by kernel_rfl) ?_
      refine WSteps_cons ?_ ?_
      ·
       skip
       refine ybyac ?_
       rintro v L' R' ⟨b21, rfl, rfl, hR21⟩
       replace hR21 := hR21.symm; subst hR21
       refine qa1 ?_
       refine ybyaa ?_
       refine WZ_branch [13] hT2 (List.nil_sublist _) (by kernel_rfl) ?_
       refine qca ?_
       refine WStep_g rfl (gives_alloc tb rfl) rfl rfl ?_
       rintro v L' R' ⟨b5, rfl, rfl, hR5⟩
       replace hR5 := hR5.symm; subst hR5
       refine qa1 ?_
       refine WZ_endL hT2 (List.nil_sublist _) (by kernel_rfl) rfl ?_
       refine qbg ?_
       refine DJ_nil ?_
       exact joinPK_mk (⟨b21, b26, b29, b5⟩, ⟨(r2, k2), ⟨g2, g2'⟩, hk2, he2⟩) (by repeat (first | exact Off.refl | apply Off.upd rfl | apply Off.havoc rfl | apply Off.updL rfl | apply Off.left rfl)) (by repeat' (first | exact trivial | refine And.intro rfl ?_)) (by repeat (first | exact List.Perm.refl _ | refine pm0 ?_ | refine pm1 ?_ | refine pm2 ?_ | refine pm3 ?_)) (List.Sublist.refl _) (allR_self _)
      refine qca ?_
      refine WStep_g rfl (gives_alloc tb rfl) rfl rfl ?_
      rintro v L' R' ⟨b5, rfl, rfl, hR5⟩
      replace hR5 := hR5.symm; subst hR5
      refine qa1 ?_
      refine WZ_branch [3] hT2 (List.nil_sublist _) (by kernel_rfl) ?_
      refine qca ?_
      refine ybyac ?_
      rintro v L' R' ⟨b21, rfl, rfl, hR21⟩
      replace hR21 := hR21.symm; subst hR21
      refine qa1 ?_
      refine ybyaa ?_
      refine WZ_endL hT2 (List.nil_sublist _) (by kernel_rfl) rfl ?_
      refine qbg ?_
      refine DJ_nil ?_
      exact joinPK_mk (⟨b21, b26, b29, b5⟩, ⟨(r2, k2), ⟨g2, g2'⟩, hk2, he2⟩) (by repeat (first | exact Off.refl | apply Off.upd rfl | apply Off.havoc rfl | apply Off.updL rfl | apply Off.left rfl)) (by repeat' (first | exact trivial | refine And.intro rfl ?_)) (by repeat (first | exact List.Perm.refl _ | refine pm0 ?_ | refine pm1 ?_ | refine pm2 ?_ | refine pm3 ?_)) (List.Sublist.refl _) (allR_self _)
     refine qca ?_
     refine WStep_g rfl (gives_alloc tb rfl) rfl rfl ?_
     rintro v L' R' ⟨b5, rfl, rfl, hR5⟩
     replace hR5 := hR5.symm; subst hR5
     refine qa1 ?_
     refine WZ_branch [3, 8] hT2 (List.nil_sublist _) (by kernel_rfl) ?_
     refine WSteps_cons ?_ ?_
     ·
      skip
      refine ybyac ?_
      rintro v L' R' ⟨b21, rfl, rfl, hR21⟩
      replace hR21 := hR21.symm; subst hR21
      refine qa1 ?_
      refine WZ_branch [8] hT2 (List.nil_sublist _) (by kernel_rfl) ?_
      refine qca ?_
      refine ybyab ?_
      rintro v L' R' ⟨b26, rfl, rfl, hR26⟩
      replace hR26 := hR26.symm; subst hR26
      refine qa1 ?_
      refine ybyaa ?_
      refine WZ_endL hT2 (List.nil_sublist _) (by kernel_rfl) rfl ?_
      refine qbg ?_
      refine DJ_nil ?_
      exact joinPK_mk (⟨b21, b26, b29, b5⟩, ⟨(r2, k2), ⟨g2, g2'⟩, hk2, he2⟩) (by repeat (first | exact Off.refl | apply Off.upd rfl | apply Off.havoc rfl | apply Off.updL rfl | apply Off.left rfl)) (by repeat' (first | exact trivial | refine And.intro rfl ?_)) (by repeat (first | exact List.Perm.refl _ | refine pm0 ?_ | refine pm1 ?_ | refine pm2 ?_ | refine pm3 ?_)) (List.Sublist.refl _) (allR_self _)
     refine qca ?_
     refine ybyab ?_
     rintro v L' R' ⟨b26, rfl, rfl, hR26⟩
     replace hR26 := hR26.symm; subst hR26
     refine qa1 ?_
     refine WZ_branch [3] hT2 (List.nil_sublist _) (by kernel_rfl) ?_
     refine qca ?_
     refine ybyac ?_
     rintro v L' R' ⟨b21, rfl, rfl, hR21⟩
     replace hR21 := hR21.symm; subst hR21
     refine qa1 ?_
     refine ybyaa ?_
     refine WZ_endL hT2 (List.nil_sublist _) (by kernel_rfl) rfl ?_
     refine qbg ?_
     refine DJ_nil ?_
     exact joinPK_mk (⟨b21, b26, b29, b5⟩, ⟨(r2, k2), ⟨g2, g2'⟩, hk2, he2⟩) (by repeat (first | exact Off.refl | apply Off.upd rfl | apply Off.havoc rfl | apply Off.updL rfl | apply Off.left rfl)) (by repeat' (first | exact trivial | refine And.intro rfl ?_)) (by repeat (first | exact List.Perm.refl _ | refine pm0 ?_ | refine pm1 ?_ | refine pm2 ?_ | refine pm3 ?_)) (List.Sublist.refl _) (allR_self _)
    refine qca ?_
    refine WStep_g rfl (gives_alloc tb rfl) rfl rfl ?_
    rintro v L' R' ⟨b5, rfl, rfl, hR5⟩
    replace hR5 := hR5.symm; subst hR5
    refine qa1 ?_
    refine WZ_branch [3, 5] hT2 (List.nil_sublist _) (by kernel_rfl) ?_
    refine WSteps_cons ?_ ?_
    ·
     skip
     refine ybyac ?_
     rintro v L' R' ⟨b21, rfl, rfl, hR21⟩
     replace hR21 := hR21.symm; subst hR21
     refine qa1 ?_
     refine WZ_branch [5] hT2 (List.nil_sublist _) (by kernel_rfl) ?_
     refine qca ?_
     refine ybyae ?_
     rintro v L' R' ⟨r2, k2, rfl, g2, g2', hk2, he2, rfl, rfl⟩
     refine qas ?_
     refine ybyaf ?_
     refine ybyag ?_
     refine WZ_branch [8] hT2 (List.nil_sublist _) (by kernel_rfl) ?_
     refine qca ?_
     refine ybyab ?_
     rintro v L' R' ⟨b26, rfl, rfl, hR26⟩
     replace hR26 := hR26.symm; subst hR26
     refine qa1 ?_
     refine ybyaa ?_
     refine WZ_endL hT2 (List.nil_sublist _) (by kernel_rfl) rfl ?_
     refine qbg ?_
     refine DJ_nil ?_
     exact joinPK_mk (⟨b21, b26, b29, b5⟩, ⟨(r2, k2), ⟨g2, g2'⟩, hk2, he2⟩) (by repeat (first | exact Off.refl | apply Off.upd rfl | apply Off.havoc rfl | apply Off.updL rfl | apply Off.left rfl)) (by repeat' (first | exact trivial | refine And.intro rfl ?_)) (by repeat (first | exact List.Perm.refl _ | refine pm0 ?_ | refine pm1 ?_ | refine pm2 ?_ | refine pm3 ?_)) (List.Sublist.refl _) (allR_self _)
    refine qca ?_
    refine ybyae ?_
    rintro v L' R' ⟨r2, k2, rfl, g2, g2', hk2, he2, rfl, rfl⟩
    refine qas ?_
    refine ybyaf ?_
    refine ybyag ?_
    refine WZ_branch [3, 8] hT2 (List.nil_sublist _) (by kernel_rfl) ?_
    refine WSteps_cons ?_ ?_
    ·
     skip
     refine ybyac ?_
     rintro v L' R' ⟨b21, rfl, rfl, hR21⟩
     replace hR21 := hR21.symm; subst hR21
     refine qa1 ?_
     refine WZ_branch [8] hT2 (List.nil_sublist _) (by kernel_rfl) ?_
     refine qca ?_
     refine ybyab ?_
     rintro v L' R' ⟨b26, rfl, rfl, hR26⟩
     replace hR26 := hR26.symm; subst hR26
     refine qa1 ?_
     refine ybyaa ?_
     refine WZ_endL hT2 (List.nil_sublist _) (by kernel_rfl) rfl ?_
     refine qbg ?_
     refine DJ_nil ?_
     exact joinPK_mk (⟨b21, b26, b29, b5⟩, ⟨(r2, k2), ⟨g2, g2'⟩, hk2, he2⟩) (by repeat (first | exact Off.refl | apply Off.upd rfl | apply Off.havoc rfl | apply Off.updL rfl | apply Off.left rfl)) (by repeat' (first | exact trivial | refine And.intro rfl ?_)) (by repeat (first | exact List.Perm.refl _ | refine pm0 ?_ | refine pm1 ?_ | refine pm2 ?_ | refine pm3 ?_)) (List.Sublist.refl _) (allR_self _)
    refine qca ?_
    refine ybyab ?_
    rintro v L' R' ⟨b26, rfl, rfl, hR26⟩
    replace hR26 := hR26.symm; subst hR26
    refine qa1 ?_
    refine WZ_branch [3] hT2 (List.nil_sublist _) (by kernel_rfl) ?_
    refine qca ?_
    refine ybyac ?_
    rintro v L' R' ⟨b21, rfl, rfl, hR21⟩
    replace hR21 := hR21.symm; subst hR21
    refine qa1 ?_
    refine ybyaa ?_
    refine WZ_endL hT2 (List.nil_sublist _) (by kernel_rfl) rfl ?_
    refine qbg ?_
    refine DJ_nil ?_
    exact joinPK_mk (⟨b21, b26, b29, b5⟩, ⟨(r2, k2), ⟨g2, g2'⟩, hk2, he2⟩) (by repeat (first | exact Off.refl | apply Off.upd rfl | apply Off.havoc rfl | apply Off.updL rfl | apply Off.left rfl)) (by repeat' (first | exact trivial | refine And.intro rfl ?_)) (by repeat (first | exact List.Perm.refl _ | refine pm0 ?_ | refine pm1 ?_ | refine pm2 ?_ | refine pm3 ?_)) (List.Sublist.refl _) (allR_self _)
   refine qca ?_
   refine WStep_g rfl (gives_alloc tb rfl) rfl rfl ?_
   rintro v L' R' ⟨b5, rfl, rfl, hR5⟩
   replace hR5 := hR5.symm; subst hR5
   refine qa1 ?_
   refine WZ_branch [3, 5, 11] hT2 (List.nil_sublist _) (by kernel_rfl) ?_
   refine WSteps_cons ?_ ?_
   ·
    skip
    refine ybyac ?_
    rintro v L' R' ⟨b21, rfl, rfl, hR21⟩
    replace hR21 := hR21.symm; subst hR21
    refine qa1 ?_
    refine WZ_branch [5, 11] hT2 (List.nil_sublist _) (by kernel_rfl) ?_
    refine WSteps_cons ?_ ?_
    ·
     skip
     refine ybyae ?_
     rintro v L' R' ⟨r2, k2, rfl, g2, g2', hk2, he2, rfl, rfl⟩
     refine qas ?_
     refine ybyaf ?_
     refine ybyag ?_
     refine WZ_branch [8, 11] hT2 (List.nil_sublist _) (by kernel_rfl) ?_
     refine WSteps_cons ?_ ?_
     ·
      skip
      refine ybyab ?_
      rintro v L' R' ⟨b26, rfl, rfl, hR26⟩
      replace hR26 := hR26.symm; subst hR26
      refine qa1 ?_
      refine WZ_branch [11] hT2 (List.nil_sublist _) (by kernel_rfl) ?_
      refine qca ?_
      refine ybyad ?_
      rintro v L' R' ⟨b29, rfl, rfl, hR29⟩
      replace hR29 := hR29.symm; subst hR29
      refine qa1 ?_
      refine ybyaa ?_
      refine WZ_endL hT2 (List.nil_sublist _) (by kernel_rfl) rfl ?_
      refine qbg ?_
      refine DJ_nil ?_
      exact joinPK_mk (⟨b21, b26, b29, b5⟩, ⟨(r2, k2), ⟨g2, g2'⟩, hk2, he2⟩) (by repeat (first | exact Off.refl | apply Off.upd rfl | apply Off.havoc rfl | apply Off.updL rfl | apply Off.left rfl)) (by repeat' (first | exact trivial | refine And.intro rfl ?_)) (by repeat (first | exact List.Perm.refl _ | refine pm0 ?_ | refine pm1 ?_ | refine pm2 ?_ | refine pm3 ?_)) (List.Sublist.refl _) (allR_self _)
     refine qca ?_
     refine ybyad ?_
     rintro v L' R' ⟨b29, rfl, rfl, hR29⟩
     replace hR29 := hR29.symm; subst hR29
     refine qa1 ?_
     refine WZ_branch [8] hT2 (List.nil_sublist _) (by kernel_rfl) ?_
     refine qca ?_
     refine ybyab ?_
     rintro v L' R' ⟨b26, rfl, rfl, hR26⟩
     replace hR26 := hR26.symm; subst hR26
     refine qa1 ?_
     refine ybyaa ?_
     refine WZ_endL hT2 (List.nil_sublist _) (by kernel_rfl) rfl ?_
     refine qbg ?_
     refine DJ_nil ?_
     exact joinPK_mk (⟨b21, b26, b29, b5⟩, ⟨(r2, k2), ⟨g2, g2'⟩, hk2, he2⟩) (by repeat (first | exact Off.refl | apply Off.upd rfl | apply Off.havoc rfl | apply Off.updL rfl | apply Off.left rfl)) (by repeat' (first | exact trivial | refine And.intro rfl ?_)) (by repeat (first | exact List.Perm.refl _ | refine pm0 ?_ | refine pm1 ?_ | refine pm2 ?_ | refine pm3 ?_)) (List.Sublist.refl _) (allR_self _)
    refine qca ?_
    refine ybyad ?_
    rintro v L' R' ⟨b29, rfl, rfl, hR29⟩
    replace hR29 := hR29.symm; subst hR29
    refine qa1 ?_
    refine WZ_branch [5] hT2 (List.nil_sublist _) (by kernel_rfl) ?_
    refine qca ?_
    refine ybyae ?_
    rintro v L' R' ⟨r2, k2, rfl, g2, g2', hk2, he2, rfl, rfl⟩
    refine qas ?_
    refine ybyaf ?_
    refine ybyag ?_
    refine WZ_branch [8] hT2 (List.nil_sublist _) (by kernel_rfl) ?_
    refine qca ?_
    refine ybyab ?_
    rintro v L' R' ⟨b26, rfl, rfl, hR26⟩
    replace hR26 := hR26.symm; subst hR26
    refine qa1 ?_
    refine ybyaa ?_
    refine WZ_endL hT2 (List.nil_sublist _) (by kernel_rfl) rfl ?_
    refine qbg ?_
    refine DJ_nil ?_
    exact joinPK_mk (⟨b21, b26, b29, b5⟩, ⟨(r2, k2), ⟨g2, g2'⟩, hk2, he2⟩) (by repeat (first | exact Off.refl | apply Off.upd rfl | apply Off.havoc rfl | apply Off.updL rfl | apply Off.left rfl)) (by repeat' (first | exact trivial | refine And.intro rfl ?_)) (by repeat (first | exact List.Perm.refl _ | refine pm0 ?_ | refine pm1 ?_ | refine pm2 ?_ | refine pm3 ?_)) (List.Sublist.refl _) (allR_self _)
   refine WSteps_cons ?_ ?_
   ·
    skip
    refine ybyae ?_
    rintro v L' R' ⟨r2, k2, rfl, g2, g2', hk2, he2, rfl, rfl⟩
    refine qas ?_
    refine ybyaf ?_
    refine ybyag ?_
    refine WZ_branch [3, 8, 11] hT2 (List.nil_sublist _) (by kernel_rfl) ?_
    refine WSteps_cons ?_ ?_
    ·
     skip
     refine ybyac ?_
     rintro v L' R' ⟨b21, rfl, rfl, hR21⟩
     replace hR21 := hR21.symm; subst hR21
     refine qa1 ?_
     refine WZ_branch [8, 11] hT2 (List.nil_sublist _) (by kernel_rfl) ?_
     refine WSteps_cons ?_ ?_
     ·
      skip
      refine ybyab ?_
      rintro v L' R' ⟨b26, rfl, rfl, hR26⟩
      replace hR26 := hR26.symm; subst hR26
      refine qa1 ?_
      refine WZ_branch [11] hT2 (List.nil_sublist _) (by kernel_rfl) ?_
      refine qca ?_
      refine ybyad ?_
      rintro v L' R' ⟨b29, rfl, rfl, hR29⟩
      replace hR29 := hR29.symm; subst hR29
      refine qa1 ?_
      refine ybyaa ?_
      refine WZ_endL hT2 (List.nil_sublist _) (by kernel_rfl) rfl ?_
      refine qbg ?_
      refine DJ_nil ?_
      exact joinPK_mk (⟨b21, b26, b29, b5⟩, ⟨(r2, k2), ⟨g2, g2'⟩, hk2, he2⟩) (by repeat (first | exact Off.refl | apply Off.upd rfl | apply Off.havoc rfl | apply Off.updL rfl | apply Off.left rfl)) (by repeat' (first | exact trivial | refine And.intro rfl ?_)) (by repeat (first | exact List.Perm.refl _ | refine pm0 ?_ | refine pm1 ?_ | refine pm2 ?_ | refine pm3 ?_)) (List.Sublist.refl _) (allR_self _)
     refine qca ?_
     refine ybyad ?_
     rintro v L' R' ⟨b29, rfl, rfl, hR29⟩
     replace hR29 := hR29.symm; subst hR29
     refine qa1 ?_
     refine WZ_branch [8] hT2 (List.nil_sublist _) (by kernel_rfl) ?_
     refine qca ?_
     refine ybyab ?_
     rintro v L' R' ⟨b26, rfl, rfl, hR26⟩
     replace hR26 := hR26.symm; subst hR26
     refine qa1 ?_
     refine ybyaa ?_
     refine WZ_endL hT2 (List.nil_sublist _) (by kernel_rfl) rfl ?_
     refine qbg ?_
     refine DJ_nil ?_
     exact joinPK_mk (⟨b21, b26, b29, b5⟩, ⟨(r2, k2), ⟨g2, g2'⟩, hk2, he2⟩) (by repeat (first | exact Off.refl | apply Off.upd rfl | apply Off.havoc rfl | apply Off.updL rfl | apply Off.left rfl)) (by repeat' (first | exact trivial | refine And.intro rfl ?_)) (by repeat (first | exact List.Perm.refl _ | refine pm0 ?_ | refine pm1 ?_ | refine pm2 ?_ | refine pm3 ?_)) (List.Sublist.refl _) (allR_self _)
    refine WSteps_cons ?_ ?_
    ·
     skip
     refine ybyab ?_
     rintro v L' R' ⟨b26, rfl, rfl, hR26⟩
     replace hR26 := hR26.symm; subst hR26
     refine qa1 ?_
     refine WZ_branch [3, 11] hT2 (List.nil_sublist _) (by kernel_rfl) ?_
     refine WSteps_cons ?_ ?_
     ·
      skip
      refine ybyac ?_
      rintro v L' R' ⟨b21, rfl, rfl, hR21⟩
      replace hR21 := hR21.symm; subst hR21
      refine qa1 ?_
      refine WZ_branch [11] hT2 (List.nil_sublist _) (by kernel_rfl) ?_
      refine qca ?_
      refine ybyad ?_
      rintro v L' R' ⟨b29, rfl, rfl, hR29⟩
      replace hR29 := hR29.symm; subst hR29
      refine qa1 ?_
      refine ybyaa ?_
      refine WZ_endL hT2 (List.nil_sublist _) (by kernel_rfl) rfl ?_
      refine qbg ?_
      refine DJ_nil ?_
      exact joinPK_mk (⟨b21, b26, b29, b5⟩, ⟨(r2, k2), ⟨g2, g2'⟩, hk2, he2⟩) (by repeat (first | exact Off.refl | apply Off.upd rfl | apply Off.havoc rfl | apply Off.updL rfl | apply Off.left rfl)) (by repeat' (first | exact trivial | refine And.intro rfl ?_)) (by repeat (first | exact List.Perm.refl _ | refine pm0 ?_ | refine pm1 ?_ | refine pm2 ?_ | refine pm3 ?_)) (List.Sublist.refl _) (allR_self _)
     refine qca ?_
     refine ybyad ?_
     rintro v L' R' ⟨b29, rfl, rfl, hR29⟩
     replace hR29 := hR29.symm; subst hR29
     refine qa1 ?_
     refine WZ_branch [3] hT2 (List.nil_sublist _) (by kernel_rfl) ?_
     refine qca ?_
     refine ybyac ?_
     rintro v L' R' ⟨b21, rfl, rfl, hR21⟩
     replace hR21 := hR21.symm; subst hR21
     refine qa1 ?_
     refine ybyaa ?_
     refine WZ_endL hT2 (List.nil_sublist _) (by kernel_rfl) rfl ?_
     refine qbg ?_
     refine DJ_nil ?_
     exact joinPK_mk (⟨b21, b26, b29, b5⟩, ⟨(r2, k2), ⟨g2, g2'⟩, hk2, he2⟩) (by repeat (first | exact Off.refl | apply Off.upd rfl | apply Off.havoc rfl | apply Off.updL rfl | apply Off.left rfl)) (by repeat' (first | exact trivial | refine And.intro rfl ?_)) (by repeat (first | exact List.Perm.refl _ | refine pm0 ?_ | refine pm1 ?_ | refine pm2 ?_ | refine pm3 ?_)) (List.Sublist.refl _) (allR_self _)
    refine qca ?_
    refine ybyad ?_
    rintro v L' R' ⟨b29, rfl, rfl, hR29⟩
    replace hR29 := hR29.symm; subst hR29
    refine qa1 ?_
    refine WZ_branch [3, 8] hT2 (List.nil_sublist _) (by kernel_rfl) ?_
    refine WSteps_cons ?_ ?_
    ·
     skip
     refine ybyac ?_
     rintro v L' R' ⟨b21, rfl, rfl, hR21⟩
     replace hR21 := hR21.symm; subst hR21
     refine qa1 ?_
     refine WZ_branch [8] hT2 (List.nil_sublist _) (by kernel_rfl) ?_
     refine qca ?_
     refine ybyab ?_
     rintro v L' R' ⟨b26, rfl, rfl, hR26⟩
     replace hR26 := hR26.symm; subst hR26
     refine qa1 ?_
     refine ybyaa ?_
     refine WZ_endL hT2 (List.nil_sublist _) (by kernel_rfl) rfl ?_
     refine qbg ?_
     refine DJ_nil ?_
     exact joinPK_mk (⟨b21, b26, b29, b5⟩, ⟨(r2, k2), ⟨g2, g2'⟩, hk2, he2⟩) (by repeat (first | exact Off.refl | apply Off.upd rfl | apply Off.havoc rfl | apply Off.updL rfl | apply Off.left rfl)) (by repeat' (first | exact trivial | refine And.intro rfl ?_)) (by repeat (first | exact List.Perm.refl _ | refine pm0 ?_ | refine pm1 ?_ | refine pm2 ?_ | refine pm3 ?_)) (List.Sublist.refl _) (allR_self _)
    refine qca ?_
    refine ybyab ?_
    rintro v L' R' ⟨b26, rfl, rfl, hR26⟩
    replace hR26 := hR26.symm; subst hR26
    refine qa1 ?_
    refine WZ_branch [3] hT2 (List.nil_sublist _) (by kernel_rfl) ?_
    refine qca ?_
    refine ybyac ?_
    rintro v L' R' ⟨b21, rfl, rfl, hR21⟩
    replace hR21 := hR21.symm; subst hR21
    refine qa1 ?_
    refine ybyaa ?_
    refine WZ_endL hT2 (List.nil_sublist _) (by kernel_rfl) rfl ?_
    refine qbg ?_
    refine DJ_nil ?_
    exact joinPK_mk (⟨b21, b26, b29, b5⟩, ⟨(r2, k2), ⟨g2, g2'⟩, hk2, he2⟩) (by repeat (first | exact Off.refl | apply Off.upd rfl | apply Off.havoc rfl | apply Off.updL rfl | apply Off.left rfl)) (by repeat' (first | exact trivial | refine And.intro rfl ?_)) (by repeat (first | exact List.Perm.refl _ | refine pm0 ?_ | refine pm1 ?_ | refine pm2 ?_ | refine pm3 ?_)) (List.Sublist.refl _) (allR_self _)
   refine qca ?_
   refine ybyad ?_
   rintro v L' R' ⟨b29, rfl, rfl, hR29⟩
   replace hR29 := hR29.symm; subst hR29
   refine qa1 ?_
   refine WZ_branch [3, 5] hT2 (List.nil_sublist _) (by kernel_rfl) ?_
   refine WSteps_cons ?_ ?_
   ·
    skip
    refine ybyac ?_
    rintro v L' R' ⟨b21, rfl, rfl, hR21⟩
    replace hR21 := hR21.symm; subst hR21
    refine qa1 ?_
    refine WZ_branch [5] hT2 (List.nil_sublist _) (by kernel_rfl) ?_
    refine qca ?_
    refine ybyae ?_
    rintro v L' R' ⟨r2, k2, rfl, g2, g2', hk2, he2, rfl, rfl⟩
    refine qas ?_
    refine ybyaf ?_
    refine ybyag ?_
    refine WZ_branch [8] hT2 (List.nil_sublist _) (by kernel_rfl) ?_
    refine qca ?_
    refine ybyab ?_
    rintro v L' R' ⟨b26, rfl, rfl, hR26⟩
    replace hR26 := hR26.symm; subst hR26
    refine qa1 ?_
    refine ybyaa ?_
    refine WZ_endL hT2 (List.nil_sublist _) (by kernel_rfl) rfl ?_
    refine qbg ?_
    refine DJ_nil ?_
    exact joinPK_mk (⟨b21, b26, b29, b5⟩, ⟨(r2, k2), ⟨g2, g2'⟩, hk2, he2⟩) (by repeat (first | exact Off.refl | apply Off.upd rfl | apply Off.havoc rfl | apply Off.updL rfl | apply Off.left rfl)) (by repeat' (first | exact trivial | refine And.intro rfl ?_)) (by repeat (first | exact List.Perm.refl _ | refine pm0 ?_ | refine pm1 ?_ | refine pm2 ?_ | refine pm3 ?_)) (List.Sublist.refl _) (allR_self _)
   refine qca ?_
   refine ybyae ?_
   rintro v L' R' ⟨r2, k2, rfl, g2, g2', hk2, he2, rfl, rfl⟩
   refine qas ?_
   refine ybyaf ?_
   refine ybyag ?_
   refine WZ_branch [3, 8] hT2 (List.nil_sublist _) (by kernel_rfl) ?_
   refine WSteps_cons ?_ ?_
   ·
    skip
    refine ybyac ?_
    rintro v L' R' ⟨b21, rfl, rfl, hR21⟩
    replace hR21 := hR21.symm; subst hR21
    refine qa1 ?_
    refine WZ_branch [8] hT2 (List.nil_sublist _) (by kernel_rfl) ?_
    refine qca ?_
    refine ybyab ?_
    rintro v L' R' ⟨b26, rfl, rfl, hR26⟩
    replace hR26 := hR26.symm; subst hR26
    refine qa1 ?_
    refine ybyaa ?_
    refine WZ_endL hT2 (List.nil_sublist _) (by kernel_rfl) rfl ?_
    refine qbg ?_
    refine DJ_nil ?_
    exact joinPK_mk (⟨b21, b26, b29, b5⟩, ⟨(r2, k2), ⟨g2, g2'⟩, hk2, he2⟩) (by repeat (first | exact Off.refl | apply Off.upd rfl | apply Off.havoc rfl | apply Off.updL rfl | apply Off.left rfl)) (by repeat' (first | exact trivial | refine And.intro rfl ?_)) (by repeat (first | exact List.Perm.refl _ | refine pm0 ?_ | refine pm1 ?_ | refine pm2 ?_ | refine pm3 ?_)) (List.Sublist.refl _) (allR_self _)
   refine qca ?_
   refine ybyab ?_
   rintro v L' R' ⟨b26, rfl, rfl, hR26⟩
   replace hR26 := hR26.symm; subst hR26
   refine qa1 ?_
   refine WZ_branch [3] hT2 (List.nil_sublist _) (by kernel_rfl) ?_
   refine qca ?_
   refine ybyac ?_
   rintro v L' R' ⟨b21, rfl, rfl, hR21⟩
   replace hR21 := hR21.symm; subst hR21
   refine qa1 ?_
   refine ybyaa ?_
   refine WZ_endL hT2 (List.nil_sublist _) (by kernel_rfl) rfl ?_
   refine qbg ?_
   refine DJ_nil ?_
   exact joinPK_mk (⟨b21, b26, b29, b5⟩, ⟨(r2, k2), ⟨g2, g2'⟩, hk2, he2⟩) (by repeat (first | exact Off.refl | apply Off.upd rfl | apply Off.havoc rfl | apply Off.updL rfl | apply Off.left rfl)) (by repeat' (first | exact trivial | refine And.intro rfl ?_)) (by repeat (first | exact List.Perm.refl _ | refine pm0 ?_ | refine pm1 ?_ | refine pm2 ?_ | refine pm3 ?_)) (List.Sublist.refl _) (allR_self _)
  rintro ⟨⟨b21, b26, b29, b5⟩, ⟨⟨r2, k2⟩, ⟨g2, g2'⟩, hk2, he2⟩⟩ junk
  try dsimp only
  dsimp only at g2 g2' hk2 he2
  refine CJ_frzB (A := [_]) (wd := 1) (len := 2) (cap := 2) (rows := [icell 1, icell 2]) (subs := []) rfl (by decide) (by decide) (fun r hr => by simp only [List.mem_cons, List.not_mem_nil, or_false] at hr; rcases hr with rfl | rfl <;> rfl) (by decide) rfl (fun s hs => by cases hs) ?_
  refine qb1 ?_
  refine CJ_frzB (A := [_]) (wd := 6) (len := 1) (cap := 1) (rows := [XCond.cells (easyCond r2)]) (subs := []) rfl (by decide) (by decide) (fun r hr => by rw [List.mem_singleton.1 hr]; rfl) (by decide) rfl (fun s hs => by cases hs) ?_
  refine qb1 ?_
  refine CJ_frzB (A := [_]) (wd := 8) (len := 1) (cap := 1) (rows := [XSens.cells easySens]) (subs := []) rfl (by decide) (by decide) (fun r hr => by rw [List.mem_singleton.1 hr]; rfl) (by decide) rfl (fun s hs => by cases hs) ?_
  refine qb1 ?_
  obtain ⟨se, hse⟩ : ∃ se : Arr XSens, se = ⟨some ⟨b21, 0, none⟩, 1, [easySens]⟩ := ⟨_, rfl⟩
  obtain ⟨cn, hcn⟩ : ∃ cn : Arr XCond, cn = ⟨some ⟨b26, 0, none⟩, 1, [easyCond r2]⟩ := ⟨_, rfl⟩
  obtain ⟨ps, hps⟩ : ∃ ps : Arr Int, ps = ⟨some ⟨b29, 0, none⟩, 2, [1, 2]⟩ := ⟨_, rfl⟩
  obtain ⟨R2, hR2e⟩ : ∃ R2, R2 = sesl se :: cnsl cn :: isl ps :: R1 := ⟨_, rfl⟩
  have hR2 : ∀ r ∈ R1, InR r R2 := fun r hr => inR_self (by rw [hR2e]; exact .tail _ (.tail _ (.tail _ hr)))
  have hseR : InR (sesl se) R2 := inR_self (by rw [hR2e]; exact .head _)
  have hcnR : InR (cnsl cn) R2 := inR_self (by rw [hR2e]; exact .tail _ (.head _))
  have hpsR : InR (isl ps) R2 := inR_self (by rw [hR2e]; exact .tail _ (.tail _ (.head _)))
  have hx2 := hx1.mono hR2
  refine CJ_R (show _ = R2 by rw [hR2e, hse, hcn, hps]; rfl) ?_
  refine qae ?_
  refine LJ_q (yv_build (qs := [(0, (Value.int _ _).cells.toList)]) (out := [_, _, _, _]) tb rfl rfl rfl rfl) rfl ?_
  refine ybyah ?_
  rintro v L' R' ⟨b32, rfl, rfl, hR32⟩
  replace hR32 := hR32.symm; subst hR32
  refine LJ_frz (wd := 4) (len := 1) (cap := 1) (rows := [XNode.cells ⟨1, 0, 0, 0⟩]) (subs := []) rfl (by decide) (by decide) (fun r hr => by rw [List.mem_singleton.1 hr]; rfl) (by decide) rfl (fun s hs => by cases hs) ?_
  refine qa6 ?_
  refine LJ_call rfl (range12 (by repeat (first | apply USeg.here | apply USeg.cons | apply USeg.app)) (hx2.mono fun r h => inR_self (.tail _ h)) hk2 (by omega)) rfl ?_
  rintro v L' R' ⟨r3, k3, rfl, g3, g3', hk3, he3, rfl, rfl⟩
  refine qcx ?_
  rintro v L' R' ⟨b35, rfl, rfl, hR35⟩
  replace hR35 := hR35.symm; subst hR35
  refine LJ_frz (wd := 1) (len := 1) (cap := 1) (rows := [icell 0]) (subs := []) rfl (by decide) (by decide) (fun r hr => by rw [List.mem_singleton.1 hr]; rfl) (by decide) rfl (fun s hs => by cases hs) ?_
  refine LJ_q (yv_build (qs := [(0, (Value.slice _ _ _).cells.toList), (1, (Value.int _ _).cells.toList), (2, (Value.slice _ _ _).cells.toList), (3, (Value.int _ _).cells.toList)]) (out := [_, _, _, _]) tb rfl rfl rfl rfl) rfl ?_
  refine ybyah ?_
  rintro v L' R' ⟨b37, rfl, rfl, hR37⟩
  replace hR37 := hR37.symm; subst hR37
  refine LJ_frz (wd := 4) (len := 1) (cap := 1) (rows := [XZone.cells ⟨⟨some ⟨b32, 0, none⟩, 1, [⟨1, 0, 0, 0⟩]⟩, r3, ⟨some ⟨b35, 0, none⟩, 1, [0]⟩, 1⟩]) (subs := XZone.subs ⟨⟨some ⟨b32, 0, none⟩, 1, [⟨1, 0, 0, 0⟩]⟩, r3, ⟨some ⟨b35, 0, none⟩, 1, [0]⟩, 1⟩) rfl (by decide) (by decide) (fun r hr => by rw [List.mem_singleton.1 hr]; rfl) (by decide) rfl (fun s hs => by simp only [List.mem_cons, List.not_mem_nil, or_false] at hs; rcases hs with rfl | rfl; exact inR_self (.tail _ (.head _)); exact inR_self (.head _)) ?_
  refine qab ?_
  refine qcy ?_
  refine qa4 ?_
  obtain ⟨zn, hzn⟩ : ∃ zn : XZone, zn = ⟨⟨some ⟨b32, 0, none⟩, 1, [⟨1, 0, 0, 0⟩]⟩, r3, ⟨some ⟨b35, 0, none⟩, 1, [0]⟩, 1⟩ := ⟨_, rfl⟩
  obtain ⟨zs, hzs⟩ : ∃ zs : Arr XZone, zs = ⟨some ⟨b37, 0, none⟩, 1, [zn]⟩ := ⟨_, rfl⟩
  obtain ⟨R3, hR3e⟩ : ∃ R3, R3 = zosl zs :: isl zn.roads :: ndsl zn.rule :: R2 := ⟨_, rfl⟩
  have hR3 : ∀ r ∈ R2, InR r R3 := fun r hr => inR_self (by rw [hR3e]; exact .tail _ (.tail _ (.tail _ hr)))
  have hzsR : InR (zosl zs) R3 := inR_self (by rw [hR3e]; exact .head _)
  have hx3 := hx2.mono hR3
  refine CJ_R (show _ = R3 by rw [hR3e, hzs, hzn]; rfl) ?_
  refine qay ?_
  refine qcx ?_
  rintro v L' R' ⟨b39, rfl, rfl, hR39⟩
  replace hR39 := hR39.symm; subst hR39
  refine ybyai ?_
  refine ybyaj ?_
  rintro v L' R' ⟨b41, rfl, rfl, hR41⟩
  replace hR41 := hR41.symm; subst hR41
  refine LJ_q (yv_build (qs := [(2, (Value.int _ _).cells.toList), (1, (Value.slice _ _ _).cells.toList), (0, (Value.slice _ _ _).cells.toList)]) (out := [_, _, _]) tb rfl rfl rfl rfl) rfl ?_
  refine qaq ?_
  intro b6
  refine qak ?_
  refine qaw ?_
  refine qa6 ?_
  refine LJ_call rfl (next12 (by repeat (first | apply USeg.here | apply USeg.cons | apply USeg.app)) hx3 hk3 (by omega)) rfl ?_
  rintro v L' R' ⟨n0, k4, rfl, g4, g4', g4'', hk4, he4, rfl, rfl⟩
  have g4q := g4' (by omega)
  refine qad ?_
  refine qa2 ?_
  refine CJ_forget [(2, Value.pointer _), (3, Value.pointer _), (5, Value.pointer _), (6, Value.pointer _), (7, Value.int _ _)] (by repeat' (first | exact trivial | refine And.intro rfl ?_)) fun tq0 => ?_
  refine CJ_loop [7, 45, 46, 47, 48, 49, 50, 51, 52, 53, 54, 55, 56, 57, 58, 59, 60, 61, 62, 63, 64, 65] ((⟨fun g => [(7, .int .i64 g.1.1)], fun g => ⟨b6, [g.1.2.1.val, .slice (some ⟨b39, 0, none⟩) 1 1, .int .i64 3], 71⟩ :: (g.1.2.1.L 98 XSwitch.cells ++ ((⟨.own b39 1 [], g.1.2.2⟩ : OwL Int).L 3 icell ++ (⟨b5, [.slice (some ⟨b10, 0, none⟩) 2 2, .slice (some ⟨b16, 0, none⟩) 1 1, .slice none 0 0, .slice none 0 0, .slice (some ⟨b21, 0, none⟩) 1 1, .slice (some ⟨b26, 0, none⟩) 1 1, .slice (some ⟨b37, 0, none⟩) 1 1, .slice (some ⟨b29, 0, none⟩) 2 2], 36⟩ :: ⟨b4, [.slice (some ⟨b10, 0, none⟩) 2 2, .slice (some ⟨b16, 0, none⟩) 1 1], 26⟩ :: ⟨b3, [.slice none 0 0, .slice none 0 0, .int .i64 0], 71⟩ :: ⟨b2, [.slice none 0 0, .slice none 0 0, .slice none 0 0, .slice none 0 0, .slice none 0 0, .slice none 0 0, .slice none 0 0, .slice none 0 0], 36⟩ :: cblk c x k4 :: []))), fun _ => R3, fun g => g.1.1.toNat⟩ : Head {g : Int × OwL XSwitch × List Int // (0 ≤ g.1 ∧ (g.2.1.l.length : Int) + g.1 = 1 + n0 ∧ 1 ≤ g.2.1.l.length) ∧ g.2.1.ok 5 XSwitch.cells ∧ g.2.1.l = chainS g.2.1.l.length ∧ g.2.2 = [(g.2.1.l.length : Int) - 1]})) (⟨(n0, (⟨.own b41 1 [], [⟨-1, 0, 0, true, false⟩]⟩ : OwL XSwitch), [0]), by dsimp only [List.length_cons, List.length_nil]; omega, built_ok (fun _ => rfl) rfl (by decide), rfl, rfl⟩) (by repeat' (first | exact trivial | refine And.intro rfl ?_)) (by dsimp only; rw [← built_ow (f := XSwitch.cells) (n := 1) [⟨-1, 0, 0, true, false⟩] rfl, ← built_ow (f := icell) (n := 1) [0] rfl]; exact List.Sublist.refl _) (allR_self _) ?_
  rintro ⟨⟨n, sw, zl⟩, hn, hsk, hsl, hzl⟩ junk
  try dsimp only
  dsimp only at hn hsk hsl hzl
  refine qbi ?_
  refine qaa ?_
  refine qa5 ?_
  refine qaf ?_
  refine q_c (fun hc0 => ?_) (fun hc0 => ?_)
  ·
   refine qbb ?_
   refine qab ?_
   refine qac ?_
   refine qab ?_
   refine qac ?_
   refine qag ?_
   refine qa9 ?_
   refine ybyai ?_
   refine ybyaj ?_
   rintro v L' R' ⟨b56, rfl, rfl, hR56⟩
   replace hR56 := hR56.symm; subst hR56
   refine LJ_g (gives_append1 (f := XSwitch.cells) (p := sw) (a := ⟨(sw.l.length : Int) - 1, 0, 0, true, false⟩) tb rfl rfl rfl rfl (hsk) (by repeat (first | apply OSeg.cons | exact OSeg.here | exact OSeg.last | exact OSeg.at (by assumption) | apply OSeg.app)) (shown_own (by repeat (first | exact zi0 | apply zi1 | apply zi2)) rfl rfl) rfl (by first | omega | (simp only [List.length_cons, List.length_nil, List.length_append]; omega))) rfl ?_
   rintro v L' R' ⟨o57, rfl, hok57, rfl, rfl⟩
   refine qab ?_
   refine qcy ?_
   refine qaf ?_
   have hlen2 : (sw.l ++ [(⟨(sw.l.length : Int) - 1, 0, 0, true, false⟩ : XSwitch)]).length = sw.l.length + 1 := by simp
   have hzll : zl.length = 1 := by rw [hzl]; rfl
   have hz0 : zl[0]? = some ((sw.l.length : Int) - 1) := by rw [hzl]; rfl
   have hzk : (⟨.own b39 1 [], zl⟩ : OwL Int).ok 1 icell := by rw [hzl]; exact built_ok icell_len rfl (by decide)
   refine qay ?_
   refine qab ?_
   refine qac ?_
   refine qab ?_
   refine qac ?_
   refine qag ?_
   refine LJ_q (yv_sub64 rfl rfl (by dsimp only; omega) (by dsimp only; omega)) rfl ?_
   refine LJ_q (yv_index_ow tb ((⟨.own b39 1 [], zl⟩ : OwL Int)) _ rfl rfl (by rw [hzl]; rfl) rfl (by assumption) (i := 0) (by first | rfl | omega | (simp; omega)) (by first | omega | (dsimp only; omega) | (dsimp only; rw [List.length_set]; omega) | (dsimp only; simp only [List.length_set]; omega))) rfl ?_
   refine LJ_g0 (gives_store1_ow tb ((⟨.own b39 1 [], zl⟩ : OwL Int)) (((sw.l ++ [(⟨(sw.l.length : Int) - 1, 0, 0, true, false⟩ : XSwitch)]).length : Int) - 1) rfl rfl rfl rfl (by repeat (first | apply OSeg.cons | exact OSeg.here | exact OSeg.last | exact OSeg.at (by assumption) | apply OSeg.app)) (by assumption) (fun _ => rfl) (by assumption) (by decide) (by rfl) (by rfl)) ?_
   rintro v L' R' ⟨rfl, rfl⟩
   refine qcs ?_
   refine qaa ?_
   refine qa9 ?_
   refine qad ?_
   refine qav ?_
   exact q_k ⟨(n - 1, (⟨o57, sw.l ++ [⟨(sw.l.length : Int) - 1, 0, 0, true, false⟩]⟩ : OwL XSwitch), zl.set 0 (((sw.l ++ [(⟨(sw.l.length : Int) - 1, 0, 0, true, false⟩ : XSwitch)]).length : Int) - 1)), by dsimp only; rw [hlen2]; omega, hok57, by dsimp only; rw [hlen2, chainS_succ, ← hsl], by dsimp only; rw [hzl]; rfl⟩
  refine qc3 ?_
  refine CJ_drawn2 tb [67] [0, 1] [2, 3] ([Blk.mk b6 _ _, Blk.mk b5 _ _]) _ mixed (by kernel_rfl) (by repeat (first | exact zs0 _ | exact zs1 _ | apply zs2 | apply zs3 | apply zs4 | apply zs5)) (by (repeat (first | apply List.Sublist.cons (a := Blk.mk b2 _ _) | apply List.Sublist.cons (a := Blk.mk b3 _ _) | apply List.Sublist.cons_cons)); exact List.Sublist.refl _) ?_
  refine DJ3_q (yv_loadN (row := [_, _, _, _, _, _, _, _]) tb rfl rfl rfl (by repeat (first | exact zi0 | apply zi1 | apply zi2)) (by rfl) (by rfl)) rfl rfl rfl rfl ?_
  refine DJ3_ql (yv_loadN (row := [_, _, _]) tb rfl rfl rfl (by repeat (first | exact zi0 | apply zi1 | apply zi2)) (by rfl) (by rfl)) rfl rfl rfl rfl ?_
  refine qba ?_
  refine qbg ?_
  refine qbg ?_
  refine DJ_nil (seqK_normal (CJ_ret ?_))
  refine q_r (L' := sw.L 98 XSwitch.cells ++ ((⟨.own b39 1 [], zl⟩ : OwL Int).L 3 icell ++ (cblk c x k4 :: []))) (R' := R3) (res2 rfl (rv_cell (row := [_, _, _, _, _, _, _, _]) tb rfl rfl rfl (by repeat (first | exact zi0 | apply zi1 | apply zi2)) (by rfl) (by rfl)) (rv_cell (row := [_, _, _]) tb rfl rfl rfl (by repeat (first | exact zi0 | apply zi1 | apply zi2)) (by rfl) (by rfl))) ?_
  have hzk : (⟨.own b39 1 [], zl⟩ : OwL Int).ok 1 icell := by rw [hzl]; exact built_ok icell_len rfl (by decide)
  have up1 : ∀ r ∈ R1, InR r R3 := fun r hr => (hR2 r hr).mono hR3
  refine ⟨⟨⟨⟨pl, rd⟩, ⟨none, 0, []⟩, ⟨none, 0, []⟩⟩, se, cn, zs, ps⟩, r1, r2, r3, sw, ⟨.own b39 1 [], zl⟩, sw.l.length, k4, ?_, ⟨by rw [hpl], by rw [hrd], rfl, rfl, by rw [hse], by rw [hcn], ⟨zn, by rw [hzs], by rw [hzn], by rw [hzn], by rw [hzn], by rw [hzn]⟩, by rw [hzs], by rw [hps], by omega⟩, ⟨hsk, hzk⟩, by omega, hsl, hzl, ⟨hk4, fun h => by have q1 := he1 h; have q2 := he2 (by omega); have q3 := he3 (by omega); have q4 := he4 (by omega); omega⟩, ⟨⟨⟨hplR.mono up1, hrdR.mono up1, hfnR.mono up1, hdrR.mono up1⟩, hseR.mono hR3, hcnR.mono hR3, hzsR, hpsR.mono hR3⟩, fun r hr => (hR1 r hr).mono up1⟩, rfl⟩
  rw [hpl, hrd, hse, hcn, hzs, hps, hzl]; rfl
end Go.Proofs.Ytkpfjmibipblhaa
