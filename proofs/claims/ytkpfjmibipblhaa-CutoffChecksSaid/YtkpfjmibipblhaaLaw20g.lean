import Derived.Test.YtkpfjmibipblhaaApp0
import Derived.Test.YtkpfjmibipblhaaSiteS
import Derived.Test.YtkpfjmibipblhaaEasy
import Derived.Test.YtkpfjmibipblhaaDraws
import Derived.Test.YtkpfjmibipblhaaSpans
import Derived.Test.YtkpfjmibipblhaaRefA
import Derived.Test.YtkpfjmibipblhaaCutB
import Derived.Test.YtkpfjmibipblhaaLaw20b
import Derived.Test.YtkpfjmibipblhaaCutP
section
/-
  A site in which one number is another one. By an AI agent; no person has read it.
-/
set_option linter.unusedSimpArgs false
set_option linter.unusedVariables false
namespace Go.Proofs.Ytkpfjmibipblhaa
open Go.Aw Go
set_option maxRecDepth 20000
attribute [local irreducible] CJ LJ DJ Tri YV Gives seqK blockK loopK retK RV mergeK OwL.L
section
variable {A9 B9 : Prop}
theorem yceaa (a : A9) (h : A9 → B9 := by exact WStep_g rfl (Go.Proofs.Ytkpfjmibipblhaa.YV.gives2 (yv_load1 tb rfl rfl rfl (by repeat (first | exact zi0 | apply zi1 | apply zi2)) (by rfl))) rfl rfl) : B9 := h a
theorem yceab (a : A9) (h : A9 → B9 := by exact WStep_g rfl (gives_copy (f := XSens.cells) (xs := s.sensors) tb rfl rfl rfl (by decide) rfl rfl (hsR) (fun _ => rfl) (by omega)) rfl rfl) : B9 := h a
theorem yceac (a : A9) (h : A9 → B9 := by exact WZ_q 6 hT1 (List.nil_sublist _) (by kernel_rfl) rfl rfl rfl rfl rfl (yv_field tb rfl rfl rfl)) : B9 := h a
theorem ycead (a : A9) (h : A9 → B9 := by exact WStep_g rfl (gives_copy (f := XCond.cells) (xs := s.conds) tb rfl rfl rfl (by decide) rfl rfl (hcR) (fun _ => rfl) (by omega)) rfl rfl) : B9 := h a
theorem yceae (a : A9) (h : A9 → B9 := by exact WStep_g rfl (gives_copy (f := XZone.cells) (xs := s.zones) tb rfl rfl rfl (by decide) rfl rfl (hzR) (fun _ => rfl) (by omega)) rfl rfl) : B9 := h a
theorem yceaf (a : A9) (h : A9 → B9 := by exact WZ_q 6 hT2 (List.nil_sublist _) (by kernel_rfl) rfl rfl rfl rfl rfl (yv_field tb rfl rfl rfl)) : B9 := h a
theorem yceag (a : A9) (h : A9 → B9 := by exact WStep_g rfl (gives_copy (f := icell) (xs := s.persons) tb rfl rfl rfl (by decide) rfl rfl (hpR) (fun _ => rfl) (by omega)) rfl rfl) : B9 := h a
theorem yceah (a : A9) (h : A9 → B9 := by exact LJ_q (yv_index_ow tb ((⟨oC, s.conds.l⟩ : OwL XCond)) _ rfl rfl rfl rfl (by assumption) (i := 0) (by first | rfl | omega | (simp; omega)) (by first | omega | (dsimp only; omega) | (dsimp only; rw [List.length_set]; omega) | (dsimp only; simp only [List.length_set]; omega))) rfl) : B9 := h a
end
theorem spoilt_tri (s : XSite) (w u : Int) (L : List Blk) (R : List Sl) (hs : SiteR s R) (hw : I64 w) (hn : (1 ≤ s.sensors.l.length ∧ s.sensors.l.length ≤ 64) ∧ (1 ≤ s.conds.l.length ∧ s.conds.l.length ≤ 64) ∧ (1 ≤ s.zones.l.length ∧ s.zones.l.length ≤ 16) ∧ s.persons.l.length ≤ 64) (hrn : ∀ z ∈ s.zones.l, z.roads.l.length ≤ 1000) :
    Tri Try.prog 14 [s.val, .int .i64 w, .int .i64 u].toArray L R
      (fun v L' R' => ∃ s' : XSite, v = s'.val ∧ (SiteR s' R' ∧ ∀ r ∈ R, InR r R') ∧ L = L') := by
  have hsR := hs.sensors
  have hcR := hs.conds
  have hzR := hs.zones
  have hpR := hs.persons
  refine tri_enter 110 Try.call14 Try.func14 rfl rfl rfl ?_
  refine qae ?_
  refine qax ?_
  intro b3
  refine qaq ?_
  intro b6
  refine qa4 ?_
  refine CJ_joinP [7, 8, 9, 10, 11, 12, 13, 14] ((⟨fun _ => [], fun g => (⟨g.1.1, s.sensors.l⟩ : OwL XSens).L 128 XSens.cells ++ ((⟨g.1.2, s.conds.l⟩ : OwL XCond).L 133 XCond.cells ++ (⟨b6, [.slice none 0 0, .slice none 0 0, .slice none 0 0, .slice none 0 0, .slice none 0 0, .slice none 0 0, .slice none 0 0, .slice none 0 0], 36⟩ :: ⟨b3, [s.air.mine.places.val, s.air.mine.roads.val, s.air.fans.val, s.air.doors.val, (⟨g.1.1, s.sensors.l⟩ : OwL XSens).val, (⟨g.1.2, s.conds.l⟩ : OwL XCond).val, s.zones.val, s.persons.val], 36⟩ :: L)), fun _ => R, fun _ => 0⟩ : Head {g : Ow × Ow // (⟨g.1, s.sensors.l⟩ : OwL XSens).ok 8 XSens.cells ∧ (⟨g.2, s.conds.l⟩ : OwL XCond).ok 6 XCond.cells})) ?_ ?_
  ·
   skip
   refine CJ_tree tb [] [0, 1, 3, 4, 2, 6, 5] [7, 8, 9] (_) [] 7 mixed (by kernel_rfl) rfl rfl (by repeat (first | exact zs0 _ | exact zs1 _ | apply zs2 | apply zs3 | apply zs4 | apply zs5)) fun hT1 => ?_
   refine WZ_q 0 hT1 (List.nil_sublist _) (by kernel_rfl) rfl rfl rfl rfl rfl (yv_field tb rfl rfl rfl) ?_
   refine WZ_q 3 hT1 (List.nil_sublist _) (by kernel_rfl) rfl rfl rfl rfl rfl (yv_field tb rfl rfl rfl) ?_
   refine WZ_branch [1, 4] hT1 (List.nil_sublist _) (by kernel_rfl) ?_
   refine WSteps_cons ?_ ?_
   ·
    skip
    refine yceaa ?_
    rintro v L' R' ⟨rfl, rfl, rfl⟩
    refine qa1 ?_
    refine WZ_branch [2, 4] hT1 (List.nil_sublist _) (by kernel_rfl) ?_
    refine WSteps_cons ?_ ?_
    ·
     skip
     refine yceab ?_
     rintro v L' R' ⟨o9, rfl, hok9, rfl, rfl⟩
     refine qa1 ?_
     refine WZ_branch [4] hT1 (List.nil_sublist _) (by kernel_rfl) ?_
     refine qca ?_
     refine yceaa ?_
     rintro v L' R' ⟨rfl, rfl, rfl⟩
     refine qa1 ?_
     refine yceac ?_
     refine WZ_branch [5] hT1 (List.nil_sublist _) (by kernel_rfl) ?_
     refine qca ?_
     refine ycead ?_
     rintro v L' R' ⟨o12, rfl, hok12, rfl, rfl⟩
     refine qa1 ?_
     refine WZ_endL hT1 (List.nil_sublist _) (by kernel_rfl) rfl ?_
     refine qbw ?_
     refine qal ?_
     refine qbw ?_
     refine DJ_nil ?_
     first
       | exact joinPK_mk ⟨(o9, o12), hok9, hok12⟩ (by repeat (first | exact Off.refl | apply Off.upd rfl | apply Off.havoc rfl | apply Off.updL rfl | apply Off.left rfl)) (by repeat' (first | exact trivial | refine And.intro rfl ?_)) (List.Perm.refl _) (List.Sublist.refl _) (allR_self _)
       | exact joinPK_mk ⟨(o9, o12), hok9, hok12⟩ (by repeat (first | exact Off.refl | apply Off.upd rfl | apply Off.havoc rfl | apply Off.updL rfl | apply Off.left rfl)) (by repeat' (first | exact trivial | refine And.intro rfl ?_)) (List.perm_append_comm_assoc _ _ _) (List.Sublist.refl _) (allR_self _)
    refine qca ?_
    refine yceaa ?_
    rintro v L' R' ⟨rfl, rfl, rfl⟩
    refine qa1 ?_
    refine WZ_branch [2] hT1 (List.nil_sublist _) (by kernel_rfl) ?_
    refine qca ?_
    refine yceab ?_
    rintro v L' R' ⟨o9, rfl, hok9, rfl, rfl⟩
    refine qa1 ?_
    refine yceac ?_
    refine WZ_branch [5] hT1 (List.nil_sublist _) (by kernel_rfl) ?_
    refine qca ?_
    refine ycead ?_
    rintro v L' R' ⟨o12, rfl, hok12, rfl, rfl⟩
    refine qa1 ?_
    refine WZ_endL hT1 (List.nil_sublist _) (by kernel_rfl) rfl ?_
    refine qbw ?_
    refine qal ?_
    refine qbw ?_
    refine DJ_nil ?_
    first
      | exact joinPK_mk ⟨(o9, o12), hok9, hok12⟩ (by repeat (first | exact Off.refl | apply Off.upd rfl | apply Off.havoc rfl | apply Off.updL rfl | apply Off.left rfl)) (by repeat' (first | exact trivial | refine And.intro rfl ?_)) (List.Perm.refl _) (List.Sublist.refl _) (allR_self _)
      | exact joinPK_mk ⟨(o9, o12), hok9, hok12⟩ (by repeat (first | exact Off.refl | apply Off.upd rfl | apply Off.havoc rfl | apply Off.updL rfl | apply Off.left rfl)) (by repeat' (first | exact trivial | refine And.intro rfl ?_)) (List.perm_append_comm_assoc _ _ _) (List.Sublist.refl _) (allR_self _)
   refine qca ?_
   refine yceaa ?_
   rintro v L' R' ⟨rfl, rfl, rfl⟩
   refine qa1 ?_
   refine WZ_branch [1] hT1 (List.nil_sublist _) (by kernel_rfl) ?_
   refine qca ?_
   refine yceaa ?_
   rintro v L' R' ⟨rfl, rfl, rfl⟩
   refine qa1 ?_
   refine WZ_branch [2] hT1 (List.nil_sublist _) (by kernel_rfl) ?_
   refine qca ?_
   refine yceab ?_
   rintro v L' R' ⟨o9, rfl, hok9, rfl, rfl⟩
   refine qa1 ?_
   refine yceac ?_
   refine WZ_branch [5] hT1 (List.nil_sublist _) (by kernel_rfl) ?_
   refine qca ?_
   refine ycead ?_
   rintro v L' R' ⟨o12, rfl, hok12, rfl, rfl⟩
   refine qa1 ?_
   refine WZ_endL hT1 (List.nil_sublist _) (by kernel_rfl) rfl ?_
   refine qbw ?_
   refine qal ?_
   refine qbw ?_
   refine DJ_nil ?_
   first
     | exact joinPK_mk ⟨(o9, o12), hok9, hok12⟩ (by repeat (first | exact Off.refl | apply Off.upd rfl | apply Off.havoc rfl | apply Off.updL rfl | apply Off.left rfl)) (by repeat' (first | exact trivial | refine And.intro rfl ?_)) (List.Perm.refl _) (List.Sublist.refl _) (allR_self _)
     | exact joinPK_mk ⟨(o9, o12), hok9, hok12⟩ (by repeat (first | exact Off.refl | apply Off.upd rfl | apply Off.havoc rfl | apply Off.updL rfl | apply Off.left rfl)) (by repeat' (first | exact trivial | refine And.intro rfl ?_)) (List.perm_append_comm_assoc _ _ _) (List.Sublist.refl _) (allR_self _)
  rintro ⟨⟨oS, oC⟩, hkS, hkC⟩ junk
  try dsimp only
  dsimp only at hkS hkC
  refine CJ_seq ?_
  refine CJ_joinP [15, 16, 17, 18, 19, 20, 21, 22] ((⟨fun _ => [], fun g => (⟨g.1.1, s.zones.l⟩ : OwL XZone).L 109 XZone.cells ++ ((⟨g.1.2, s.persons.l⟩ : OwL Int).L 87 icell ++ ((⟨oS, s.sensors.l⟩ : OwL XSens).L 128 XSens.cells ++ ((⟨oC, s.conds.l⟩ : OwL XCond).L 133 XCond.cells ++ (⟨b6, [.slice none 0 0, .slice none 0 0, .slice none 0 0, .slice none 0 0, .slice none 0 0, .slice none 0 0, .slice none 0 0, .slice none 0 0], 36⟩ :: ⟨b3, [s.air.mine.places.val, s.air.mine.roads.val, s.air.fans.val, s.air.doors.val, (⟨oS, s.sensors.l⟩ : OwL XSens).val, (⟨oC, s.conds.l⟩ : OwL XCond).val, (⟨g.1.1, s.zones.l⟩ : OwL XZone).val, (⟨g.1.2, s.persons.l⟩ : OwL Int).val], 36⟩ :: L)))), fun _ => R, fun _ => 0⟩ : Head {g : Ow × Ow // (⟨g.1, s.zones.l⟩ : OwL XZone).ok 4 XZone.cells ∧ (⟨g.2, s.persons.l⟩ : OwL Int).ok 1 icell})) ?_ ?_
  ·
   skip
   refine CJ_tree tb [] [0, 1, 3, 4, 2, 6, 5] [7, 8, 9] (_) [] 7 mixed (by kernel_rfl) rfl rfl (by repeat (first | exact zs0 _ | exact zs1 _ | apply zs2 | apply zs3 | apply zs4 | apply zs5)) fun hT2 => ?_
   refine WZ_q 0 hT2 (List.nil_sublist _) (by kernel_rfl) rfl rfl rfl rfl rfl (yv_field tb rfl rfl rfl) ?_
   refine WZ_q 3 hT2 (List.nil_sublist _) (by kernel_rfl) rfl rfl rfl rfl rfl (yv_field tb rfl rfl rfl) ?_
   refine WZ_branch [1, 4] hT2 (List.nil_sublist _) (by kernel_rfl) ?_
   refine WSteps_cons ?_ ?_
   ·
    skip
    refine yceaa ?_
    rintro v L' R' ⟨rfl, rfl, rfl⟩
    refine qa1 ?_
    refine WZ_branch [2, 4] hT2 (List.nil_sublist _) (by kernel_rfl) ?_
    refine WSteps_cons ?_ ?_
    ·
     skip
     refine yceae ?_
     rintro v L' R' ⟨o17, rfl, hok17, rfl, rfl⟩
     refine qa1 ?_
     refine WZ_branch [4] hT2 (List.nil_sublist _) (by kernel_rfl) ?_
     refine qca ?_
     refine yceaa ?_
     rintro v L' R' ⟨rfl, rfl, rfl⟩
     refine qa1 ?_
     refine yceaf ?_
     refine WZ_branch [5] hT2 (List.nil_sublist _) (by kernel_rfl) ?_
     refine qca ?_
     refine yceag ?_
     rintro v L' R' ⟨o20, rfl, hok20, rfl, rfl⟩
     refine qa1 ?_
     refine WZ_endL hT2 (List.nil_sublist _) (by kernel_rfl) rfl ?_
     refine qbw ?_
     refine qal ?_
     refine qbw ?_
     refine DJ_nil ?_
     first
       | exact joinPK_mk ⟨(o17, o20), hok17, hok20⟩ (by repeat (first | exact Off.refl | apply Off.upd rfl | apply Off.havoc rfl | apply Off.updL rfl | apply Off.left rfl)) (by repeat' (first | exact trivial | refine And.intro rfl ?_)) (List.Perm.refl _) (List.Sublist.refl _) (allR_self _)
       | exact joinPK_mk ⟨(o17, o20), hok17, hok20⟩ (by repeat (first | exact Off.refl | apply Off.upd rfl | apply Off.havoc rfl | apply Off.updL rfl | apply Off.left rfl)) (by repeat' (first | exact trivial | refine And.intro rfl ?_)) (List.perm_append_comm_assoc _ _ _) (List.Sublist.refl _) (allR_self _)
    refine qca ?_
    refine yceaa ?_
    rintro v L' R' ⟨rfl, rfl, rfl⟩
    refine qa1 ?_
    refine WZ_branch [2] hT2 (List.nil_sublist _) (by kernel_rfl) ?_
    refine qca ?_
    refine yceae ?_
    rintro v L' R' ⟨o17, rfl, hok17, rfl, rfl⟩
    refine qa1 ?_
    refine yceaf ?_
    refine WZ_branch [5] hT2 (List.nil_sublist _) (by kernel_rfl) ?_
    refine qca ?_
    refine yceag ?_
    rintro v L' R' ⟨o20, rfl, hok20, rfl, rfl⟩
    refine qa1 ?_
    refine WZ_endL hT2 (List.nil_sublist _) (by kernel_rfl) rfl ?_
    refine qbw ?_
    refine qal ?_
    refine qbw ?_
    refine DJ_nil ?_
    first
      | exact joinPK_mk ⟨(o17, o20), hok17, hok20⟩ (by repeat (first | exact Off.refl | apply Off.upd rfl | apply Off.havoc rfl | apply Off.updL rfl | apply Off.left rfl)) (by repeat' (first | exact trivial | refine And.intro rfl ?_)) (List.Perm.refl _) (List.Sublist.refl _) (allR_self _)
      | exact joinPK_mk ⟨(o17, o20), hok17, hok20⟩ (by repeat (first | exact Off.refl | apply Off.upd rfl | apply Off.havoc rfl | apply Off.updL rfl | apply Off.left rfl)) (by repeat' (first | exact trivial | refine And.intro rfl ?_)) (List.perm_append_comm_assoc _ _ _) (List.Sublist.refl _) (allR_self _)
   refine qca ?_
   refine yceaa ?_
   rintro v L' R' ⟨rfl, rfl, rfl⟩
   refine qa1 ?_
   refine WZ_branch [1] hT2 (List.nil_sublist _) (by kernel_rfl) ?_
   refine qca ?_
   refine yceaa ?_
   rintro v L' R' ⟨rfl, rfl, rfl⟩
   refine qa1 ?_
   refine WZ_branch [2] hT2 (List.nil_sublist _) (by kernel_rfl) ?_
   refine qca ?_
   refine yceae ?_
   rintro v L' R' ⟨o17, rfl, hok17, rfl, rfl⟩
   refine qa1 ?_
   refine yceaf ?_
   refine WZ_branch [5] hT2 (List.nil_sublist _) (by kernel_rfl) ?_
   refine qca ?_
   refine yceag ?_
   rintro v L' R' ⟨o20, rfl, hok20, rfl, rfl⟩
   refine qa1 ?_
   refine WZ_endL hT2 (List.nil_sublist _) (by kernel_rfl) rfl ?_
   refine qbw ?_
   refine qal ?_
   refine qbw ?_
   refine DJ_nil ?_
   first
     | exact joinPK_mk ⟨(o17, o20), hok17, hok20⟩ (by repeat (first | exact Off.refl | apply Off.upd rfl | apply Off.havoc rfl | apply Off.updL rfl | apply Off.left rfl)) (by repeat' (first | exact trivial | refine And.intro rfl ?_)) (List.Perm.refl _) (List.Sublist.refl _) (allR_self _)
     | exact joinPK_mk ⟨(o17, o20), hok17, hok20⟩ (by repeat (first | exact Off.refl | apply Off.upd rfl | apply Off.havoc rfl | apply Off.updL rfl | apply Off.left rfl)) (by repeat' (first | exact trivial | refine And.intro rfl ?_)) (List.perm_append_comm_assoc _ _ _) (List.Sublist.refl _) (allR_self _)
  rintro ⟨⟨oZ, oP⟩, hkZ, hkP⟩ junk
  try dsimp only
  dsimp only at hkZ hkP
  have hzg := get_D (l := s.zones.l) (k := 0) default (by omega)
  obtain ⟨z0, hz0⟩ : ∃ z0, z0 = s.zones.l.getD 0 default := ⟨_, rfl⟩
  rw [← hz0] at hzg
  have hzrR := InR.zroads hzR hzg
  have hzrn := hrn _ (List.mem_of_getElem? hzg)
  refine CJ_seq ?_
  refine CJ_drawn2 tb [23, 24] [0, 1, 2, 3, 4, 5, 6] [7, 8, 9, 10] (_) _ mixed (by kernel_rfl) (by repeat (first | exact zs0 _ | exact zs1 _ | apply zs2 | apply zs3 | apply zs4 | apply zs5)) (show ([⟨b3, [s.air.mine.places.val, s.air.mine.roads.val, s.air.fans.val, s.air.doors.val, (⟨oS, s.sensors.l⟩ : OwL XSens).val, (⟨oC, s.conds.l⟩ : OwL XCond).val, (⟨oZ, s.zones.l⟩ : OwL XZone).val, (⟨oP, s.persons.l⟩ : OwL Int).val], 36⟩] : List Blk).Sublist _ from (by repeat (first | exact zs0 _ | exact zs1 _ | apply zs2 | apply zs3 | apply zs4 | apply zs5))) ?_
  refine qcp ?_
  refine qcu ?_
  refine qan ?_
  refine qau ?_
  refine DJ3_q (yv_index_ow tb ((⟨oZ, s.zones.l⟩ : OwL XZone)) _ rfl rfl rfl rfl (by assumption) (i := 0) (by first | rfl | omega | (simp; omega)) (by first | omega | (dsimp only; omega) | (dsimp only; rw [List.length_set]; omega) | (dsimp only; simp only [List.length_set]; omega))) rfl rfl rfl rfl ?_
  refine qcv ?_
  refine DJ3_q (yv_load1_ow tb ((⟨oZ, s.zones.l⟩ : OwL XZone)) rfl rfl rfl (by repeat (first | apply OSeg.cons | exact OSeg.here | exact OSeg.last | exact OSeg.at (by assumption) | apply OSeg.app)) (by assumption) (fun _ => rfl) (by assumption) (by rfl)) rfl rfl rfl rfl ?_
  refine qba ?_
  refine DJ_g (gives_copy (f := icell) (xs := z0.roads) tb rfl rfl rfl (by decide) rfl rfl (hzrR) (fun _ => rfl) (by omega)) rfl rfl rfl ?_
  rintro v L' R' ⟨o30, rfl, hok30, rfl, rfl⟩
  refine qa1 ?_
  refine DJ_q (yv_index_ow tb ((⟨oZ, s.zones.l⟩ : OwL XZone)) _ rfl rfl rfl rfl (by assumption) (i := 0) (by first | rfl | omega | (simp; omega)) (by first | omega | (dsimp only; omega) | (dsimp only; rw [List.length_set]; omega) | (dsimp only; simp only [List.length_set]; omega))) rfl rfl rfl ?_
  refine qce ?_
  refine DJ_g0 (gives_store1_ow tb ((⟨oZ, s.zones.l⟩ : OwL XZone)) (⟨z0.rule, z0.hold, (⟨o30, z0.roads.l⟩ : OwL Int).arr, z0.fresh⟩) rfl rfl rfl rfl (by repeat (first | apply OSeg.cons | exact OSeg.here | exact OSeg.last | exact OSeg.at (by assumption) | apply OSeg.app)) (by assumption) (fun _ => rfl) (by assumption) (by decide) (by rfl) (by rfl)) rfl rfl ?_
  rintro v L' R' ⟨rfl, rfl⟩
  refine qa1 ?_
  refine DJ_nil (seqK_normal (CJ_seq (CJ_seq ?_)))
  obtain ⟨rd, hrd⟩ : ∃ rd : OwL Int, rd = ⟨o30, z0.roads.l⟩ := ⟨_, rfl⟩
  have hrdk : rd.ok 1 icell := by rw [hrd]; exact hok30
  have hrdn : rd.l.length ≤ 1000 := by rw [hrd]; exact hzrn
  obtain ⟨zl, hzl⟩ : ∃ zl, zl = s.zones.l.set 0 ⟨z0.rule, z0.hold, rd.arr, z0.fresh⟩ := ⟨_, rfl⟩
  have hzll : zl.length = s.zones.l.length := by rw [hzl, List.length_set]
  have hzlg : zl[0]? = some ⟨z0.rule, z0.hold, rd.arr, z0.fresh⟩ := by rw [hzl, List.getElem?_set_self (by omega)]
  have hzlk : (⟨oZ, zl⟩ : OwL XZone).ok 4 XZone.cells := OwL.len_ok (fun _ => rfl) hkZ hzll
  refine CJ_L (L' := rd.L 3 icell ++ ((⟨oZ, zl⟩ : OwL XZone).L 109 XZone.cells ++ ((⟨oP, s.persons.l⟩ : OwL Int).L 87 icell ++ ((⟨oS, s.sensors.l⟩ : OwL XSens).L 128 XSens.cells ++ ((⟨oC, s.conds.l⟩ : OwL XCond).L 133 XCond.cells ++ (⟨b6, [.slice none 0 0, .slice none 0 0, .slice none 0 0, .slice none 0 0, .slice none 0 0, .slice none 0 0, .slice none 0 0, .slice none 0 0], 36⟩ :: ⟨b3, [s.air.mine.places.val, s.air.mine.roads.val, s.air.fans.val, s.air.doors.val, (⟨oS, s.sensors.l⟩ : OwL XSens).val, (⟨oC, s.conds.l⟩ : OwL XCond).val, (⟨oZ, s.zones.l⟩ : OwL XZone).val, (⟨oP, s.persons.l⟩ : OwL Int).val], 36⟩ :: L)))))) (by rw [hzl, hrd]) ?_
  have hsg0 := get_D (l := s.sensors.l) (k := 0) default (by omega)
  have hsgN := get_D (l := s.sensors.l) (k := s.sensors.l.length - 1) default (by omega)
  have hcg0 := get_D (l := s.conds.l) (k := 0) default (by omega)
  have hcgN := get_D (l := s.conds.l) (k := s.conds.l.length - 1) default (by omega)
  obtain ⟨s0, hs0⟩ : ∃ s0, s0 = s.sensors.l.getD 0 default := ⟨_, rfl⟩
  obtain ⟨sN, hsN⟩ : ∃ sN, sN = s.sensors.l.getD (s.sensors.l.length - 1) default := ⟨_, rfl⟩
  obtain ⟨c0, hc00⟩ : ∃ c0, c0 = s.conds.l.getD 0 default := ⟨_, rfl⟩
  obtain ⟨cN, hcN⟩ : ∃ cN, cN = s.conds.l.getD (s.conds.l.length - 1) default := ⟨_, rfl⟩
  rw [← hs0] at hsg0
  rw [← hsN] at hsgN
  rw [← hc00] at hcg0
  rw [← hcN] at hcgN
  refine qay ?_
  refine qaa ?_
  refine q_l rfl (mod_tri w 9 _ _ hw (by decide)) ?_
  refine qaf ?_
  refine CJ_joinS [35, 36, 37, 38, 39, 40, 41, 42, 43, 44, 45, 46, 47, 48, 49, 50, 51, 52, 53, 54, 55, 56, 57, 58, 59, 60, 61, 62, 63, 64, 65, 66, 67, 68, 69, 70, 71, 72, 73, 74, 75, 76, 77, 78, 79, 80, 81, 82, 83, 84, 85, 86, 87, 88, 89, 90, 91, 92, 93, 94, 95, 96, 97, 98, 99, 100, 101, 102, 103, 104, 105, 106, 107, 108] ((⟨fun _ => [], fun g => g.1.2.2.2.2.1.L 3 icell ++ ((⟨oZ, g.1.2.2.1⟩ : OwL XZone).L 109 XZone.cells ++ (g.1.2.2.2.2.2.L 87 icell ++ ((⟨oS, g.1.1⟩ : OwL XSens).L 128 XSens.cells ++ ((⟨oC, g.1.2.1⟩ : OwL XCond).L 133 XCond.cells ++ (⟨b6, [.slice none 0 0, .slice none 0 0, .slice none 0 0, .slice none 0 0, .slice none 0 0, .slice none 0 0, .slice none 0 0, .slice none 0 0], 36⟩ :: ⟨b3, [s.air.mine.places.val, s.air.mine.roads.val, s.air.fans.val, s.air.doors.val, (⟨oS, s.sensors.l⟩ : OwL XSens).val, (⟨oC, s.conds.l⟩ : OwL XCond).val, (⟨oZ, s.zones.l⟩ : OwL XZone).val, g.1.2.2.2.2.2.val], 36⟩ :: L))))), fun _ => R, fun _ => 0⟩ : Head {g : List XSens × List XCond × List XZone × Int × OwL Int × OwL Int // g.1.length = s.sensors.l.length ∧ g.2.1.length = s.conds.l.length ∧ g.2.2.1 = s.zones.l.set 0 ⟨z0.rule, g.2.2.2.1, g.2.2.2.2.1.arr, z0.fresh⟩ ∧ g.2.2.2.2.1.ok 1 icell ∧ g.2.2.2.2.2.ok 1 icell})) ?_ ?_
  ·
   refine CJ_block (CJ_seq (CJ_region ?_))
   refine qbn ?_
   refine qaz ?_
   refine qaf ?_
   refine q_c (fun hc0 => ?_) (fun hc0 => ?_)
   ·
    refine qay ?_
    refine qab ?_
    refine qac ?_
    refine qaa ?_
    refine LJ_q (yv_index_ow tb ((⟨oS, s.sensors.l⟩ : OwL XSens)) _ rfl rfl rfl rfl (by assumption) (i := 0) (by first | rfl | omega | (simp; omega)) (by first | omega | (dsimp only; omega) | (dsimp only; rw [List.length_set]; omega) | (dsimp only; simp only [List.length_set]; omega))) rfl ?_
    refine qb0 ?_
    refine LJ_g0 (gives_store1_ow tb ((⟨oS, s.sensors.l⟩ : OwL XSens)) (⟨s0.address, s0.kind, u, s0.offset, s0.scale, s0.error, s0.drift, s0.life⟩) rfl rfl rfl rfl (by repeat (first | apply OSeg.cons | exact OSeg.here | exact OSeg.last | exact OSeg.at (by assumption) | apply OSeg.app)) (by assumption) (fun _ => rfl) (by assumption) (by decide) (by rfl) (by rfl)) ?_
    rintro v L' R' ⟨rfl, rfl⟩
    refine LJ_nil (blockK_normal ?_)
    exact q_j ⟨(s.sensors.l.set 0 ⟨s0.address, s0.kind, u, s0.offset, s0.scale, s0.error, s0.drift, s0.life⟩, s.conds.l, zl, z0.hold, rd, ⟨oP, s.persons.l⟩), List.length_set, rfl, hzl, hrdk, hkP⟩
   refine qae ?_
   refine qbn ?_
   refine qaz ?_
   refine qaf ?_
   refine q_c (fun hc1 => ?_) (fun hc1 => ?_)
   ·
    refine qay ?_
    refine qab ?_
    refine qac ?_
    refine qab ?_
    refine qac ?_
    refine qag ?_
    refine LJ_q (yv_sub64 rfl rfl (by dsimp only; omega) (by dsimp only; omega)) rfl ?_
    refine qaa ?_
    refine LJ_q (yv_index_ow tb ((⟨oS, s.sensors.l⟩ : OwL XSens)) _ rfl rfl rfl rfl (by assumption) (i := s.sensors.l.length - 1) (by first | rfl | omega | (simp; omega)) (by first | omega | (dsimp only; omega) | (dsimp only; rw [List.length_set]; omega) | (dsimp only; simp only [List.length_set]; omega))) rfl ?_
    refine qb0 ?_
    refine LJ_g0 (gives_store1_ow tb ((⟨oS, s.sensors.l⟩ : OwL XSens)) (⟨u, sN.kind, sN.target, sN.offset, sN.scale, sN.error, sN.drift, sN.life⟩) rfl rfl rfl rfl (by repeat (first | apply OSeg.cons | exact OSeg.here | exact OSeg.last | exact OSeg.at (by assumption) | apply OSeg.app)) (by assumption) (fun _ => rfl) (by assumption) (by decide) (by rfl) (by rfl)) ?_
    rintro v L' R' ⟨rfl, rfl⟩
    refine LJ_nil (blockK_normal ?_)
    exact q_j ⟨(s.sensors.l.set (s.sensors.l.length - 1) ⟨u, sN.kind, sN.target, sN.offset, sN.scale, sN.error, sN.drift, sN.life⟩, s.conds.l, zl, z0.hold, rd, ⟨oP, s.persons.l⟩), List.length_set, rfl, hzl, hrdk, hkP⟩
   refine qae ?_
   refine qbn ?_
   refine qaz ?_
   refine qaf ?_
   refine q_c (fun hc2 => ?_) (fun hc2 => ?_)
   ·
    refine qay ?_
    refine qab ?_
    refine qac ?_
    refine qaa ?_
    refine yceah ?_
    refine qb0 ?_
    refine LJ_g0 (gives_store1_ow tb ((⟨oC, s.conds.l⟩ : OwL XCond)) (⟨c0.kind, u, c0.value, c0.level⟩) rfl rfl rfl rfl (by repeat (first | apply OSeg.cons | exact OSeg.here | exact OSeg.last | exact OSeg.at (by assumption) | apply OSeg.app)) (by assumption) (fun _ => rfl) (by assumption) (by decide) (by rfl) (by rfl)) ?_
    rintro v L' R' ⟨rfl, rfl⟩
    refine LJ_nil (blockK_normal ?_)
    exact q_j ⟨(s.sensors.l, s.conds.l.set 0 ⟨c0.kind, u, c0.value, c0.level⟩, zl, z0.hold, rd, ⟨oP, s.persons.l⟩), rfl, List.length_set, hzl, hrdk, hkP⟩
   refine qae ?_
   refine qbn ?_
   refine qaz ?_
   refine qaf ?_
   refine q_c (fun hc3 => ?_) (fun hc3 => ?_)
   ·
    refine qay ?_
    refine qab ?_
    refine qac ?_
    refine qaa ?_
    refine yceah ?_
    refine qb0 ?_
    refine LJ_g0 (gives_store1_ow tb ((⟨oC, s.conds.l⟩ : OwL XCond)) (⟨u, c0.target, c0.value, c0.level⟩) rfl rfl rfl rfl (by repeat (first | apply OSeg.cons | exact OSeg.here | exact OSeg.last | exact OSeg.at (by assumption) | apply OSeg.app)) (by assumption) (fun _ => rfl) (by assumption) (by decide) (by rfl) (by rfl)) ?_
    rintro v L' R' ⟨rfl, rfl⟩
    refine LJ_nil (blockK_normal ?_)
    exact q_j ⟨(s.sensors.l, s.conds.l.set 0 ⟨u, c0.target, c0.value, c0.level⟩, zl, z0.hold, rd, ⟨oP, s.persons.l⟩), rfl, List.length_set, hzl, hrdk, hkP⟩
   refine qae ?_
   refine qbn ?_
   refine qaz ?_
   refine qaf ?_
   refine q_c (fun hc4 => ?_) (fun hc4 => ?_)
   ·
    refine qay ?_
    refine qab ?_
    refine qac ?_
    refine qab ?_
    refine qac ?_
    refine qag ?_
    refine LJ_q (yv_sub64 rfl rfl (by dsimp only; omega) (by dsimp only; omega)) rfl ?_
    refine qaa ?_
    refine LJ_q (yv_index_ow tb ((⟨oC, s.conds.l⟩ : OwL XCond)) _ rfl rfl rfl rfl (by assumption) (i := s.conds.l.length - 1) (by first | rfl | omega | (simp; omega)) (by first | omega | (dsimp only; omega) | (dsimp only; rw [List.length_set]; omega) | (dsimp only; simp only [List.length_set]; omega))) rfl ?_
    refine qb0 ?_
    refine qb0 ?_
    refine LJ_g0 (gives_store1_ow tb ((⟨oC, s.conds.l⟩ : OwL XCond)) (⟨cN.kind, cN.target, cN.value, ⟨u, cN.level.clear, cN.level.delay⟩⟩) rfl rfl rfl rfl (by repeat (first | apply OSeg.cons | exact OSeg.here | exact OSeg.last | exact OSeg.at (by assumption) | apply OSeg.app)) (by assumption) (fun _ => rfl) (by assumption) (by decide) (by rfl) (by rfl)) ?_
    rintro v L' R' ⟨rfl, rfl⟩
    refine LJ_nil (blockK_normal ?_)
    exact q_j ⟨(s.sensors.l, s.conds.l.set (s.conds.l.length - 1) ⟨cN.kind, cN.target, cN.value, ⟨u, cN.level.clear, cN.level.delay⟩⟩, zl, z0.hold, rd, ⟨oP, s.persons.l⟩), rfl, List.length_set, hzl, hrdk, hkP⟩
   refine qae ?_
   refine qbn ?_
   refine qaz ?_
   refine qaf ?_
   refine q_c (fun hc5 => ?_) (fun hc5 => ?_)
   ·
    refine qay ?_
    refine qab ?_
    refine qac ?_
    refine qaa ?_
    refine LJ_q (yv_index_ow tb ((⟨oZ, zl⟩ : OwL XZone)) _ rfl rfl ((show _ = Value.slice _ _ _ from rfl).trans (by simp only [OwL.val, hzll])) rfl (by assumption) (i := 0) (by first | rfl | omega | (simp; omega)) (by first | omega | (dsimp only; omega) | (dsimp only; rw [List.length_set]; omega) | (dsimp only; simp only [List.length_set]; omega))) rfl ?_
    refine qb0 ?_
    refine LJ_g0 (gives_store1_ow tb ((⟨oZ, zl⟩ : OwL XZone)) (⟨z0.rule, u, rd.arr, z0.fresh⟩) rfl rfl rfl rfl (by repeat (first | apply OSeg.cons | exact OSeg.here | exact OSeg.last | exact OSeg.at (by assumption) | apply OSeg.app)) (by assumption) (fun _ => rfl) (by assumption) (by decide) (by rfl) (by rfl)) ?_
    rintro v L' R' ⟨rfl, rfl⟩
    refine LJ_nil (blockK_normal ?_)
    exact q_j ⟨(s.sensors.l, s.conds.l, zl.set 0 ⟨z0.rule, u, rd.arr, z0.fresh⟩, u, rd, ⟨oP, s.persons.l⟩), rfl, rfl, by dsimp only; rw [hzl, List.set_set], hrdk, hkP⟩
   refine qae ?_
   refine qbn ?_
   refine qaz ?_
   refine qaf ?_
   refine q_c (fun hc6 => ?_) (fun hc6 => ?_)
   ·
    refine CJ_drawn2 tb [88, 89] [0, 1, 2, 3, 4, 5, 6, 7, 8] [9, 10, 11, 12] (_) _ mixed (by kernel_rfl) (by repeat (first | exact zs0 _ | exact zs1 _ | apply zs2 | apply zs3 | apply zs4 | apply zs5)) (show ([⟨b3, [s.air.mine.places.val, s.air.mine.roads.val, s.air.fans.val, s.air.doors.val, (⟨oS, s.sensors.l⟩ : OwL XSens).val, (⟨oC, s.conds.l⟩ : OwL XCond).val, (⟨oZ, s.zones.l⟩ : OwL XZone).val, (⟨oP, s.persons.l⟩ : OwL Int).val], 36⟩] : List Blk).Sublist _ from (by repeat (first | exact zs0 _ | exact zs1 _ | apply zs2 | apply zs3 | apply zs4 | apply zs5))) ?_
    refine qcp ?_
    refine qcu ?_
    refine qan ?_
    refine qau ?_
    refine DJ3_q (yv_index_ow tb ((⟨oZ, zl⟩ : OwL XZone)) _ rfl rfl ((show _ = Value.slice _ _ _ from rfl).trans (by simp only [OwL.val, hzll])) rfl (by assumption) (i := 0) (by first | rfl | omega | (simp; omega)) (by first | omega | (dsimp only; omega) | (dsimp only; rw [List.length_set]; omega) | (dsimp only; simp only [List.length_set]; omega))) rfl rfl rfl rfl ?_
    refine qcv ?_
    refine DJ3_q (yv_load1_ow tb ((⟨oZ, zl⟩ : OwL XZone)) rfl rfl rfl (by repeat (first | apply OSeg.cons | exact OSeg.here | exact OSeg.last | exact OSeg.at (by assumption) | apply OSeg.app)) (by assumption) (fun _ => rfl) (by assumption) (by rfl)) rfl rfl rfl rfl ?_
    refine qbf ?_
    refine qc9 ?_
    rintro v L' R' ⟨b96, rfl, rfl, hR96⟩
    replace hR96 := hR96.symm; subst hR96
    refine qa1 ?_
    refine qba ?_
    refine DJ_g (gives_append1 (f := icell) (p := rd) (a := u) tb rfl rfl rfl rfl (hrdk) (by repeat (first | apply OSeg.cons | exact OSeg.here | exact OSeg.last | exact OSeg.at (by assumption) | apply OSeg.app)) (shown_own (by repeat (first | exact zi0 | apply zi1 | apply zi2)) rfl rfl) rfl (by first | omega | (simp only [List.length_cons, List.length_nil, List.length_append]; omega))) rfl rfl rfl ?_
    rintro v L' R' ⟨o97, rfl, hok97, rfl, rfl⟩
    refine qa1 ?_
    refine DJ_q (yv_index_ow tb ((⟨oZ, zl⟩ : OwL XZone)) _ rfl rfl ((show _ = Value.slice _ _ _ from rfl).trans (by simp only [OwL.val, hzll])) rfl (by assumption) (i := 0) (by first | rfl | omega | (simp; omega)) (by first | omega | (dsimp only; omega) | (dsimp only; rw [List.length_set]; omega) | (dsimp only; simp only [List.length_set]; omega))) rfl rfl rfl ?_
    refine qce ?_
    refine DJ_g0 (gives_store1_ow tb ((⟨oZ, zl⟩ : OwL XZone)) (⟨z0.rule, z0.hold, (⟨o97, rd.l ++ [u]⟩ : OwL Int).arr, z0.fresh⟩) rfl rfl rfl rfl (by repeat (first | apply OSeg.cons | exact OSeg.here | exact OSeg.last | exact OSeg.at (by assumption) | apply OSeg.app)) (by assumption) (fun _ => rfl) (by assumption) (by decide) (by rfl) (by rfl)) rfl rfl ?_
    rintro v L' R' ⟨rfl, rfl⟩
    refine qa1 ?_
    refine DJ_nil (blockK_normal ?_)
    exact q_j ⟨(s.sensors.l, s.conds.l, zl.set 0 ⟨z0.rule, z0.hold, (⟨o97, rd.l ++ [u]⟩ : OwL Int).arr, z0.fresh⟩, z0.hold, ⟨o97, rd.l ++ [u]⟩, ⟨oP, s.persons.l⟩), rfl, rfl, by dsimp only; rw [hzl, List.set_set], hok97, hkP⟩
   refine qae ?_
   refine qbn ?_
   refine qaz ?_
   refine qaf ?_
   refine q_c (fun hc7 => ?_) (fun hc7 => ?_)
   ·
    refine qay ?_
    refine qab ?_
    refine qac ?_
    refine qaa ?_
    refine LJ_q (yv_build (qs := [(0, (Value.int _ _).cells.toList)]) (out := [_]) tb rfl rfl rfl rfl) rfl ?_
    refine LJ_g (gives_buildSlice (qs := [(0, (Value.agg _).cells.toList)]) (out := [_]) tb rfl rfl rfl rfl rfl rfl rfl) rfl ?_
    rintro v L' R' ⟨b106, rfl, rfl, hR106⟩
    replace hR106 := hR106.symm; subst hR106
    refine LJ_g (gives_append1 (f := icell) (p := (⟨oP, s.persons.l⟩ : OwL Int)) (a := u) tb rfl rfl rfl rfl (hkP) (by repeat (first | apply OSeg.cons | exact OSeg.here | exact OSeg.last | exact OSeg.at (by assumption) | apply OSeg.app)) (shown_own (by repeat (first | exact zi0 | apply zi1 | apply zi2)) rfl rfl) rfl (by first | omega | (simp only [List.length_cons, List.length_nil, List.length_append]; omega))) rfl ?_
    rintro v L' R' ⟨o107, rfl, hok107, rfl, rfl⟩
    refine qab ?_
    refine qcy ?_
    refine LJ_nil (blockK_normal ?_)
    exact q_j ⟨(s.sensors.l, s.conds.l, zl, z0.hold, rd, ⟨o107, s.persons.l ++ [u]⟩), rfl, rfl, hzl, hrdk, hok107⟩
   refine CJ_skip (blockK_normal ?_)
   exact q_j ⟨(s.sensors.l, s.conds.l, zl, z0.hold, rd, ⟨oP, s.persons.l⟩), rfl, rfl, hzl, hrdk, hkP⟩
  rintro ⟨⟨sl2, cl2, zl2, ho, rd2, ps2⟩, hsl2, hcl2, hzl2, hrk2, hpk2⟩ junk
  try dsimp only
  dsimp only at hsl2 hcl2 hzl2 hrk2 hpk2
  have hzll2 : zl2.length = s.zones.l.length := by rw [hzl2, List.length_set]
  have e1 : (⟨oS, s.sensors.l⟩ : OwL XSens).val = (⟨oS, sl2⟩ : OwL XSens).val := by simp only [OwL.val, hsl2]
  have e2 : (⟨oC, s.conds.l⟩ : OwL XCond).val = (⟨oC, cl2⟩ : OwL XCond).val := by simp only [OwL.val, hcl2]
  have e3 : (⟨oZ, s.zones.l⟩ : OwL XZone).val = (⟨oZ, zl2⟩ : OwL XZone).val := by simp only [OwL.val, hzll2]
  rw [e1, e2, e3]
  have k1 : (⟨oS, sl2⟩ : OwL XSens).ok 8 XSens.cells := OwL.len_ok (fun _ => rfl) hkS hsl2
  have k2 : (⟨oC, cl2⟩ : OwL XCond).ok 6 XCond.cells := OwL.len_ok (fun _ => rfl) hkC hcl2
  have k3 : (⟨oZ, zl2⟩ : OwL XZone).ok 4 XZone.cells := OwL.len_ok (fun _ => rfl) hkZ hzll2
  refine CJ_frzS (T := 3) (f := icell) (wd := 1) rd2 [] (by repeat (first | apply OSeg.cons | exact OSeg.here | exact OSeg.last | exact OSeg.at (by assumption) | apply OSeg.app)) (fun _ => rfl) (by decide) hrk2 (fun s hs => by cases hs) ?_
  refine CJ_frzS (T := 109) (f := XZone.cells) (wd := 4) (⟨oZ, zl2⟩ : OwL XZone) (zl2.flatMap XZone.subs) (by repeat (first | apply OSeg.cons | exact OSeg.here | exact OSeg.last | exact OSeg.at (by assumption) | apply OSeg.app)) (fun _ => rfl) (by decide) k3 (fun q hq => by
    obtain ⟨zz, hzz, hq⟩ := List.mem_flatMap.1 hq
    rw [hzl2] at hzz
    rcases List.mem_or_eq_of_mem_set hzz with h | rfl
    · exact (hzR.sub (.deep (List.mem_flatMap.2 ⟨zz, h, hq⟩) .here)).mono fun r h => inR_self (.tail _ h)
    · simp only [XZone.subs, List.mem_cons, List.not_mem_nil, or_false] at hq
      rcases hq with rfl | rfl
      · exact (InR.rule hzR hzg).mono fun r h => inR_self (.tail _ h)
      · exact inR_self (.head _)) ?_
  refine CJ_frzS (T := 128) (f := XSens.cells) (wd := 8) (⟨oS, sl2⟩ : OwL XSens) [] (by repeat (first | apply OSeg.cons | exact OSeg.here | exact OSeg.last | exact OSeg.at (by assumption) | apply OSeg.app)) (fun _ => rfl) (by decide) k1 (fun s hs => by cases hs) ?_
  refine CJ_frzS (T := 133) (f := XCond.cells) (wd := 6) (⟨oC, cl2⟩ : OwL XCond) [] (by repeat (first | apply OSeg.cons | exact OSeg.here | exact OSeg.last | exact OSeg.at (by assumption) | apply OSeg.app)) (fun _ => rfl) (by decide) k2 (fun s hs => by cases hs) ?_
  refine CJ_frzS (T := 87) (f := icell) (wd := 1) ps2 [] (by repeat (first | apply OSeg.cons | exact OSeg.here | exact OSeg.last | exact OSeg.at (by assumption) | apply OSeg.app)) (fun _ => rfl) (by decide) hpk2 (fun s hs => by cases hs) ?_
  obtain ⟨R2, hR2e⟩ : ∃ R2, R2 = isl ps2.arr :: cnsl (⟨oC, cl2⟩ : OwL XCond).arr :: sesl (⟨oS, sl2⟩ : OwL XSens).arr :: zosl (⟨oZ, zl2⟩ : OwL XZone).arr :: isl rd2.arr :: R := ⟨_, rfl⟩
  have hR2 : ∀ r ∈ R, InR r R2 := fun r hr => inR_self (by rw [hR2e]; exact .tail _ (.tail _ (.tail _ (.tail _ (.tail _ hr)))))
  have i1 : InR (isl ps2.arr) R2 := inR_self (by rw [hR2e]; exact .head _)
  have i2 : InR (cnsl (⟨oC, cl2⟩ : OwL XCond).arr) R2 := inR_self (by rw [hR2e]; exact .tail _ (.head _))
  have i3 : InR (sesl (⟨oS, sl2⟩ : OwL XSens).arr) R2 := inR_self (by rw [hR2e]; exact .tail _ (.tail _ (.head _)))
  have i4 : InR (zosl (⟨oZ, zl2⟩ : OwL XZone).arr) R2 := inR_self (by rw [hR2e]; exact .tail _ (.tail _ (.tail _ (.head _))))
  refine CJ_R (show _ = R2 by rw [hR2e]) ?_
  refine qae ?_
  refine LJ_q (yv_loadN (row := [_, _, _, _, _, _, _, _]) tb rfl rfl rfl (by repeat (first | exact zi0 | apply zi1 | apply zi2)) (by rfl) (by rfl)) rfl ?_
  refine qak ?_
  refine qa0 ?_
  refine q_r (L' := L) (R' := R2) (res1 rfl (rv_cell (row := [_, _, _, _, _, _, _, _]) tb rfl rfl rfl (by repeat (first | exact zi0 | apply zi1 | apply zi2)) (by rfl) (by rfl))) ?_
  exact ⟨⟨s.air, (⟨oS, sl2⟩ : OwL XSens).arr, (⟨oC, cl2⟩ : OwL XCond).arr, (⟨oZ, zl2⟩ : OwL XZone).arr, ps2.arr⟩, rfl, ⟨⟨⟨hs.air.places.mono hR2, hs.air.roads.mono hR2, hs.air.fans.mono hR2, hs.air.doors.mono hR2⟩, i3, i2, i4, i1⟩, hR2⟩, rfl⟩
end Go.Proofs.Ytkpfjmibipblhaa
end
section
/-
  Statements about chapter 20: which sites are right. By an AI agent; no person has read it.
-/
set_option linter.unusedSimpArgs false
set_option linter.unusedVariables false
namespace Go.Proofs.Ytkpfjmibipblhaa
open Go.Aw Go
set_option maxRecDepth 20000
attribute [local irreducible] CJ LJ DJ Tri YV Gives seqK blockK loopK retK RV mergeK OwL.L
section
variable {A9 B9 : Prop}
theorem ycfaa (a : A9) (h : A9 → B9 := by exact DJ_q (yv_loadN (row := [_, _, _, _, _, _, _, _]) tb rfl rfl rfl (by repeat (first | exact zi0 | apply zi1 | apply zi2)) (by rfl) (by rfl)) rfl rfl rfl) : B9 := h a
end
theorem SiteD.spoil {s : XSite} {u : XSetting} {x : XState} (h : SiteD s u x) : ((1 ≤ s.sensors.l.length ∧ s.sensors.l.length ≤ 64) ∧ (1 ≤ s.conds.l.length ∧ s.conds.l.length ≤ 64) ∧ (1 ≤ s.zones.l.length ∧ s.zones.l.length ≤ 16) ∧ s.persons.l.length ≤ 64) ∧ ∀ z ∈ s.zones.l, z.roads.l.length ≤ 1000 := by
  have h1 := h.nsens
  have h2 := h.ncond
  have h3 := h.nzone
  have h4 := h.air.nroads
  refine ⟨⟨by omega, by omega, by omega, by rw [h.pers]; decide⟩, fun z hz => ?_⟩
  have := (h.zone z hz).roads.len
  omega
set_option maxHeartbeats 1000000 in
theorem cutoffChecks_law (y : Arr Int) (raw : XSite) (w u : Int) (R : List Sl) (hy : CodesR y R) (hraw : SiteR raw R) (hw : I64 w) (hu : I64 u) :
    Tri Try.prog 3 [y.val, raw.val, .int .i64 w, .int .i64 u].toArray [] R (fun v L' R' => v = .bool true ∧ [] = L' ∧ R = R') := by
  refine tri_enter 71 Try.call3 Try.func3 rfl rfl rfl ?_
  refine qae ?_
  refine qax ?_
  intro b5
  refine qaz ?_
  refine qaw ?_
  iterate 3 refine qab ?_
  refine qac ?_
  refine qag ?_
  refine qa5 ?_
  refine qah ?_
  apply LJ_or (G := [_, _, _, _, _, _]) (j := 6) (cj := 18) rfl rfl (by rfl) rfl (show _ = Value.bool _ from rfl) rfl
  ·
   intro hg7
   replace hg7 := qb hg7
   iterate 3 refine qab ?_
   refine qac ?_
   refine qag ?_
   refine qa5 ?_
   exact qai
  intro junk7
  refine qah ?_
  apply LJ_or (G := [_, _, _, _]) (j := 14) (cj := 26) rfl rfl (by rfl) rfl (show _ = Value.bool _ from rfl) rfl
  ·
   intro hg15
   replace hg15 := qb hg15
   refine qab ?_
   refine qac ?_
   refine qag ?_
   refine qa5 ?_
   exact qai
  intro junk15
  refine qah ?_
  apply LJ_or (G := [_, _, _, _]) (j := 20) (cj := 32) rfl rfl (by rfl) rfl (show _ = Value.bool _ from rfl) rfl
  ·
   intro hg21
   replace hg21 := qb hg21
   refine qab ?_
   refine qac ?_
   refine qag ?_
   refine qa5 ?_
   exact qai
  intro junk21
  refine qah ?_
  apply LJ_or (G := [_, _, _, _]) (j := 26) (cj := 38) rfl rfl (by rfl) rfl (show _ = Value.bool _ from rfl) rfl
  ·
   intro hg27
   replace hg27 := qb hg27
   refine qab ?_
   refine qac ?_
   refine qag ?_
   refine qa5 ?_
   exact qai
  intro junk27
  refine qaf ?_
  refine q_c (fun hc0 => ?_) (fun hc0 => ?_)
  ·
   refine qae ?_
   refine q_l rfl (awake20_tri _ _) ?_
   refine qaz ?_
   refine qbh ?_
   refine retK_ret (L' := []) (R' := R) (res1 rfl (rv_tmp (show _ = Value.bool _ from rfl))) ?hp ?hL ?hR
   case hp => exact ⟨rfl, rfl, rfl⟩
   case hL => exact List.nil_sublist _
   case hR => exact allR_self _
  refine qbv ?_
  refine qbm ?_
  refine LJ_call rfl (new_tri y _ _ hy) rfl ?_
  rintro v L' R' ⟨c, rfl, hx, rfl, rfl⟩
  refine LJ_call rfl (Tri.spl (.consL .rest) (drawSite_tri c (codes300 y) 0 _ hx (Nat.zero_le _))) rfl ?_
  rintro v L' R' ⟨_, rfl, s, z, x, k1, rfl, hD, hk1, ⟨hs, hu, hz, hR0⟩, rfl⟩
  refine LJ_q (yv_move rfl) rfl ?_
  iterate 3 refine qbs ?_
  refine qaq ?_
  intro b9
  refine qaq ?_
  intro b10
  refine qaq ?_
  intro b11
  iterate 3 refine qak ?_
  refine qa4 ?_
  have hRR : ∀ r ∈ R, InR r R' := fun r hr => hR0 r (.tail _ hr)
  refine qay ?_
  refine LJ_q (yv_loadN (row := [_, _, _, _, _, _, _, _]) tb rfl rfl rfl (by repeat (first | exact zi0 | apply zi1 | apply zi2)) (by rfl) (by rfl)) rfl ?_
  refine qaa ?_
  refine qaa ?_
  refine LJ_call rfl (spoilt_tri s w u _ _ hs hw hD.spoil.1 hD.spoil.2) rfl ?_
  rintro v L' R' ⟨s2, rfl, ⟨hs2, hR2⟩, rfl⟩
  refine qak ?_
  refine qa4 ?_
  have hraw2 := (hraw.mono hRR).mono hR2
  refine CJ_drawn tb [0, 2, 1, 3, 4, 5, 6, 8, 7, 9, 10, 11, 12, 13, 14, 15] _ mixed (by kernel_rfl) (List.Sublist.refl _) ?_
  refine ycfaa ?_
  refine ycfaa ?_
  refine q_d rfl (siteCheck_tri s2 _ _ hs2) ?_
  refine q_d rfl (refSite_tri s2 _ _ hs2) ?_
  refine DJ_q (yv_eql rfl rfl) rfl rfl rfl ?_
  refine qb2 ?_
  refine DJ_case (k := 61) (show _ = Value.bool _ from rfl) (fun hg5 => ?_) (fun hg5 => ?_)
  ·
   replace hg5 := qb hg5
   refine ycfaa ?_
   refine ycfaa ?_
   refine q_d rfl (siteCheck_tri raw _ _ hraw2) ?_
   refine q_d rfl (refSite_tri raw _ _ hraw2) ?_
   refine DJ_q (yv_eql rfl rfl) rfl rfl rfl ?_
   refine qbp ?_
   refine qb2 ?_
   refine DJ_case (k := 68) (show _ = Value.bool _ from rfl) (fun hg12 => ?_) (fun hg12 => ?_)
   ·
    replace hg12 := qb hg12
    refine q_d rfl (awake20_tri _ _) ?_
    refine qbp ?_
    refine DJ_q (yv_assign (show _ = Value.bool _ from rfl)) rfl rfl rfl ?_
    refine DJ_nil (seqK_normal (CJ_ret ?_))
    refine retK_ret (L' := []) (R' := R) (res1 rfl (rv_tmp (show _ = Value.bool _ from rfl))) ?hp ?hL ?hR
    case hp => exact ⟨rfl, rfl, rfl⟩
    case hL => exact List.nil_sublist _
    case hR => exact fun r hr => (hRR r hr).mono hR2
   replace hg12 := qb hg12
   exact absurd trivial hg12
  replace hg5 := qb hg5
  exact absurd trivial hg5
end Go.Proofs.Ytkpfjmibipblhaa
end
