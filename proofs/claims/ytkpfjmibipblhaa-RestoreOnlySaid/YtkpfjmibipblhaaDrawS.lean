/-
  The draws of chapter 20: a site. By an AI agent; no person has read it.
-/
import Derived.Test.YtkpfjmibipblhaaSiteD
set_option linter.unusedSimpArgs false
set_option linter.unusedVariables false
namespace Go.Proofs.Ytkpfjmibipblhaa
open Go.Aw Go
section
variable {A9 B9 : Prop}
theorem yclaa (a : A9) (h : A9 → B9 := by exact LJ_q (yv_build (qs := [(0, (Value.int _ _).cells.toList)]) (out := [_]) tb rfl rfl rfl rfl) rfl) : B9 := h a
theorem yclab (a : A9) (h : A9 → B9 := by exact DJ3_g (gives_buildSlice (qs := [(0, (Value.agg _).cells.toList)]) (out := [_, _, _, _, _, _, _, _]) tb rfl rfl rfl rfl rfl rfl rfl) rfl rfl rfl) : B9 := h a
theorem yclac (a : A9) (h : A9 → B9 := by exact CJ_drawn2 tb [] [0, 1, 2, 3, 4, 5, 6, 7, 8] [9, 10, 11] ([Blk.mk b8 _ _]) _ mixed (by kernel_rfl) (by repeat (first | exact zs0 _ | exact zs1 _ | apply zs2 | apply zs3 | apply zs4 | apply zs5)) (List.nil_sublist _)) : B9 := h a
theorem yclad (a : A9) (h : A9 → B9 := by exact DJ3_q (yv_loadN (row := [_, _, _, _, _, _, _, _]) tb rfl rfl rfl (by repeat (first | exact zi0 | apply zi1 | apply zi2)) (by rfl) (by rfl)) rfl rfl rfl rfl) : B9 := h a
theorem yclae (a : A9) (h : A9 → B9 := by exact DJ3_ql (yv_loadN (row := [_, _]) tb rfl rfl rfl (by repeat (first | exact zi0 | apply zi1 | apply zi2)) (by rfl) (by rfl)) rfl rfl rfl rfl) : B9 := h a
end
theorem CJ_frzBut {P n code t R} {Q : TPost} {A : List Blk} {m : MadeO} {cb : Blk} (hm : m.Ok) (hf : ∀ f ∈ m.fans.l, InR f.sl R) (hd : ∀ d ∈ m.doors.l, InR d.sl R)
    (h : ∀ R', InR (isl m.flows.arr) R' → InR (fsl m.fans.arr) R' → InR (dsl m.doors.arr) R' → InR (rsl m.roads.arr) R' → InR (isl m.tf.arr) R' → InR (isl m.td.arr) R' → (∀ r ∈ R, InR r R') →
      CJ P n code t (A ++ (m.pres.L 3 icell ++ (m.places.L 126 XPlace.cells ++ (cb :: [])))) R' Q) : CJ P n code t (A ++ m.L cb) R Q := by
  unfold MadeO.L
  have e0 : ∀ X : List Blk, A ++ (m.pres.L 3 icell ++ (m.places.L 126 XPlace.cells ++ X)) = (A ++ m.pres.L 3 icell ++ m.places.L 126 XPlace.cells) ++ X := fun X => by simp
  rw [e0]
  refine CJ_frz1 [] icell_len (by decide) hm.flows (fun s hs => by cases hs) ?_
  refine CJ_frz1 (m.fans.l.map XFan.sl) (fun _ => rfl) (by decide : 0 < 4) hm.fans (fun s hs => by obtain ⟨y, hy, rfl⟩ := List.mem_map.1 hs; exact (hf y hy).mono fun r hr => inR_self (by simp [hr])) ?_
  refine CJ_frz1 (m.doors.l.map XDoor.sl) (fun _ => rfl) (by decide : 0 < 3) hm.doors (fun s hs => by obtain ⟨y, hy, rfl⟩ := List.mem_map.1 hs; exact (hd y hy).mono fun r hr => inR_self (by simp [hr])) ?_
  refine CJ_frz1 [] (fun _ => rfl) (by decide : 0 < 10) hm.roads (fun s hs => by cases hs) ?_
  have e : ∀ X : List Blk, (A ++ m.pres.L 3 icell ++ m.places.L 126 XPlace.cells) ++ (cb :: X) = ((A ++ m.pres.L 3 icell ++ m.places.L 126 XPlace.cells) ++ [cb]) ++ X := fun X => by simp
  rw [e]
  refine CJ_frz1 [] icell_len (by decide) hm.tf (fun s hs => by cases hs) ?_
  refine CJ_frz1 [] icell_len (by decide) hm.td (fun s hs => by cases hs) ?_
  rw [List.append_nil, ← e0]
  refine h _ ?_ ?_ ?_ ?_ ?_ ?_ (fun r hr => inR_self (by simp [hr]))
  · exact inR_self (.tail _ (.tail _ (.tail _ (.tail _ (.tail _ (.head _))))))
  · exact inR_self (.tail _ (.tail _ (.tail _ (.tail _ (.head _)))))
  · exact inR_self (.tail _ (.tail _ (.tail _ (.head _))))
  · exact inR_self (.tail _ (.tail _ (.head _)))
  · exact inR_self (.tail _ (.head _))
  · exact inR_self (.head _)
structure JS where
  pl : OwL XPlace
  pres : OwL Int
  rd : Arr XRoad
  fans : Arr XFan
  doors : Arr XDoor
  s : XSetting
  fl : Arr Int
  v1 : Value
  v2 : Value
  R : List Sl
abbrev JS.a (j : JS) : XAir := ⟨⟨j.pl.arr, j.rd⟩, j.fans, j.doors⟩
abbrev JS.x (j : JS) : XState := ⟨j.pres.arr, j.fl⟩
structure JS.Ok (j : JS) (R0 : List Sl) : Prop where
  pl : j.pl.ok 2 XPlace.cells
  pres : j.pres.ok 1 icell
  rd : InR (rsl j.rd) j.R
  fans : InR (fsl j.fans) j.R
  doors : InR (dsl j.doors) j.R
  s : SetR j.s j.R
  fl : InR (isl j.fl) j.R
  air : AirD j.a j.s j.x
  mono : ∀ r ∈ R0, InR r j.R
set_option maxRecDepth 20000
attribute [local irreducible] CJ LJ DJ Tri YV Gives seqK blockK loopK retK RV mergeK OwL.L
theorem drawSite_tri (c : Nat) (x : Arr Int) (k : Nat) (R : List Sl) (hx : CodesR x R) (hk : k ≤ x.l.length) :
    Tri Try.prog 13 [.pointer (some ⟨c, 0, none⟩)].toArray [cblk c x k] R
      (fun v L' R' => ∃ (s : XSite) (u : XSetting) (z : XState) (k' : Nat), v = .tuple #[s.val, u.val, z.val] ∧ SiteD s u z ∧ k' ≤ x.l.length ∧ (SiteR s R' ∧ SetR u R' ∧ StateR z R' ∧ ∀ r ∈ R, InR r R') ∧ cblk c x k' :: [] = L') := by
  refine tri_enter 181 Try.call13 Try.func13 rfl rfl rfl ?_
  refine qae ?_
  refine qaq ?_
  intro b2
  refine qaq ?_
  intro b3
  refine qaq ?_
  intro b4
  refine qam ?_
  refine qa6 ?_
  refine LJ_call rfl (made1 (.consB (.consB (.consB (.consL .nil)))) hx hk) rfl ?_
  rintro v L' R' ⟨m, k1, S, rfl, hm, hMA, hif, hid, hk1, rfl, rfl⟩
  simp only [List.append_assoc, List.cons_append, List.nil_append]
  refine LJ_q (yv_move rfl) rfl ?_
  iterate 3 refine qbs ?_
  refine qaq ?_
  intro b5
  refine qaq ?_
  intro b6
  refine qaq ?_
  intro b7
  iterate 3 refine qak ?_
  refine qam ?_
  refine qa8 ?_
  refine LJ_q (yv_build (qs := [(0, (Value.agg _).cells.toList)]) (out := [_, _, _, _, _, _, _, _]) tb rfl rfl rfl rfl) rfl ?_
  refine qaq ?_
  intro b8
  refine qak ?_
  refine qco ?_
  refine CJ_frzBut (A := [_, _, _, _, _, _, _]) hm (fun f hf => (hif f hf).mono fun r hr => inR_self (by simp [hr])) (fun f hf => (hid f hf).mono fun r hr => inR_self (by simp [hr])) fun R1 r1 r2 r3 r4 r5 r6 hR1 => ?_
  refine qb1 ?_
  have hx1 : CodesR x R1 := hx.mono fun r hr => hR1 r (by simp [hr])
  have hR0 : ∀ r ∈ R, InR r R1 := fun r hr => hR1 r (by simp [hr])
  have hnp := hMA.nplaces
  have hnr := hMA.nroads
  have hpn := (fitsF_of hMA.err hMA.fit hMA.fits).plen
  refine qay ?_
  refine qab ?_
  refine qab ?_
  refine qac ?_
  refine qag ?_
  refine qbn ?_
  refine qaf ?_
  refine CJ_joinP [31, 32, 33, 34, 35, 36, 37, 38, 39, 40, 41, 42, 43, 44, 45, 46, 47, 48, 49, 50, 51, 52, 53, 54, 55, 56, 57, 58, 59] ((⟨fun _ => [], fun g => ⟨b8, [g.1.pl.val, g.1.rd.val, g.1.fans.val, g.1.doors.val, .slice none 0 0, .slice none 0 0, .slice none 0 0, .slice none 0 0], 36⟩ :: ⟨b7, [g.1.pres.val, g.1.fl.val], 42⟩ :: ⟨b6, g.1.s.cells, 40⟩ :: ⟨b5, [g.1.v1, g.1.v2, g.1.fans.val, g.1.doors.val], 30⟩ :: ⟨b4, [.slice none 0 0, .slice none 0 0], 42⟩ :: ⟨b3, [.slice none 0 0, .slice none 0 0], 40⟩ :: ⟨b2, [.slice none 0 0, .slice none 0 0, .slice none 0 0, .slice none 0 0, .slice none 0 0, .slice none 0 0, .slice none 0 0, .slice none 0 0], 36⟩ :: (g.1.pres.L 3 icell ++ (g.1.pl.L 126 XPlace.cells ++ (cblk c x k1 :: []))), fun g => g.1.R, fun _ => 0⟩ : Head {j : JS // j.Ok R})) ?_ ?_
  ·
   skip
   refine q_c (fun hc0 => ?_) (fun hc0 => ?_)
   ·
    have hr0 : m.a.mine.roads.l.length = 0 := by have : (m.roads.l.length : Int) = 0 := hc0; show m.roads.l.length = 0; omega
    have hr0' : m.roads.l.length = 0 := hr0
    have hpl1 : 1 ≤ m.places.l.length := hnp.1
    have hpl6 : m.places.l.length ≤ 6 := hnp.2
    have hpr6 : m.pres.l.length = m.places.l.length := hpn
    have hlen2 : (m.places.l ++ [(⟨0, true⟩ : XPlace)]).length = m.places.l.length + 1 := by simp
    have hlen1 : ((m.places.l ++ [(⟨0, true⟩ : XPlace)]).length : Int) - 1 = (m.places.l.length : Int) := by simp
    refine qae ?_
    iterate 3 refine qab ?_
    refine qac ?_
    refine LJ_q (yv_build (qs := [(1, (Value.bool _).cells.toList)]) (out := [_, _]) tb rfl rfl rfl rfl) rfl ?_
    refine LJ_g (gives_buildSlice (qs := [(0, (Value.agg _).cells.toList)]) (out := [_, _]) tb rfl rfl rfl rfl rfl rfl rfl) rfl ?_
    rintro v L' R' ⟨b36, rfl, rfl, hR36⟩
    replace hR36 := hR36.symm; subst hR36
    refine LJ_g (gives_append1 (f := XPlace.cells) (p := m.places) (a := ⟨0, true⟩) tb rfl rfl rfl rfl (hm.places) (by repeat (first | apply OSeg.cons | exact OSeg.here | exact OSeg.last | exact OSeg.at (by assumption) | apply OSeg.app)) (shown_own (by repeat (first | exact zi0 | apply zi1 | apply zi2)) rfl rfl) rfl (by first | omega | (simp only [List.length_cons, List.length_nil, List.length_append]; omega))) rfl ?_
    rintro v L' R' ⟨o37, rfl, hok37, rfl, rfl⟩
    iterate 3 refine qab ?_
    refine qcy ?_
    refine qam ?_
    iterate 3 refine qab ?_
    refine qac ?_
    refine qag ?_
    refine LJ_q (yv_sub64 rfl rfl (by dsimp only; omega) (by dsimp only; omega)) rfl ?_
    rw [hlen1]
    refine qcd ?_
    refine LJ_q (yv_build (qs := [(0, (Value.int _ _).cells.toList), (1, (Value.int _ _).cells.toList), (2, (Value.int _ _).cells.toList), (3, (Value.int _ _).cells.toList), (6, (Value.agg _).cells.toList)]) (out := [_, _, _, _, _, _, _, _, _, _]) tb rfl rfl rfl rfl) rfl ?_
    refine LJ_g (gives_buildSlice (qs := [(0, (Value.agg _).cells.toList)]) (out := [_, _, _, _, _, _, _, _, _, _]) tb rfl rfl rfl rfl rfl rfl rfl) rfl ?_
    rintro v L' R' ⟨b49, rfl, rfl, hR49⟩
    replace hR49 := hR49.symm; subst hR49
    refine LJ_frz (wd := 10) (len := 1) (cap := 1) (rows := [XRoad.cells (oneRoad m.places.l.length)]) (subs := []) rfl (by decide) (by decide) (fun r hr => by rw [List.mem_singleton.1 hr]; rfl) (by decide) rfl (fun s hs => by cases hs) ?_
    iterate 3 refine qab ?_
    refine qcy ?_
    refine LJ_nil (seqK_normal (CJ_region ?_))
    refine qab ?_
    refine qac ?_
    refine qcx ?_
    rintro v L' R' ⟨b55, rfl, rfl, hR55⟩
    replace hR55 := hR55.symm; subst hR55
    refine LJ_g (gives_append1 (f := icell) (p := m.pres) (a := 0) tb rfl rfl rfl rfl (hm.pres) (by repeat (first | apply OSeg.cons | exact OSeg.here | exact OSeg.last | exact OSeg.at (by assumption) | apply OSeg.app)) (shown_own (by repeat (first | exact zi0 | apply zi1 | apply zi2)) rfl rfl) rfl (by first | omega | (simp only [List.length_cons, List.length_nil, List.length_append]; omega))) rfl ?_
    rintro v L' R' ⟨o56, rfl, hok56, rfl, rfl⟩
    refine qcx ?_
    rintro v L' R' ⟨b57, rfl, rfl, hR57⟩
    replace hR57 := hR57.symm; subst hR57
    refine LJ_frz (wd := 1) (len := 1) (cap := 1) (rows := [icell 0]) (subs := []) rfl (by decide) (by decide) (fun r hr => by rw [List.mem_singleton.1 hr]; rfl) (by decide) rfl (fun s hs => by cases hs) ?_
    refine qab ?_
    refine qcy ?_
    refine qab ?_
    refine qcy ?_
    refine qav ?_
    exact joinPK_mk ⟨⟨⟨o37, m.places.l ++ [⟨0, true⟩]⟩, ⟨o56, m.pres.l ++ [0]⟩, ⟨some ⟨b49, 0, none⟩, 1, [oneRoad m.places.l.length]⟩, m.fans.arr, m.doors.arr, ⟨m.tf.arr, m.td.arr⟩, ⟨some ⟨b57, 0, none⟩, 1, [0]⟩, _, _, _⟩,
      ⟨hok37, hok56, inR_self (.tail _ (.head _)), r2.mono fun r h => inR_self (by simp [h]), r3.mono fun r h => inR_self (by simp [h]), ⟨r5.mono fun r h => inR_self (by simp [h]), r6.mono fun r h => inR_self (by simp [h])⟩, inR_self (.head _), airD_one hMA hr0 rfl rfl rfl rfl, fun r hr => (hR0 r hr).mono fun r h => inR_self (by simp [h])⟩⟩ (by repeat (first | exact Off.refl | apply Off.upd rfl | apply Off.havoc rfl | apply Off.updL rfl | apply Off.left rfl)) (by repeat' (first | exact trivial | refine And.intro rfl ?_)) (List.Perm.refl _) (by repeat (first | exact zs0 _ | exact zs1 _ | apply zs2 | apply zs3 | apply zs4 | apply zs5)) (allR_self _)
   refine CJ_skip ?_
   exact joinPK_mk ⟨⟨m.places, m.pres, m.roads.arr, m.fans.arr, m.doors.arr, ⟨m.tf.arr, m.td.arr⟩, m.flows.arr, _, _, _⟩,
     ⟨hm.places, hm.pres, r4, r2, r3, ⟨r5, r6⟩, r1, airD_of hMA (fun h => hc0 (by show (m.roads.l.length : Int) = 0; have : m.roads.l.length = 0 := h; omega)), hR0⟩⟩ (by repeat (first | exact Off.refl | apply Off.upd rfl | apply Off.havoc rfl | apply Off.updL rfl | apply Off.left rfl)) (by repeat' (first | exact trivial | refine And.intro rfl ?_)) (List.Perm.refl _) (by repeat (first | exact zs0 _ | exact zs1 _ | apply zs2 | apply zs3 | apply zs4 | apply zs5)) (allR_self _)
  rintro ⟨j, hj⟩ junk
  try dsimp only
  obtain ⟨j1, j2, j3, j4, j5, j6, j7, j8, j9⟩ := hj
  refine CJ_frz1 (A := [_, _, _, _, _, _, _]) (wd := 1) [] icell_len (by decide) j2 (fun s hs => by cases hs) ?_
  refine qb1 ?_
  refine CJ_frz1 (A := [_, _, _, _, _, _, _]) (wd := 2) [] (fun _ => rfl) (by decide) j1 (fun s hs => by cases hs) ?_
  refine qb1 ?_
  obtain ⟨R2, hR2e⟩ : ∃ R2, R2 = psl j.pl.arr :: isl j.pres.arr :: j.R := ⟨_, rfl⟩
  have hR2 : ∀ r ∈ j.R, InR r R2 := fun r hr => inR_self (by rw [hR2e]; exact .tail _ (.tail _ hr))
  refine CJ_R (show _ = R2 by rw [hR2e]) ?_
  obtain ⟨a, ha⟩ : ∃ a : XAir, a = j.a := ⟨_, rfl⟩
  obtain ⟨x0, hx0⟩ : ∃ x0 : XState, x0 = j.x := ⟨_, rfl⟩
  obtain ⟨u, hu⟩ : ∃ u : XSetting, u = j.s := ⟨_, rfl⟩
  obtain ⟨v1, hv1⟩ : ∃ v1 : Value, v1 = j.v1 := ⟨_, rfl⟩
  obtain ⟨v2, hv2⟩ : ∃ v2 : Value, v2 = j.v2 := ⟨_, rfl⟩
  have hAD : AirD a u x0 := by rw [ha, hx0, hu]; exact j8
  have hAR : AirR a R2 := by rw [ha]; exact ⟨inR_self (by rw [hR2e]; exact .head _), j3.mono hR2, j4.mono hR2, j5.mono hR2⟩
  have hUR : SetR u R2 := by rw [hu]; exact ⟨j6.fans.mono hR2, j6.doors.mono hR2⟩
  have hXR : StateR x0 R2 := by rw [hx0]; exact ⟨inR_self (by rw [hR2e]; exact .tail _ (.head _)), j7.mono hR2⟩
  have hR02 : ∀ r ∈ R, InR r R2 := fun r hr => (j9 r hr).mono hR2
  have hx2 : CodesR x R2 := hx.mono hR02
  have hna := hAD.nroads
  have hnf := hAD.nfans
  have hnd := hAD.ndoors
  refine CJ_L (show _ = ⟨b8, [a.mine.places.val, a.mine.roads.val, a.fans.val, a.doors.val, .slice none 0 0, .slice none 0 0, .slice none 0 0, .slice none 0 0], 36⟩ :: ⟨b7, x0.cells, 42⟩ :: ⟨b6, u.cells, 40⟩ :: ⟨b5, [v1, v2, a.fans.val, a.doors.val], 30⟩ :: ⟨b4, [.slice none 0 0, .slice none 0 0], 42⟩ :: ⟨b3, [.slice none 0 0, .slice none 0 0], 40⟩ :: ⟨b2, [.slice none 0 0, .slice none 0 0, .slice none 0 0, .slice none 0 0, .slice none 0 0, .slice none 0 0, .slice none 0 0, .slice none 0 0], 36⟩ :: cblk c x k1 :: [] by rw [ha, hx0, hu, hv1, hv2]; rfl) ?_
  refine CJ_seq ?_
  have e1 : a.mine.roads.l.length ≤ 9 := hna.2
  refine qay ?_
  iterate 3 refine qab ?_
  refine qac ?_
  refine qag ?_
  refine qad ?_
  refine qaw ?_
  refine qa6 ?_
  refine LJ_call rfl (range1 (by repeat (first | apply USeg.here | apply USeg.cons | apply USeg.app)) hx2 hk1 (by omega)) rfl ?_
  rintro v L' R' ⟨n0, k2, rfl, g0, g0', hk2, rfl, rfl⟩
  refine qad ?_
  refine qa2 ?_
  refine CJ_forget [(0, Value.pointer _), (2, Value.pointer _), (3, Value.pointer _), (4, Value.pointer _), (5, Value.pointer _), (6, Value.pointer _), (7, Value.pointer _), (8, Value.pointer _), (9, Value.int _ _), (10, Value.int _ _)] (by repeat' (first | exact trivial | refine And.intro rfl ?_)) fun tq0 => ?_
  refine CJ_loop [10, 11, 67, 68, 69, 70, 71, 72, 73, 74, 75, 76, 77, 78, 79, 80, 81, 82, 83, 84, 85, 86] ((⟨fun g => [(10, .int .i64 g.1.2.1)], fun g => g.1.2.2.L 128 XSens.cells ++ (⟨b8, [a.mine.places.val, a.mine.roads.val, a.fans.val, a.doors.val, g.1.2.2.val, .slice none 0 0, .slice none 0 0, .slice none 0 0], 36⟩ :: ⟨b7, x0.cells, 42⟩ :: ⟨b6, u.cells, 40⟩ :: ⟨b5, [v1, v2, a.fans.val, a.doors.val], 30⟩ :: ⟨b4, [.slice none 0 0, .slice none 0 0], 42⟩ :: ⟨b3, [.slice none 0 0, .slice none 0 0], 40⟩ :: ⟨b2, [.slice none 0 0, .slice none 0 0, .slice none 0 0, .slice none 0 0, .slice none 0 0, .slice none 0 0, .slice none 0 0, .slice none 0 0], 36⟩ :: cblk c x g.1.1 :: []), fun _ => R2, fun g => g.1.2.1.toNat⟩ : Head {g : Nat × Int × OwL XSens // g.1 ≤ x.l.length ∧ (0 ≤ g.2.1 ∧ 1 ≤ g.2.2.l.length + g.2.1 ∧ g.2.2.l.length + g.2.1 ≤ 4) ∧ g.2.2.ok 8 XSens.cells ∧ SenL a g.2.2.l})) (⟨(k2, n0, OwL.nil), hk2, by dsimp only [List.length_nil]; omega, OwL.nil_ok, fun i t h => by cases h⟩) (by repeat' (first | exact trivial | refine And.intro rfl ?_)) (by dsimp only; rw [nil_L, List.nil_append]; exact List.Sublist.refl _) (allR_self _) ?_
  rintro ⟨⟨kk, n, p⟩, hkk, hi, hpk, hSL⟩ junk
  try dsimp only
  dsimp only at hkk hi hpk hSL
  refine qbi ?_
  refine qaa ?_
  refine qa5 ?_
  refine qaf ?_
  refine q_c (fun hc1 => ?_) (fun hc1 => ?_)
  ·
   refine qbb ?_
   refine qa6 ?_
   refine LJ_call rfl (range1 (by repeat (first | apply USeg.here | apply USeg.cons | apply USeg.app)) hx2 hkk (by omega)) rfl ?_
   rintro v L' R' ⟨kd, k3, rfl, g3, g3', hk3, rfl, rfl⟩
   refine qad ?_
   refine qaf ?_
   refine CJ_drawn2 tb [] [0, 1, 2, 3, 4, 5, 6, 7, 8, 9, 10, 11] [12, 13, 14] ([Blk.mk b8 _ _]) _ mixed (by kernel_rfl) (by repeat (first | exact zs0 _ | exact zs1 _ | apply zs2 | apply zs3 | apply zs4 | apply zs5)) (List.nil_sublist _) ?_
   refine qan ?_
   refine qau ?_
   refine qb3 ?_
   refine qbf ?_
   refine qan ?_
   refine qau ?_
   refine DJ3_q (yv_len tb rfl rfl rfl) rfl rfl rfl rfl ?_
   refine qb3 ?_
   refine qbf ?_
   refine DJ3_call rfl (next1 (by repeat (first | apply USeg.here | apply USeg.cons | apply USeg.app)) hx2 hk3 (by omega)) rfl rfl ?_
   rintro v L' R' ⟨tg, k4, rfl, g4, g4', g4'', hk4, rfl, rfl⟩
   refine qas ?_
   have g4q := g4' (by omega)
   refine DJ3_call rfl (sensor1 (by repeat (first | apply USeg.here | apply USeg.cons | apply USeg.app)) hx2 hk4) rfl rfl ?_
   rintro v L' R' ⟨t, k5, rfl, ht, hk5, rfl, rfl⟩
   refine qas ?_
   refine yclab ?_
   rintro v L' R' ⟨b84, rfl, rfl, hR84⟩
   replace hR84 := hR84.symm; subst hR84
   refine qa1 ?_
   refine qba ?_
   refine DJ_g (gives_append1 (f := XSens.cells) (p := p) (a := t) tb rfl rfl rfl rfl (hpk) (by repeat (first | apply OSeg.cons | exact OSeg.here | exact OSeg.last | exact OSeg.at (by assumption) | apply OSeg.app)) (shown_own (by repeat (first | exact zi0 | apply zi1 | apply zi2)) rfl rfl) rfl (by first | omega | (simp only [List.length_cons, List.length_nil, List.length_append]; omega))) rfl rfl rfl ?_
   rintro v L' R' ⟨o85, rfl, hok85, rfl, rfl⟩
   refine qa1 ?_
   refine qal ?_
   refine qbw ?_
   refine qby ?_
   refine qaa ?_
   refine qa9 ?_
   refine qad ?_
   refine qav ?_
   exact q_k ⟨(k5, n - 1, (⟨o85, _⟩ : OwL XSens)), hk5, by dsimp only; simp only [List.length_append, List.length_cons, List.length_nil]; omega, hok85, hSL.snoc ⟨by rw [ht.kind]; omega, by rw [ht.kind, ht.target]; exact ht, by rw [ht.target, sensOf, if_neg (by rw [ht.kind]; omega), if_neg (by rw [ht.kind]; omega)]; omega⟩⟩
  refine qcf ?_
  refine qad ?_
  refine qa2 ?_
  refine CJ_forget [(0, Value.pointer _), (2, Value.pointer _), (3, Value.pointer _), (4, Value.pointer _), (5, Value.pointer _), (6, Value.pointer _), (7, Value.pointer _), (8, Value.pointer _), (9, Value.int _ _), (12, Value.int _ _)] (by repeat' (first | exact trivial | refine And.intro rfl ?_)) fun tq1 => ?_
  refine q_p [12, 87, 88, 89, 90, 91, 92, 93, 94, 95, 96, 97, 98, 99, 100, 101, 102, 103, 104] ((⟨fun g => [(12, .int .i64 ((g.1.2.1 : Nat) : Int))], fun g => g.1.2.2.L 128 XSens.cells ++ (⟨b8, [a.mine.places.val, a.mine.roads.val, a.fans.val, a.doors.val, g.1.2.2.val, .slice none 0 0, .slice none 0 0, .slice none 0 0], 36⟩ :: ⟨b7, x0.cells, 42⟩ :: ⟨b6, u.cells, 40⟩ :: ⟨b5, [v1, v2, a.fans.val, a.doors.val], 30⟩ :: ⟨b4, [.slice none 0 0, .slice none 0 0], 42⟩ :: ⟨b3, [.slice none 0 0, .slice none 0 0], 40⟩ :: ⟨b2, [.slice none 0 0, .slice none 0 0, .slice none 0 0, .slice none 0 0, .slice none 0 0, .slice none 0 0, .slice none 0 0, .slice none 0 0], 36⟩ :: cblk c x g.1.1 :: []), fun _ => R2, fun g => a.fans.l.length - g.1.2.1⟩ : Head {g : Nat × Nat × OwL XSens // g.1 ≤ x.l.length ∧ (g.2.1 ≤ a.fans.l.length ∧ 1 ≤ g.2.2.l.length ∧ g.2.2.l.length ≤ 4 + g.2.1) ∧ g.2.2.ok 8 XSens.cells ∧ SenL a g.2.2.l})) (⟨(kk, 0, p), hkk, by dsimp only; omega, hpk, hSL⟩) ?_
  rintro ⟨⟨kf, i, p1⟩, hkf, hi1, hpk1, hSL1⟩ junk
  try dsimp only
  dsimp only at hkf hi1 hpk1 hSL1
  refine qbi ?_
  refine qaa ?_
  refine qab ?_
  refine qac ?_
  refine qag ?_
  refine qaj ?_
  refine qaf ?_
  refine q_c (fun hc2 => ?_) (fun hc2 => ?_)
  ·
   refine CJ_skip (seqK_normal (CJ_seq (CJ_block ?_)))
   refine yclac ?_
   refine qan ?_
   refine qau ?_
   refine qb3 ?_
   refine qan ?_
   refine qau ?_
   refine DJ3_q (yv_len tb rfl rfl rfl) rfl rfl rfl rfl ?_
   refine qbf ?_
   refine DJ3_call rfl (sensor1 (by repeat (first | apply USeg.here | apply USeg.cons | apply USeg.app)) hx2 hkf) rfl rfl ?_
   rintro v L' R' ⟨t, k5, rfl, ht, hk5, rfl, rfl⟩
   refine qas ?_
   refine yclab ?_
   rintro v L' R' ⟨b102, rfl, rfl, hR102⟩
   replace hR102 := hR102.symm; subst hR102
   refine qa1 ?_
   refine qba ?_
   refine DJ_g (gives_append1 (f := XSens.cells) (p := p1) (a := t) tb rfl rfl rfl rfl (hpk1) (by repeat (first | apply OSeg.cons | exact OSeg.here | exact OSeg.last | exact OSeg.at (by assumption) | apply OSeg.app)) (shown_own (by repeat (first | exact zi0 | apply zi1 | apply zi2)) rfl rfl) rfl (by first | omega | (simp only [List.length_cons, List.length_nil, List.length_append]; omega))) rfl rfl rfl ?_
   rintro v L' R' ⟨o103, rfl, hok103, rfl, rfl⟩
   refine qa1 ?_
   refine qal ?_
   refine qbw ?_
   refine qby ?_
   refine qaa ?_
   refine qar ?_
   refine qad ?_
   refine qav ?_
   exact q_k ⟨(k5, i + 1, (⟨o103, _⟩ : OwL XSens)), hk5, by dsimp only; simp only [List.length_append, List.length_cons, List.length_nil]; omega, hok103, hSL1.snoc ⟨by rw [ht.kind]; omega, by rw [ht.kind, ht.target]; exact ht, by rw [ht.target, sensOf, if_pos (by rw [ht.kind])]; omega⟩⟩
  refine qcf ?_
  refine qad ?_
  refine qa2 ?_
  refine CJ_forget [(0, Value.pointer _), (2, Value.pointer _), (3, Value.pointer _), (4, Value.pointer _), (5, Value.pointer _), (6, Value.pointer _), (7, Value.pointer _), (8, Value.pointer _), (9, Value.int _ _), (13, Value.int _ _)] (by repeat' (first | exact trivial | refine And.intro rfl ?_)) fun tq2 => ?_
  refine q_p [13, 105, 106, 107, 108, 109, 110, 111, 112, 113, 114, 115, 116, 117, 118, 119, 120, 121, 122] ((⟨fun g => [(13, .int .i64 ((g.1.2.1 : Nat) : Int))], fun g => g.1.2.2.L 128 XSens.cells ++ (⟨b8, [a.mine.places.val, a.mine.roads.val, a.fans.val, a.doors.val, g.1.2.2.val, .slice none 0 0, .slice none 0 0, .slice none 0 0], 36⟩ :: ⟨b7, x0.cells, 42⟩ :: ⟨b6, u.cells, 40⟩ :: ⟨b5, [v1, v2, a.fans.val, a.doors.val], 30⟩ :: ⟨b4, [.slice none 0 0, .slice none 0 0], 42⟩ :: ⟨b3, [.slice none 0 0, .slice none 0 0], 40⟩ :: ⟨b2, [.slice none 0 0, .slice none 0 0, .slice none 0 0, .slice none 0 0, .slice none 0 0, .slice none 0 0, .slice none 0 0, .slice none 0 0], 36⟩ :: cblk c x g.1.1 :: []), fun _ => R2, fun g => a.doors.l.length - g.1.2.1⟩ : Head {g : Nat × Nat × OwL XSens // g.1 ≤ x.l.length ∧ (g.2.1 ≤ a.doors.l.length ∧ 1 ≤ g.2.2.l.length ∧ g.2.2.l.length ≤ 6 + g.2.1) ∧ g.2.2.ok 8 XSens.cells ∧ SenL a g.2.2.l})) (⟨(kf, 0, p1), hkf, by dsimp only; omega, hpk1, hSL1⟩) ?_
  rintro ⟨⟨kd2, i2, p2⟩, hkd2, hi2, hpk2, hSL2⟩ junk
  try dsimp only
  dsimp only at hkd2 hi2 hpk2 hSL2
  refine qbi ?_
  refine qaa ?_
  refine qab ?_
  refine qac ?_
  refine qag ?_
  refine qaj ?_
  refine qaf ?_
  refine q_c (fun hc3 => ?_) (fun hc3 => ?_)
  ·
   refine CJ_skip (seqK_normal (CJ_seq (CJ_block ?_)))
   refine yclac ?_
   refine qan ?_
   refine qau ?_
   refine qb3 ?_
   refine qan ?_
   refine qau ?_
   refine DJ3_q (yv_len tb rfl rfl rfl) rfl rfl rfl rfl ?_
   refine qbf ?_
   refine DJ3_call rfl (sensor1 (by repeat (first | apply USeg.here | apply USeg.cons | apply USeg.app)) hx2 hkd2) rfl rfl ?_
   rintro v L' R' ⟨t, k5, rfl, ht, hk5, rfl, rfl⟩
   refine qas ?_
   refine yclab ?_
   rintro v L' R' ⟨b120, rfl, rfl, hR120⟩
   replace hR120 := hR120.symm; subst hR120
   refine qa1 ?_
   refine qba ?_
   refine DJ_g (gives_append1 (f := XSens.cells) (p := p2) (a := t) tb rfl rfl rfl rfl (hpk2) (by repeat (first | apply OSeg.cons | exact OSeg.here | exact OSeg.last | exact OSeg.at (by assumption) | apply OSeg.app)) (shown_own (by repeat (first | exact zi0 | apply zi1 | apply zi2)) rfl rfl) rfl (by first | omega | (simp only [List.length_cons, List.length_nil, List.length_append]; omega))) rfl rfl rfl ?_
   rintro v L' R' ⟨o121, rfl, hok121, rfl, rfl⟩
   refine qa1 ?_
   refine qal ?_
   refine qbw ?_
   refine qby ?_
   refine qaa ?_
   refine qar ?_
   refine qad ?_
   refine qav ?_
   exact q_k ⟨(k5, i2 + 1, (⟨o121, _⟩ : OwL XSens)), hk5, by dsimp only; simp only [List.length_append, List.length_cons, List.length_nil]; omega, hok121, hSL2.snoc ⟨by rw [ht.kind]; omega, by rw [ht.kind, ht.target]; exact ht, by rw [ht.target, sensOf, if_neg (by rw [ht.kind]; decide), if_pos (by rw [ht.kind])]; omega⟩⟩
  refine CJ_exit (seqK_exit (loopK_exit (blockK_exit (seqK_normal (CJ_seq (CJ_seq ?_))))))
  refine CJ_frz1 (A := []) (wd := 8) [] (fun _ => rfl) (by decide) hpk2 (fun s hs => by cases hs) ?_
  refine CJ_L (by simp only [List.nil_append]; rfl) ?_
  obtain ⟨R3, hR3e⟩ : ∃ R3, R3 = sesl p2.arr :: R2 := ⟨_, rfl⟩
  have hR3 : ∀ r ∈ R2, InR r R3 := fun r hr => inR_self (by rw [hR3e]; exact .tail _ hr)
  have hsR : InR (sesl p2.arr) R3 := inR_self (by rw [hR3e]; exact .head _)
  have hx3 := hx2.mono hR3
  have hpl8 : 1 ≤ p2.l.length ∧ p2.l.length ≤ 8 := by omega
  refine CJ_R (show _ = R3 by rw [hR3e]) ?_
  refine qay ?_
  refine qa6 ?_
  refine LJ_call rfl (range1 (by repeat (first | apply USeg.here | apply USeg.cons | apply USeg.app)) hx3 hkd2 (by omega)) rfl ?_
  rintro v L' R' ⟨n1, k6, rfl, g6, g6', hk6, rfl, rfl⟩
  refine qad ?_
  refine qa2 ?_
  refine CJ_forget [(0, Value.pointer _), (2, Value.pointer _), (3, Value.pointer _), (4, Value.pointer _), (6, Value.pointer _), (7, Value.pointer _), (8, Value.pointer _), (9, Value.int _ _), (14, Value.int _ _)] (by repeat' (first | exact trivial | refine And.intro rfl ?_)) fun tq3 => ?_
  refine CJ_loop [14, 125, 126, 127, 128, 129, 130, 131, 132, 133, 134, 135, 136] ((⟨fun g => [(14, .int .i64 g.1.2.1)], fun g => g.1.2.2.L 133 XCond.cells ++ (⟨b8, [a.mine.places.val, a.mine.roads.val, a.fans.val, a.doors.val, p2.val, g.1.2.2.val, .slice none 0 0, .slice none 0 0], 36⟩ :: ⟨b7, x0.cells, 42⟩ :: ⟨b6, u.cells, 40⟩ :: ⟨b5, [v1, v2, a.fans.val, a.doors.val], 30⟩ :: ⟨b4, [.slice none 0 0, .slice none 0 0], 42⟩ :: ⟨b3, [.slice none 0 0, .slice none 0 0], 40⟩ :: ⟨b2, [.slice none 0 0, .slice none 0 0, .slice none 0 0, .slice none 0 0, .slice none 0 0, .slice none 0 0, .slice none 0 0, .slice none 0 0], 36⟩ :: cblk c x g.1.1 :: []), fun _ => R3, fun g => g.1.2.1.toNat⟩ : Head {g : Nat × Int × OwL XCond // g.1 ≤ x.l.length ∧ (0 ≤ g.2.1 ∧ 1 ≤ g.2.2.l.length + g.2.1 ∧ g.2.2.l.length + g.2.1 ≤ 4) ∧ g.2.2.ok 6 XCond.cells ∧ ∀ z ∈ g.2.2.l, CondD p2.l a.mine.roads.l.length z})) (⟨(k6, n1, OwL.nil), hk6, by dsimp only [List.length_nil]; omega, OwL.nil_ok, fun t h => by cases h⟩) (by repeat' (first | exact trivial | refine And.intro rfl ?_)) (by dsimp only; rw [nil_L, List.nil_append]; exact List.Sublist.refl _) (allR_self _) ?_
  rintro ⟨⟨kc, n2, q⟩, hkc, hi3, hqk, hCD⟩ junk
  try dsimp only
  dsimp only at hkc hi3 hqk hCD
  refine qbi ?_
  refine qaa ?_
  refine qa5 ?_
  refine qaf ?_
  refine q_c (fun hc4 => ?_) (fun hc4 => ?_)
  ·
   refine CJ_skip (seqK_normal (CJ_seq (CJ_block ?_)))
   refine CJ_drawn2 tb [] [0, 1, 2, 3, 4, 5] [6, 7, 8] ([Blk.mk b8 _ _]) _ mixed (by kernel_rfl) (by repeat (first | exact zs0 _ | exact zs1 _ | apply zs2 | apply zs3 | apply zs4 | apply zs5)) (List.nil_sublist _) ?_
   refine qan ?_
   refine qau ?_
   refine qb3 ?_
   refine yclad ?_
   refine DJ3_call rfl (cond1 (s := ⟨a, p2.arr, q.arr, ⟨none, 0, []⟩, ⟨none, 0, []⟩⟩) (by repeat (first | apply USeg.here | apply USeg.cons | apply USeg.app)) hx3 hkc hsR (by dsimp only; omega) (by dsimp only; omega)) rfl rfl ?_
   rintro v L' R' ⟨z, k7, rfl, hz, hk7, rfl, rfl⟩
   refine qas ?_
   refine DJ3_g (gives_buildSlice (qs := [(0, (Value.agg _).cells.toList)]) (out := [_, _, _, _, _, _]) tb rfl rfl rfl rfl rfl rfl rfl) rfl rfl rfl ?_
   rintro v L' R' ⟨b134, rfl, rfl, hR134⟩
   replace hR134 := hR134.symm; subst hR134
   refine qa1 ?_
   refine qba ?_
   refine DJ_g (gives_append1 (f := XCond.cells) (p := q) (a := z) tb rfl rfl rfl rfl (hqk) (by repeat (first | apply OSeg.cons | exact OSeg.here | exact OSeg.last | exact OSeg.at (by assumption) | apply OSeg.app)) (shown_own (by repeat (first | exact zi0 | apply zi1 | apply zi2)) rfl rfl) rfl (by first | omega | (simp only [List.length_cons, List.length_nil, List.length_append]; omega))) rfl rfl rfl ?_
   rintro v L' R' ⟨o135, rfl, hok135, rfl, rfl⟩
   refine qa1 ?_
   refine qal ?_
   refine qbw ?_
   refine qby ?_
   refine qaa ?_
   refine qa9 ?_
   refine qad ?_
   refine qav ?_
   exact q_k ⟨(k7, n2 - 1, (⟨o135, _⟩ : OwL XCond)), hk7, by dsimp only; simp only [List.length_append, List.length_cons, List.length_nil]; omega, hok135, fun y hy => by rcases List.mem_append.1 hy with h | h; exact hCD y h; rw [List.mem_singleton.1 h]; exact hz⟩
  refine CJ_exit (seqK_exit (loopK_exit (blockK_exit (seqK_normal (CJ_seq (CJ_seq ?_))))))
  refine CJ_frz1 (A := []) (wd := 6) [] (fun _ => rfl) (by decide) hqk (fun s hs => by cases hs) ?_
  refine CJ_L (by simp only [List.nil_append]; rfl) ?_
  obtain ⟨R4, hR4e⟩ : ∃ R4, R4 = cnsl q.arr :: R3 := ⟨_, rfl⟩
  have hR4 : ∀ r ∈ R3, InR r R4 := fun r hr => inR_self (by rw [hR4e]; exact .tail _ hr)
  have hqR : InR (cnsl q.arr) R4 := inR_self (by rw [hR4e]; exact .head _)
  have hx4 := hx3.mono hR4
  have hql4 : 1 ≤ q.l.length ∧ q.l.length ≤ 4 := by omega
  refine CJ_R (show _ = R4 by rw [hR4e]) ?_
  refine qay ?_
  refine qa6 ?_
  refine LJ_call rfl (range1 (by repeat (first | apply USeg.here | apply USeg.cons | apply USeg.app)) hx4 hkc (by omega)) rfl ?_
  rintro v L' R' ⟨n3, k8, rfl, g8, g8', hk8, rfl, rfl⟩
  refine qad ?_
  refine qa2 ?_
  refine CJ_forget [(0, Value.pointer _), (2, Value.pointer _), (3, Value.pointer _), (4, Value.pointer _), (6, Value.pointer _), (7, Value.pointer _), (8, Value.pointer _), (9, Value.int _ _), (15, Value.int _ _)] (by repeat' (first | exact trivial | refine And.intro rfl ?_)) fun tq4 => ?_
  refine CJ_loop [15, 16, 17, 139, 140, 141, 142, 143, 144, 145, 146, 147, 148, 149, 150, 151, 152, 153, 154, 155, 156, 157, 158, 159, 160, 161, 162, 163, 164, 165, 166, 167, 168, 169, 170, 171] ((⟨fun g => [(15, .int .i64 g.1.2.1)], fun g => g.1.2.2.1.L 109 XZone.cells ++ (⟨b8, [a.mine.places.val, a.mine.roads.val, a.fans.val, a.doors.val, p2.val, q.val, g.1.2.2.1.val, .slice none 0 0], 36⟩ :: ⟨b7, x0.cells, 42⟩ :: ⟨b6, u.cells, 40⟩ :: ⟨b5, [v1, v2, a.fans.val, a.doors.val], 30⟩ :: ⟨b4, [.slice none 0 0, .slice none 0 0], 42⟩ :: ⟨b3, [.slice none 0 0, .slice none 0 0], 40⟩ :: ⟨b2, [.slice none 0 0, .slice none 0 0, .slice none 0 0, .slice none 0 0, .slice none 0 0, .slice none 0 0, .slice none 0 0, .slice none 0 0], 36⟩ :: cblk c x g.1.1 :: []), fun g => g.1.2.2.2, fun g => g.1.2.1.toNat⟩ : Head {g : Nat × Int × OwL XZone × List Sl // g.1 ≤ x.l.length ∧ (0 ≤ g.2.1 ∧ 1 ≤ g.2.2.1.l.length + g.2.1 ∧ g.2.2.1.l.length + g.2.1 ≤ 3) ∧ g.2.2.1.ok 4 XZone.cells ∧ (∀ z ∈ g.2.2.1.l, ZoneD q.l.length a.mine.roads.l.length z ∧ ∀ s ∈ z.subs, InR s g.2.2.2) ∧ ∀ r ∈ R4, InR r g.2.2.2})) (⟨(k8, n3, OwL.nil, R4), hk8, by dsimp only [List.length_nil]; omega, OwL.nil_ok, (fun t h => by cases h), fun r hr => inR_self hr⟩) (by repeat' (first | exact trivial | refine And.intro rfl ?_)) (by dsimp only; rw [nil_L, List.nil_append]; exact List.Sublist.refl _) (allR_self _) ?_
  rintro ⟨⟨kz, n4, zs, R5⟩, hkz, hi4, hzk, hZD, hR5⟩ junk
  try dsimp only
  dsimp only at hkz hi4 hzk hZD hR5
  refine qbi ?_
  refine qaa ?_
  refine qa5 ?_
  refine qaf ?_
  refine q_c (fun hc5 => ?_) (fun hc5 => ?_)
  ·
   have hx5 := hx4.mono hR5
   refine qbb ?_
   refine qa6 ?_
   refine qab ?_
   refine qac ?_
   refine qag ?_
   refine LJ_call rfl (Tri.spl (.appB (.consB (.consB (.consB (.consB (.consB (.consB (.consB (.consL .nil))))))))) (drawRule_2 c x R5 q.l.length hx5 (by omega) kz hkz)) rfl ?_
   rintro v L' R' ⟨_, rfl, ru, k9, rfl, hruk, hruD, hk9, rfl, rfl⟩
   simp only [List.append_assoc, List.cons_append, List.nil_append]
   refine qa6 ?_
   refine LJ_call rfl (next1 (by repeat (first | apply USeg.here | apply USeg.cons | apply USeg.app)) hx5 hk9 (by omega)) rfl ?_
   rintro v L' R' ⟨ho, k10, rfl, g10, g10', g10'', hk10, rfl, rfl⟩
   have g10q := g10' (by omega)
   refine qa6 ?_
   refine LJ_call rfl (next1 (by repeat (first | apply USeg.here | apply USeg.cons | apply USeg.app)) hx5 hk10 (by omega)) rfl ?_
   rintro v L' R' ⟨fr, k11, rfl, g11, g11', g11'', hk11, rfl, rfl⟩
   have g11q := g11' (by omega)
   refine LJ_q (yv_build (qs := [(0, (Value.slice _ _ _).cells.toList), (1, (Value.int _ _).cells.toList), (3, (Value.int _ _).cells.toList)]) (out := [_, _, _, _]) tb rfl rfl rfl rfl) rfl ?_
   refine qaq ?_
   intro b16
   refine qak ?_
   refine qco ?_
   refine CJ_frzS (T := 161) (f := XNode.cells) (wd := 4) ru [] (by repeat (first | apply OSeg.cons | exact OSeg.here | exact OSeg.last | exact OSeg.at (by assumption) | apply OSeg.app)) (fun _ => rfl) (by decide) hruk (fun s hs => by cases hs) ?_
   refine CJ_L (by simp only [nil_L, List.nil_append]; rfl) ?_
   obtain ⟨R6, hR6e⟩ : ∃ R6, R6 = ndsl ru.arr :: R5 := ⟨_, rfl⟩
   have hR6 : ∀ r ∈ R5, InR r R6 := fun r hr => inR_self (by rw [hR6e]; exact .tail _ hr)
   have hruR : InR (ndsl ru.arr) R6 := inR_self (by rw [hR6e]; exact .head _)
   have hx6 := hx5.mono hR6
   refine CJ_R (show _ = R6 by rw [hR6e]) ?_
   refine qay ?_
   refine qad ?_
   refine qa2 ?_
   refine CJ_forgetW [15, 16, 17, 139, 140, 141, 142, 143, 144, 145, 146, 147, 148, 149, 150, 151, 152, 153, 154, 155, 156, 157, 158, 159, 160, 161, 162, 163, 164, 165, 166, 167, 168, 169, 170, 171] (by repeat (first | apply Off.upd rfl | apply Off.havoc rfl | refine Off.updL (t' := havoc _ _ _) rfl ?_ | exact Off.refl)) [(15, Value.int _ _), (16, Value.pointer _), (17, Value.int _ _)] (by repeat' (first | exact trivial | refine And.intro rfl ?_)) fun tq5 => ?_
   refine CJ_loop [17, 153, 154, 155, 156, 157, 158, 159, 160, 161, 162, 163, 164, 165] ((⟨fun g => [(17, .int .i64 ((g.1.2.1 : Nat) : Int))], fun g => g.1.2.2.L 3 icell ++ (⟨b16, [ru.val, .int .i64 ho, g.1.2.2.val, .int .i64 fr], 109⟩ :: (zs.L 109 XZone.cells ++ (⟨b8, [a.mine.places.val, a.mine.roads.val, a.fans.val, a.doors.val, p2.val, q.val, zs.val, .slice none 0 0], 36⟩ :: ⟨b7, x0.cells, 42⟩ :: ⟨b6, u.cells, 40⟩ :: ⟨b5, [v1, v2, a.fans.val, a.doors.val], 30⟩ :: ⟨b4, [.slice none 0 0, .slice none 0 0], 42⟩ :: ⟨b3, [.slice none 0 0, .slice none 0 0], 40⟩ :: ⟨b2, [.slice none 0 0, .slice none 0 0, .slice none 0 0, .slice none 0 0, .slice none 0 0, .slice none 0 0, .slice none 0 0, .slice none 0 0], 36⟩ :: cblk c x g.1.1 :: []))), fun _ => R6, fun g => a.mine.roads.l.length - g.1.2.1⟩ : Head {g : Nat × Nat × OwL Int // g.1 ≤ x.l.length ∧ g.2.1 ≤ a.mine.roads.l.length ∧ g.2.2.ok 1 icell ∧ RoadsA a.mine.roads.l.length g.2.1 g.2.2.l})) (⟨(k11, 0, OwL.nil), hk11, by dsimp only; omega, OwL.nil_ok, .nil⟩) (by repeat' (first | exact trivial | refine And.intro rfl ?_)) (by dsimp only; rw [nil_L, List.nil_append]; exact List.Sublist.refl _) (allR_self _) ?_
   rintro ⟨⟨kr, i5, rl⟩, hkr, hi5, hrlk, hRA⟩ junk
   try dsimp only
   dsimp only at hkr hi5 hrlk hRA
   have hrll := hRA.len
   refine qbi ?_
   refine qaa ?_
   refine qaa ?_
   refine qaj ?_
   refine qaf ?_
   refine q_c (fun hc6 => ?_) (fun hc6 => ?_)
   ·
    refine qbb ?_
    refine qa6 ?_
    refine LJ_call rfl (one1 (by repeat (first | apply USeg.here | apply USeg.cons | apply USeg.app)) hx6 hkr (by omega)) rfl ?_
    rintro v L' R' ⟨bb, k12, rfl, hk12, rfl, rfl⟩
    refine qaf ?_
    refine q_c (fun hc7 => ?_) (fun hc7 => ?_)
    ·
     refine qay ?_
     refine qab ?_
     refine qac ?_
     refine qaa ?_
     refine qcx ?_
     rintro v L' R' ⟨b163, rfl, rfl, hR163⟩
     replace hR163 := hR163.symm; subst hR163
     refine LJ_g (gives_append1 (f := icell) (p := rl) (a := (i5 : Int)) tb rfl rfl rfl rfl (hrlk) (by repeat (first | apply OSeg.cons | exact OSeg.here | exact OSeg.last | exact OSeg.at (by assumption) | apply OSeg.app)) (shown_own (by repeat (first | exact zi0 | apply zi1 | apply zi2)) rfl rfl) rfl (by first | omega | (simp only [List.length_cons, List.length_nil, List.length_append]; omega))) rfl ?_
     rintro v L' R' ⟨o164, rfl, hok164, rfl, rfl⟩
     refine qab ?_
     refine qcy ?_
     refine qcs ?_
     refine qaa ?_
     refine qar ?_
     refine qad ?_
     refine qav ?_
     exact q_k ⟨(k12, i5 + 1, (⟨o164, _⟩ : OwL Int)), hk12, by dsimp only; omega, hok164, hRA.next (by omega)⟩
    refine qbj ?_
    refine qaa ?_
    refine qar ?_
    refine qad ?_
    refine qav ?_
    exact q_k ⟨(k12, i5 + 1, rl), hk12, by dsimp only; omega, hrlk, hRA.stay⟩
   obtain rfl : i5 = a.mine.roads.l.length := by omega
   refine CJ_exit (seqK_exit (loopK_exit (blockK_exit (seqK_normal ?_))))
   refine CJ_frzS (T := 3) (f := icell) (wd := 1) rl [] (by repeat (first | apply OSeg.cons | exact OSeg.here | exact OSeg.last | exact OSeg.at (by assumption) | apply OSeg.app)) icell_len (by decide) hrlk (fun s hs => by cases hs) ?_
   refine CJ_L (by simp only [nil_L, List.nil_append]; rfl) ?_
   obtain ⟨R7, hR7e⟩ : ∃ R7, R7 = isl rl.arr :: R6 := ⟨_, rfl⟩
   have hR7 : ∀ r ∈ R6, InR r R7 := fun r hr => inR_self (by rw [hR7e]; exact .tail _ hr)
   have hrlR : InR (isl rl.arr) R7 := inR_self (by rw [hR7e]; exact .head _)
   refine CJ_R (show _ = R7 by rw [hR7e]) ?_
   refine qay ?_
   refine qab ?_
   refine qac ?_
   refine qa8 ?_
   refine LJ_g (gives_buildSlice (qs := [(0, (Value.agg _).cells.toList)]) (out := [_, _, _, _]) tb rfl rfl rfl rfl rfl rfl rfl) rfl ?_
   rintro v L' R' ⟨b169, rfl, rfl, hR169⟩
   replace hR169 := hR169.symm; subst hR169
   refine LJ_g (gives_append1 (f := XZone.cells) (p := zs) (a := ⟨ru.arr, ho, rl.arr, fr⟩) tb rfl rfl rfl rfl (hzk) (by repeat (first | apply OSeg.cons | exact OSeg.here | exact OSeg.last | exact OSeg.at (by assumption) | apply OSeg.app)) (shown_own (by repeat (first | exact zi0 | apply zi1 | apply zi2)) rfl rfl) rfl (by first | omega | (simp only [List.length_cons, List.length_nil, List.length_append]; omega))) rfl ?_
   rintro v L' R' ⟨o170, rfl, hok170, rfl, rfl⟩
   refine qab ?_
   refine qcy ?_
   refine qcs ?_
   refine qaa ?_
   refine qa9 ?_
   refine qad ?_
   refine qav ?_
   exact loopK_mk ⟨(kr, n4 - 1, (⟨o170, _⟩ : OwL XZone), R7), hkr, by dsimp only; simp only [List.length_append, List.length_cons, List.length_nil]; omega, hok170, (fun y hy => by
   rcases List.mem_append.1 hy with h | h
   · exact ⟨(hZD y h).1, fun s hs => (((hZD y h).2 s hs).mono hR6).mono hR7⟩
   · rw [List.mem_singleton.1 h]
     refine ⟨⟨hruD, by dsimp only; omega, by dsimp only; omega, hRA⟩, fun s hs => ?_⟩
     simp only [List.mem_cons, List.not_mem_nil, or_false] at hs
     rcases hs with rfl | rfl
     · exact hruR.mono hR7
     · exact hrlR), fun r hr => ((hR5 r hr).mono hR6).mono hR7⟩ (by repeat (first | exact Off.refl | apply Off.upd rfl | apply Off.havoc rfl | apply Off.updL rfl | apply Off.left rfl)) (by repeat' (first | exact trivial | refine And.intro rfl ?_)) (by repeat (first | exact zs0 _ | exact zs1 _ | apply zs2 | apply zs3 | apply zs4 | apply zs5)) (allR_self _) (by dsimp only; omega)
  refine qc3 ?_
  refine CJ_frz1 (A := []) (wd := 4) (zs.l.flatMap XZone.subs) (fun _ => rfl) (by decide) hzk (fun s hs => by obtain ⟨y, hy, hs⟩ := List.mem_flatMap.1 hs; exact (hZD y hy).2 s hs) ?_
  refine CJ_L (by simp only [List.nil_append]; rfl) ?_
  obtain ⟨R8, hR8e⟩ : ∃ R8, R8 = zosl zs.arr :: R5 := ⟨_, rfl⟩
  have hR8 : ∀ r ∈ R5, InR r R8 := fun r hr => inR_self (by rw [hR8e]; exact .tail _ hr)
  have hzR : InR (zosl zs.arr) R8 := inR_self (by rw [hR8e]; exact .head _)
  refine CJ_R (show _ = R8 by rw [hR8e]) ?_
  refine qay ?_
  iterate 4 refine yclaa ?_
  refine LJ_g (gives_buildSlice (qs := [(0, (Value.agg _).cells.toList), (1, (Value.agg _).cells.toList), (2, (Value.agg _).cells.toList), (3, (Value.agg _).cells.toList)]) (out := [_, _, _, _]) tb rfl rfl rfl rfl rfl rfl rfl) rfl ?_
  rintro v L' R' ⟨b176, rfl, rfl, hR176⟩
  replace hR176 := hR176.symm; subst hR176
  refine LJ_frz (wd := 1) (len := 4) (cap := 4) (rows := [icell 1, icell 2, icell 1, icell 3]) (subs := []) rfl (by decide) (by decide) (fun r hr => by simp only [List.mem_cons, List.not_mem_nil, or_false] at hr; rcases hr with rfl | rfl | rfl | rfl <;> rfl) (by decide) rfl (fun s hs => by cases hs) ?_
  refine qab ?_
  refine qcy ?_
  refine qa4 ?_
  obtain ⟨ps, hps⟩ : ∃ ps : Arr Int, ps = ⟨some ⟨b176, 0, none⟩, 4, [1, 2, 1, 3]⟩ := ⟨_, rfl⟩
  obtain ⟨R9, hR9e⟩ : ∃ R9, R9 = isl ps :: R8 := ⟨_, rfl⟩
  have hR9 : ∀ r ∈ R8, InR r R9 := fun r hr => inR_self (by rw [hR9e]; exact .tail _ hr)
  have hpsR : InR (isl ps) R9 := inR_self (by rw [hR9e]; exact .head _)
  refine CJ_R (show _ = R9 by rw [hR9e, hps]; rfl) ?_
  have up2 : ∀ r ∈ R2, InR r R9 := fun r hr => ((((hR3 r hr).mono hR4).mono hR5).mono hR8).mono hR9
  refine CJ_drawn2 tb [179, 180] [0, 1, 2] [3, 4, 5] ([Blk.mk b8 _ _, Blk.mk b7 _ _, Blk.mk b6 _ _]) _ mixed (by kernel_rfl) (by repeat (first | exact zs0 _ | exact zs1 _ | apply zs2 | apply zs3 | apply zs4 | apply zs5)) (by (repeat (first | apply List.Sublist.cons (a := Blk.mk b2 _ _) | apply List.Sublist.cons (a := Blk.mk b3 _ _) | apply List.Sublist.cons (a := Blk.mk b4 _ _) | apply List.Sublist.cons_cons)); exact List.Sublist.refl _) ?_
  refine yclad ?_
  refine yclae ?_
  refine yclae ?_
  refine qba ?_
  iterate 3 refine qbg ?_
  refine DJ_nil (seqK_normal (CJ_ret ?_))
  refine q_r (L' := cblk c x kz :: []) (R' := R9) (res3 rfl (rv_cell (row := [_, _, _, _, _, _, _, _]) tb rfl rfl rfl (by repeat (first | exact zi0 | apply zi1 | apply zi2)) (by rfl) (by rfl)) (rv_cell (row := [_, _]) tb rfl rfl rfl (by repeat (first | exact zi0 | apply zi1 | apply zi2)) (by rfl) (by rfl)) (rv_cell (row := [_, _]) tb rfl rfl rfl (by repeat (first | exact zi0 | apply zi1 | apply zi2)) (by rfl) (by rfl))) ?_
  refine ⟨⟨a, p2.arr, q.arr, zs.arr, ps⟩, u, x0, kz, ?_, ⟨hAD, hSL2, hpl8, hCD, hql4, fun z hz => (hZD z hz).1, by dsimp only; omega, by rw [hps]⟩, hkz, ⟨⟨⟨hAR.places.mono up2, hAR.roads.mono up2, hAR.fans.mono up2, hAR.doors.mono up2⟩, (((hsR.mono hR4).mono hR5).mono hR8).mono hR9, ((hqR.mono hR5).mono hR8).mono hR9, hzR.mono hR9, hpsR⟩, ⟨hUR.fans.mono up2, hUR.doors.mono up2⟩, ⟨hXR.pres.mono up2, hXR.flows.mono up2⟩, fun r hr => (hR02 r hr).mono up2⟩, rfl⟩
  rw [hps]
  rfl
end Go.Proofs.Ytkpfjmibipblhaa
