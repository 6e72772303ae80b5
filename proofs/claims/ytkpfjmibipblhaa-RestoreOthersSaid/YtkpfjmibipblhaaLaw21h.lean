/-
  Statements about chapter 21: other zones that are off. By an AI agent; no person has read it.
-/
import Derived.Test.YtkpfjmibipblhaaLaw21f
import Derived.Test.YtkpfjmibipblhaaFeedD
set_option linter.unusedSimpArgs false
set_option linter.unusedVariables false
namespace Go.Proofs.Ytkpfjmibipblhaa
open Go.Aw Go
set_option maxRecDepth 20000
attribute [local irreducible] CJ LJ DJ Tri YV Gives seqK blockK loopK retK RV mergeK OwL.L
section
variable {A9 B9 : Prop}
theorem ycwaa (a : A9) (h : A9 → B9 := by exact DJ_q (yv_move (show _ = Value.slice _ _ _ from rfl)) rfl rfl rfl) : B9 := h a
theorem ycwab (a : A9) (h : A9 → B9 := by exact WStep_g rfl (gives_buildSlice (qs := [(0, (Value.int _ _).cells.toList), (1, (Value.int _ _).cells.toList), (2, (Value.int _ _).cells.toList), (3, (Value.int _ _).cells.toList)]) (out := [_, _, _, _]) tb rfl rfl rfl rfl rfl rfl rfl) rfl rfl) : B9 := h a
theorem ycwac (a : A9) (h : A9 → B9 := by exact WStep_g rfl (gives_callL rfl (next1 (by repeat (first | apply USeg.here | apply USeg.cons | apply USeg.app)) hx2 hk5 (by omega))) rfl rfl) : B9 := h a
theorem ycwad (a : A9) (h : A9 → B9 := by exact WZ_q 13 hT8 (List.nil_sublist _) (by kernel_rfl) rfl rfl rfl rfl rfl (by first | exact yv_index_ro tb rfl rfl rfl rfl (by first | assumption | exact zr (by simp)) (i := r3.toNat) (by first | rfl | omega | (simp; omega)) (by omega) | exact yv_index tb rfl rfl rfl rfl (i := r3.toNat) (by first | rfl | omega | (simp; omega)) (by omega))) : B9 := h a
theorem ycwae (a : A9) (h : A9 → B9 := by exact WStep_g rfl (Go.Proofs.Ytkpfjmibipblhaa.YV.gives2 (yv_load1 tb rfl rfl rfl (show In1 ⟨b66, [.int .i64 1, .int .i64 (-1), .int .i64 (-1), .int .i64 0], _⟩ _ from (by repeat (first | exact zi0 | apply zi1 | apply zi2))) (icell_get (l := [1, -1, -1, 0]) hvg))) rfl rfl) : B9 := h a
theorem ycwaf (a : A9) (h : A9 → B9 := by exact WZ_q 15 hT8 (List.nil_sublist _) (by kernel_rfl) rfl rfl rfl rfl rfl (yv_build (qs := [(0, (Value.int _ _).cells.toList), (3, (Value.bool _).cells.toList), (2, (Value.int _ _).cells.toList)]) (out := [_, _, _, _, _]) tb rfl rfl rfl rfl)) : B9 := h a
theorem ycwag (a : A9) (h : A9 → B9 := by exact WStep_g rfl (gives_buildSlice (qs := [(0, (Value.agg _).cells.toList)]) (out := [_, _, _, _, _]) tb rfl rfl rfl rfl rfl rfl rfl) rfl rfl) : B9 := h a
theorem ycwah (a : A9) (h : A9 → B9 := by exact DJ_g (gives_append1 (f := XSwitch.cells) (p := p) (a := ⟨r1 - 1, 0, u, bo, false⟩) tb rfl rfl rfl rfl (hpk) (by repeat (first | apply OSeg.cons | exact OSeg.here | exact OSeg.last | exact OSeg.at (by assumption) | apply OSeg.app)) (shown_own (by repeat (first | exact zi0 | apply zi1 | apply zi2)) rfl rfl) rfl (by first | omega | (simp only [List.length_cons, List.length_nil, List.length_append]; omega))) rfl rfl rfl) : B9 := h a
theorem ycwai (a : A9) (h : A9 → B9 := by exact WStep_g rfl (gives_callL rfl (one1 (by repeat (first | apply USeg.here | apply USeg.cons | apply USeg.app)) hx2 hk4 (by omega))) rfl rfl) : B9 := h a
theorem ycwaj (a : A9) (h : A9 → B9 := by exact LJ_q (yv_build (qs := [(0, (Value.bool _).cells.toList)]) (out := [_, _, _]) tb rfl rfl rfl rfl) rfl) : B9 := h a
theorem ycwak (a : A9) (h : A9 → B9 := by exact LJ_q (yv_loadN (row := [_, _, _, _, _]) tb rfl rfl rfl (by repeat (first | exact zi0 | apply zi1 | apply zi2)) (by rfl) (by rfl)) rfl) : B9 := h a
theorem ycwal (a : A9) (h : A9 → B9 := by exact LJ_q (by first | exact yv_pick_true rfl rfl | exact yv_pick_false rfl rfl | exact yv_pick rfl) rfl) : B9 := h a
theorem ycwam (a : A9) (h : A9 → B9 := by exact DJ3_q (by first | exact yv_loadN_ro (row := [_, _, _, _]) tb rfl rfl rfl (by first | assumption | exact zr (by simp)) (by assumption) (by rfl) (by rfl) | exact yv_loadN (row := [_, _, _, _]) tb rfl rfl rfl (by repeat (first | exact zi0 | apply zi1 | apply zi2)) (by rfl) (by rfl)) rfl rfl rfl rfl) : B9 := h a
theorem ycwan (a : A9) (h : A9 → B9 := by exact WStep_g rfl (gives_callL rfl (next1 (by repeat (first | apply USeg.here | apply USeg.cons | apply USeg.app)) hx2 hk3 (by omega))) rfl rfl) : B9 := h a
theorem ycwao (a : A9) (h : A9 → B9 := by exact WZ_q 7 hT8 (List.nil_sublist _) (by kernel_rfl) rfl rfl rfl rfl rfl (by first | exact yv_sub64 rfl rfl (by omega) (by omega) | exact yv_sub rfl rfl)) : B9 := h a
theorem ycwap (a : A9) (h : A9 → B9 := by exact LJ_q (yv_loadN (row := [_, _, _]) tb rfl rfl rfl (by repeat (first | exact zi0 | apply zi1 | apply zi2)) (by rfl) (by rfl)) rfl) : B9 := h a
theorem ycwaq (a : A9) (h : A9 → B9 := by exact CJ_L (show _ = ⟨b12, XRest.cells ⟨0, 0, 1, 2, 990⟩, 78⟩ :: ⟨b6, f.cells, 71⟩ :: ⟨b4, (thriceS s zs).cells, 36⟩ :: [] from rfl)) : B9 := h a
theorem ycwar (a : A9) (h : A9 → B9 := by exact LJ_qg (yv_loadN (row := [_, _, _]) tb rfl rfl rfl (by repeat (first | exact zi0 | apply zi1 | apply zi2)) (by rfl) (by rfl)) rfl rfl) : B9 := h a
theorem ycwas (a : A9) (h : A9 → B9 := by exact DJ_q (by first | exact yv_index_ro tb rfl rfl rfl rfl (by first | assumption | exact zr (by simp)) (i := a.toNat) (by first | rfl | omega | (simp; omega)) (by omega) | exact yv_index tb rfl rfl rfl rfl (i := a.toNat) (by first | rfl | omega | (simp; omega)) (by omega)) rfl rfl rfl) : B9 := h a
theorem ycwat (a : A9) (h : A9 → B9 := by exact DJ_q (by first | exact yv_index_ro tb rfl rfl rfl rfl (by first | assumption | exact zr (by simp)) (i := 1) (by first | rfl | omega | (simp; omega)) (by omega) | exact yv_index tb rfl rfl rfl rfl (i := 1) (by first | rfl | omega | (simp; omega)) (by omega)) rfl rfl rfl) : B9 := h a
theorem ycwau (a : A9) (h : A9 → B9 := by exact DJ_q (by first | exact yv_index_ro tb rfl rfl rfl rfl (by first | assumption | exact zr (by simp)) (i := 2) (by first | rfl | omega | (simp; omega)) (by omega) | exact yv_index tb rfl rfl rfl rfl (i := 2) (by first | rfl | omega | (simp; omega)) (by omega)) rfl rfl rfl) : B9 := h a
end
theorem four_rng {k : Nat} : -1 ≤ ([1, -1, -1, 0] : List Int).getD k 0 ∧ ([1, -1, -1, 0] : List Int).getD k 0 ≤ 1 := by
  rcases k with _ | _ | _ | _ | k
  all_goals first | decide | (rw [List.getD_eq_getElem?_getD, List.getElem?_eq_none (by simp)]; decide)
theorem take_mem {l : List Int} {m : Nat} {v a : Int} (h : l[m]? = some v) : a ∈ l.take (m + 1) ↔ a ∈ l.take m ∨ a = v := by
  rw [List.take_add_one, h, Option.toList_some, List.mem_append, List.mem_singleton]
theorem take_ex {l : List Int} {m : Nat} {v : Int} {p : Int → Prop} (h : l[m]? = some v) : (∃ x ∈ l.take (m + 1), p x) ↔ (∃ x ∈ l.take m, p x) ∨ p v := by
  rw [List.take_add_one, h, Option.toList_some]
  simp only [List.mem_append, List.mem_singleton]
  constructor
  · rintro ⟨x, hx | rfl, hp⟩
    · exact .inl ⟨x, hx, hp⟩
    · exact .inr hp
  · rintro (⟨x, hx, hp⟩ | hp)
    · exact ⟨x, .inl hx, hp⟩
    · exact ⟨v, .inr rfl, hp⟩
theorem OthS.up {n : Nat} {l : List XSwitch} (h : OthS n l) : UpOk l := fun i hi => (h.sw i hi).1
set_option maxHeartbeats 4000000 in
theorem restoreOthers_law (y : Arr Int) (R : List Sl) (hy : CodesR y R) :
    Tri Try.prog 10 [y.val].toArray [] R (fun v L' R' => v = .bool true ∧ [] = L' ∧ R = R') := by
  refine tri_enter 328 Try.call10 Try.func10 rfl rfl rfl ?_
  refine qae ?_
  refine qaz ?_
  refine qam ?_
  refine qbm ?_
  refine LJ_call rfl (new_tri y _ _ hy) rfl ?_
  rintro v L' R' ⟨c, rfl, hx, rfl, rfl⟩
  refine qc1 ?_
  refine qam ?_
  refine qa6 ?_
  refine LJ_call rfl (drawEasy_tri c _ 0 _ hx (Nat.zero_le _)) rfl ?_
  rintro v L' R' ⟨s, len, dl, ho, sw, zn, n, k1, rfl, hE, ⟨hsk, hzk⟩, hn, hsl, hzl, ⟨hk1, _⟩, ⟨hs, hR0⟩, rfl⟩
  refine LJ_q (yv_move rfl) rfl ?_
  refine qbs ?_
  refine qbs ?_
  refine qaq ?_
  intro b4
  refine qaq ?_
  intro b5
  refine qak ?_
  refine qak ?_
  refine qa4 ?_
  refine CJ_weak (L' := ⟨b4, s.cells, 36⟩ :: cblk c (codes300 y) k1 :: []) (R' := R') (.cons _ (.cons_cons _ ((List.sublist_append_right _ _).trans (List.sublist_append_right _ _)))) (allR_self _) ?_
  have hRR : ∀ r ∈ R, InR r R' := fun r hr => hR0 r (.tail _ hr)
  obtain ⟨z, hz, zr, zh, zro, zf⟩ := hE.zone
  have hzc := hE.zcap
  have hzg : s.zones.l[0]? = some z := by rw [hz]; rfl
  have hzn1 : s.zones.l.length = 1 := by rw [hz]; rfl
  have hzsR := hs.zones
  have hx1 := hx.mono hR0
  refine CJ_drawn2 tb [] [0, 1, 2, 3, 4, 5, 6, 7, 8, 9, 10] [11, 12, 13] ([Blk.mk b4 _ _]) _ mixed (by kernel_rfl) (by repeat (first | exact zs0 _ | exact zs1 _ | apply zs2 | apply zs3 | apply zs4 | apply zs5)) (List.nil_sublist _) ?_
  refine qan ?_
  refine qau ?_
  refine qan ?_
  refine qau ?_
  refine qd2 ?_
  refine ycwam ?_
  refine qan ?_
  refine qau ?_
  refine qd2 ?_
  refine ycwam ?_
  refine DJ3_g (gives_buildSlice (qs := [(0, (Value.agg _).cells.toList), (1, (Value.agg _).cells.toList)]) (out := [_, _, _, _, _, _, _, _]) tb rfl rfl rfl rfl rfl rfl rfl) rfl rfl rfl ?_
  rintro v L' R' ⟨b45, rfl, rfl, hR45⟩
  replace hR45 := hR45.symm; subst hR45
  refine qa1 ?_
  refine qba ?_
  refine DJ_g (gives_appendR (f := XZone.cells) (xs := s.zones) (ys := [z, z]) (subs := s.zones.l.flatMap XZone.subs) (m := 2) tb rfl rfl rfl (by decide) rfl hzsR (by omega) (by omega) (shown_own (by repeat (first | exact zi0 | apply zi1 | apply zi2)) rfl rfl) rfl (by decide) (fun _ => rfl) (by omega)) rfl rfl rfl ?_
  rintro v L' R' ⟨o46, rfl, hok46, rfl, rfl⟩
  refine qa1 ?_
  refine qal ?_
  refine qbw ?_
  refine qb9 ?_
  have hsub : ∀ q ∈ [z, z, z].flatMap XZone.subs, InR q R' := fun q hq => by
    obtain ⟨zz, hzz, hq⟩ := List.mem_flatMap.1 hq
    have hzz : zz = z := by simpa using hzz
    rw [hzz] at hq
    exact hzsR.sub (.deep (List.mem_flatMap.2 ⟨z, List.mem_of_getElem? hzg, hq⟩) .here)
  have hz3 : s.zones.l ++ [z, z] = [z, z, z] := by rw [hz]; rfl
  rw [hz3] at hok46 ⊢
  refine CJ_frz1 (A := []) (p := (⟨o46, [z, z, z]⟩ : OwL XZone)) (wd := 4) ([z, z, z].flatMap XZone.subs) (fun _ => rfl) (by decide) hok46 hsub ?_
  refine CJ_weak (L' := ⟨b4, (thriceS s (⟨o46, [z, z, z]⟩ : OwL XZone).arr).cells, 36⟩ :: cblk c (codes300 y) k1 :: []) (.cons _ (List.Sublist.refl _)) (allR_self _) ?_
  obtain ⟨zs, hzs⟩ : ∃ zs : Arr XZone, zs = (⟨o46, [z, z, z]⟩ : OwL XZone).arr := ⟨_, rfl⟩
  obtain ⟨R2, hR2e⟩ : ∃ R2, R2 = zosl zs :: R' := ⟨_, rfl⟩
  have hR2 : ∀ r ∈ R', InR r R2 := fun r hr => inR_self (by rw [hR2e]; exact .tail _ hr)
  have hs2 : SiteR (thriceS s zs) R2 := ⟨(hs.mono hR2).air, (hs.mono hR2).sensors, (hs.mono hR2).conds, inR_self (by rw [hR2e]; exact .head _), (hs.mono hR2).persons⟩
  have hzl3 : zs.l = [z, z, z] := by rw [hzs]
  have hx2 := hx1.mono hR2
  refine CJ_R (show _ = R2 by rw [hR2e, hzs]) ?_
  refine CJ_L (show _ = ⟨b4, (thriceS s zs).cells, 36⟩ :: cblk c (codes300 y) k1 :: [] by rw [hzs]) ?_
  refine qay ?_
  refine LJ_q (yv_build (qs := [(2, (Value.int _ _).cells.toList)]) (out := [_, _, _]) tb rfl rfl rfl rfl) rfl ?_
  refine qaq ?_
  intro b6
  refine qak ?_
  refine qaw ?_
  refine qad ?_
  refine qa2 ?_
  refine CJ_forget [(3, Value.pointer _), (4, Value.pointer _), (6, Value.pointer _), (7, Value.int _ _)] (by repeat' (first | exact trivial | refine And.intro rfl ?_)) fun tq0 => ?_
  refine CJ_loop [7, 49, 50, 51, 52, 53, 54, 55, 56, 57, 58, 59, 60, 61, 62, 63, 64, 65, 66, 67, 68, 69, 70, 71, 72, 73, 74] ((⟨fun g => [(7, .int .i64 ((g.1.1 : Nat) : Int))], fun g => ⟨b6, [g.1.2.1.val, .slice none 0 0, .int .i64 3], 71⟩ :: (g.1.2.1.L 98 XSwitch.cells ++ (⟨b4, (thriceS s zs).cells, 36⟩ :: cblk c (codes300 y) g.1.2.2 :: [])), fun _ => R2, fun g => 6 - g.1.1⟩ : Head {g : Nat × OwL XSwitch × Nat // (g.1 ≤ 6 ∧ OthS g.1 g.2.1.l) ∧ g.2.1.ok 5 XSwitch.cells ∧ g.2.2 ≤ (codes300 y).l.length})) (⟨(0, OwL.nil, k1), ⟨by dsimp only; omega, .nil⟩, OwL.nil_ok, hk1⟩) (by repeat' (first | exact trivial | refine And.intro rfl ?_)) (by dsimp only; rw [nil_L, List.nil_append]; exact List.Sublist.refl _) (allR_self _) ?_
  rintro ⟨⟨i, p, k2⟩, ⟨hi, hpS⟩, hpk, hk2⟩ junk
  try dsimp only
  dsimp only at hi hpS hpk hk2
  have hpl := hpS.len
  refine qbi ?_
  refine qaa ?_
  refine qa6 ?_
  refine LJ_call rfl (next1 (by repeat (first | apply USeg.here | apply USeg.cons | apply USeg.app)) hx2 hk2 (by omega)) rfl ?_
  rintro v L' R' ⟨n0, k3, rfl, g0, g0', g0'', hk3, rfl, rfl⟩
  have g0q := g0' (by omega)
  refine qar ?_
  refine qaj ?_
  refine qaf ?_
  refine q_c (fun hc0 => ?_) (fun hc0 => ?_)
  ·
   refine CJ_skip (seqK_normal (CJ_seq (CJ_block ?_)))
   refine CJ_tree tb [] [0, 1, 2, 3, 4, 5, 8, 11, 6, 7, 9, 10, 12, 13, 14, 15, 16] [17, 18, 19] ([Blk.mk b6 _ _]) [] 17 mixed (by kernel_rfl) rfl rfl (by repeat (first | exact zs0 _ | exact zs1 _ | apply zs2 | apply zs3 | apply zs4 | apply zs5)) fun hT8 => ?_
   refine WZ_q 0 hT8 (List.nil_sublist _) (by kernel_rfl) rfl rfl rfl rfl rfl (yv_field tb rfl rfl rfl) ?_
   refine WZ_q 1 hT8 (List.nil_sublist _) (by kernel_rfl) rfl rfl rfl rfl rfl (yv_load1 tb rfl rfl rfl (by repeat (first | exact zi0 | apply zi1 | apply zi2)) (by rfl)) ?_
   refine WZ_q 2 hT8 (List.nil_sublist _) (by kernel_rfl) rfl rfl rfl rfl rfl (yv_move (show _ = Value.pointer _ from rfl)) ?_
   refine WZ_q 3 hT8 (List.nil_sublist _) (by kernel_rfl) rfl rfl rfl rfl rfl (yv_move (show _ = Value.int _ _ from rfl)) ?_
   refine WZ_q 4 hT8 (List.nil_sublist _) (by kernel_rfl) rfl rfl rfl rfl rfl (yv_min2 rfl rfl) ?_
   refine WZ_q 5 hT8 (List.nil_sublist _) (by kernel_rfl) rfl rfl rfl rfl rfl (by first | exact yv_add64 rfl rfl (by omega) (by omega) | exact yv_addU rfl rfl (by omega) (by omega) | exact yv_add rfl rfl) ?_
   refine WZ_q 8 hT8 (List.nil_sublist _) (by kernel_rfl) rfl rfl rfl rfl rfl (yv_move (show _ = Value.pointer _ from rfl)) ?_
   refine WZ_q 11 hT8 (List.nil_sublist _) (by kernel_rfl) rfl rfl rfl rfl rfl (yv_move (show _ = Value.pointer _ from rfl)) ?_
   refine WZ_branch [6, 10] hT8 (List.nil_sublist _) (by kernel_rfl) ?_
   refine WSteps_cons ?_ ?_
   ·
    skip
    refine ycwan ?_
    rintro v L' R' ⟨r1, k4, rfl, g1, g1', g1'', hk4, rfl, rfl⟩
    refine qas ?_
    have g1q := g1' (by omega)
    refine ycwao ?_
    refine WZ_branch [9, 10] hT8 (List.nil_sublist _) (by kernel_rfl) ?_
    refine WSteps_cons ?_ ?_
    ·
     skip
     refine ycwai ?_
     rintro v L' R' ⟨bo, k5, rfl, hk5, rfl, rfl⟩
     refine qas ?_
     refine WZ_branch [10, 12] hT8 (List.nil_sublist _) (by kernel_rfl) ?_
     refine WSteps_cons ?_ ?_
     ·
      skip
      refine ycwab ?_
      rintro v L' R' ⟨b66, rfl, rfl, hR66⟩
      replace hR66 := hR66.symm; subst hR66
      refine qa1 ?_
      refine WZ_branch [12] hT8 (List.nil_sublist _) (by kernel_rfl) ?_
      refine qca ?_
      refine ycwac ?_
      rintro v L' R' ⟨r3, k6, rfl, g3, g3', g3'', hk6, rfl, rfl⟩
      refine qas ?_
      have g3q := g3' (by omega)
      have hvg := get_D (l := [1, -1, -1, 0]) (k := r3.toNat) (0 : Int) (by simp; omega)
      have hvr := four_rng (k := r3.toNat)
      obtain ⟨u, hu⟩ : ∃ u : Int, u = [1, -1, -1, 0].getD r3.toNat 0 := ⟨_, rfl⟩
      rw [← hu] at hvg hvr
      refine ycwad ?_
      refine WZ_branch [14] hT8 (List.nil_sublist _) (by kernel_rfl) ?_
      refine qca ?_
      refine ycwae ?_
      rintro v L' R' ⟨rfl, rfl, rfl⟩
      refine qa1 ?_
      refine ycwaf ?_
      refine WZ_branch [16] hT8 (List.nil_sublist _) (by kernel_rfl) ?_
      refine qca ?_
      refine ycwag ?_
      rintro v L' R' ⟨b72, rfl, rfl, hR72⟩
      replace hR72 := hR72.symm; subst hR72
      refine qa1 ?_
      refine WZ_endL hT8 (List.nil_sublist _) (by kernel_rfl) rfl ?_
      refine ycwah ?_
      rintro v L' R' ⟨o73, rfl, hok73, rfl, rfl⟩
      refine qa1 ?_
      refine qal ?_
      refine qbw ?_
      refine qby ?_
      refine qaa ?_
      refine qar ?_
      refine qad ?_
      refine qav ?_
      exact q_k ⟨(i + 1, (⟨o73, p.l ++ [⟨r1 - 1, 0, u, bo, false⟩]⟩ : OwL XSwitch), k6), ⟨by dsimp only; omega, hpS.add (by omega) hvr⟩, hok73, hk6⟩
     refine qca ?_
     refine ycwac ?_
     rintro v L' R' ⟨r3, k6, rfl, g3, g3', g3'', hk6, rfl, rfl⟩
     refine qas ?_
     have g3q := g3' (by omega)
     have hvg := get_D (l := [1, -1, -1, 0]) (k := r3.toNat) (0 : Int) (by simp; omega)
     have hvr := four_rng (k := r3.toNat)
     obtain ⟨u, hu⟩ : ∃ u : Int, u = [1, -1, -1, 0].getD r3.toNat 0 := ⟨_, rfl⟩
     rw [← hu] at hvg hvr
     refine WZ_branch [10] hT8 (List.nil_sublist _) (by kernel_rfl) ?_
     refine qca ?_
     refine ycwab ?_
     rintro v L' R' ⟨b66, rfl, rfl, hR66⟩
     replace hR66 := hR66.symm; subst hR66
     refine qa1 ?_
     refine ycwad ?_
     refine WZ_branch [14] hT8 (List.nil_sublist _) (by kernel_rfl) ?_
     refine qca ?_
     refine ycwae ?_
     rintro v L' R' ⟨rfl, rfl, rfl⟩
     refine qa1 ?_
     refine ycwaf ?_
     refine WZ_branch [16] hT8 (List.nil_sublist _) (by kernel_rfl) ?_
     refine qca ?_
     refine ycwag ?_
     rintro v L' R' ⟨b72, rfl, rfl, hR72⟩
     replace hR72 := hR72.symm; subst hR72
     refine qa1 ?_
     refine WZ_endL hT8 (List.nil_sublist _) (by kernel_rfl) rfl ?_
     refine ycwah ?_
     rintro v L' R' ⟨o73, rfl, hok73, rfl, rfl⟩
     refine qa1 ?_
     refine qal ?_
     refine qbw ?_
     refine qby ?_
     refine qaa ?_
     refine qar ?_
     refine qad ?_
     refine qav ?_
     exact q_k ⟨(i + 1, (⟨o73, p.l ++ [⟨r1 - 1, 0, u, bo, false⟩]⟩ : OwL XSwitch), k6), ⟨by dsimp only; omega, hpS.add (by omega) hvr⟩, hok73, hk6⟩
    refine qca ?_
    refine ycwab ?_
    rintro v L' R' ⟨b66, rfl, rfl, hR66⟩
    replace hR66 := hR66.symm; subst hR66
    refine qa1 ?_
    refine WZ_branch [9] hT8 (List.nil_sublist _) (by kernel_rfl) ?_
    refine qca ?_
    refine ycwai ?_
    rintro v L' R' ⟨bo, k5, rfl, hk5, rfl, rfl⟩
    refine qas ?_
    refine WZ_branch [12] hT8 (List.nil_sublist _) (by kernel_rfl) ?_
    refine qca ?_
    refine ycwac ?_
    rintro v L' R' ⟨r3, k6, rfl, g3, g3', g3'', hk6, rfl, rfl⟩
    refine qas ?_
    have g3q := g3' (by omega)
    have hvg := get_D (l := [1, -1, -1, 0]) (k := r3.toNat) (0 : Int) (by simp; omega)
    have hvr := four_rng (k := r3.toNat)
    obtain ⟨u, hu⟩ : ∃ u : Int, u = [1, -1, -1, 0].getD r3.toNat 0 := ⟨_, rfl⟩
    rw [← hu] at hvg hvr
    refine ycwad ?_
    refine WZ_branch [14] hT8 (List.nil_sublist _) (by kernel_rfl) ?_
    refine qca ?_
    refine ycwae ?_
    rintro v L' R' ⟨rfl, rfl, rfl⟩
    refine qa1 ?_
    refine ycwaf ?_
    refine WZ_branch [16] hT8 (List.nil_sublist _) (by kernel_rfl) ?_
    refine qca ?_
    refine ycwag ?_
    rintro v L' R' ⟨b72, rfl, rfl, hR72⟩
    replace hR72 := hR72.symm; subst hR72
    refine qa1 ?_
    refine WZ_endL hT8 (List.nil_sublist _) (by kernel_rfl) rfl ?_
    refine ycwah ?_
    rintro v L' R' ⟨o73, rfl, hok73, rfl, rfl⟩
    refine qa1 ?_
    refine qal ?_
    refine qbw ?_
    refine qby ?_
    refine qaa ?_
    refine qar ?_
    refine qad ?_
    refine qav ?_
    exact q_k ⟨(i + 1, (⟨o73, p.l ++ [⟨r1 - 1, 0, u, bo, false⟩]⟩ : OwL XSwitch), k6), ⟨by dsimp only; omega, hpS.add (by omega) hvr⟩, hok73, hk6⟩
   refine qca ?_
   refine ycwab ?_
   rintro v L' R' ⟨b66, rfl, rfl, hR66⟩
   replace hR66 := hR66.symm; subst hR66
   refine qa1 ?_
   refine WZ_branch [6] hT8 (List.nil_sublist _) (by kernel_rfl) ?_
   refine qca ?_
   refine ycwan ?_
   rintro v L' R' ⟨r1, k4, rfl, g1, g1', g1'', hk4, rfl, rfl⟩
   refine qas ?_
   have g1q := g1' (by omega)
   refine ycwao ?_
   refine WZ_branch [9] hT8 (List.nil_sublist _) (by kernel_rfl) ?_
   refine qca ?_
   refine ycwai ?_
   rintro v L' R' ⟨bo, k5, rfl, hk5, rfl, rfl⟩
   refine qas ?_
   refine WZ_branch [12] hT8 (List.nil_sublist _) (by kernel_rfl) ?_
   refine qca ?_
   refine ycwac ?_
   rintro v L' R' ⟨r3, k6, rfl, g3, g3', g3'', hk6, rfl, rfl⟩
   refine qas ?_
   have g3q := g3' (by omega)
   have hvg := get_D (l := [1, -1, -1, 0]) (k := r3.toNat) (0 : Int) (by simp; omega)
   have hvr := four_rng (k := r3.toNat)
   obtain ⟨u, hu⟩ : ∃ u : Int, u = [1, -1, -1, 0].getD r3.toNat 0 := ⟨_, rfl⟩
   rw [← hu] at hvg hvr
   refine ycwad ?_
   refine WZ_branch [14] hT8 (List.nil_sublist _) (by kernel_rfl) ?_
   refine qca ?_
   refine ycwae ?_
   rintro v L' R' ⟨rfl, rfl, rfl⟩
   refine qa1 ?_
   refine ycwaf ?_
   refine WZ_branch [16] hT8 (List.nil_sublist _) (by kernel_rfl) ?_
   refine qca ?_
   refine ycwag ?_
   rintro v L' R' ⟨b72, rfl, rfl, hR72⟩
   replace hR72 := hR72.symm; subst hR72
   refine qa1 ?_
   refine WZ_endL hT8 (List.nil_sublist _) (by kernel_rfl) rfl ?_
   refine ycwah ?_
   rintro v L' R' ⟨o73, rfl, hok73, rfl, rfl⟩
   refine qa1 ?_
   refine qal ?_
   refine qbw ?_
   refine qby ?_
   refine qaa ?_
   refine qar ?_
   refine qad ?_
   refine qav ?_
   exact q_k ⟨(i + 1, (⟨o73, p.l ++ [⟨r1 - 1, 0, u, bo, false⟩]⟩ : OwL XSwitch), k6), ⟨by dsimp only; omega, hpS.add (by omega) hvr⟩, hok73, hk6⟩
  have hi3 : 3 ≤ i := by omega
  refine qbk ?_
  refine qab ?_
  refine qac ?_
  refine qag ?_
  refine qad ?_
  refine qco ?_
  rw [hpl]
  refine qay ?_
  refine qad ?_
  refine qa2 ?_
  refine CJ_forget [(3, Value.pointer _), (4, Value.pointer _), (6, Value.pointer _), (8, Value.int _ _), (9, Value.int _ _)] (by repeat' (first | exact trivial | refine And.intro rfl ?_)) fun tq1 => ?_
  refine CJ_loop [9, 78, 79, 80, 81, 82, 83, 84, 85, 86, 87, 88, 89, 90] ((⟨fun g => [(9, .int .i64 ((g.1.1 : Nat) : Int))], fun g => ⟨b6, [p.val, g.1.2.val, .int .i64 3], 71⟩ :: (g.1.2.L 3 icell ++ (p.L 98 XSwitch.cells ++ (⟨b4, (thriceS s zs).cells, 36⟩ :: cblk c (codes300 y) k3 :: []))), fun _ => R2, fun g => 3 - g.1.1⟩ : Head {g : Nat × OwL Int // (g.1 ≤ 3 ∧ g.2.l = (List.range g.1).map fun (a : Nat) => (i : Int) - 1 - (a : Int)) ∧ g.2.ok 1 icell})) (⟨(0, OwL.nil), ⟨by dsimp only; omega, rfl⟩, OwL.nil_ok⟩) (by repeat' (first | exact trivial | refine And.intro rfl ?_)) (by dsimp only; rw [nil_L, List.nil_append]; exact List.Sublist.refl _) (allR_self _) ?_
  rintro ⟨⟨j, q⟩, ⟨hj, hqe⟩, hqk⟩ junk
  try dsimp only
  dsimp only at hj hqe hqk
  have hql : q.l.length = j := by rw [hqe]; simp
  refine qbi ?_
  refine qaa ?_
  refine qaj ?_
  refine qaf ?_
  refine q_c (fun hc1 => ?_) (fun hc1 => ?_)
  ·
   refine CJ_skip (seqK_normal (CJ_seq (CJ_block (CJ_region ?_))))
   refine qab ?_
   refine qac ?_
   refine qaa ?_
   refine qa9 ?_
   refine qaa ?_
   refine qa9 ?_
   refine qcx ?_
   rintro v L' R' ⟨b88, rfl, rfl, hR88⟩
   replace hR88 := hR88.symm; subst hR88
   refine LJ_g (gives_append1 (f := icell) (p := q) (a := (i : Int) - 1 - (j : Int)) tb rfl rfl rfl rfl (hqk) (by repeat (first | apply OSeg.cons | exact OSeg.here | exact OSeg.last | exact OSeg.at (by assumption) | apply OSeg.app)) (shown_own (by repeat (first | exact zi0 | apply zi1 | apply zi2)) rfl rfl) rfl (by first | omega | (simp only [List.length_cons, List.length_nil, List.length_append]; omega))) rfl ?_
   rintro v L' R' ⟨o89, rfl, hok89, rfl, rfl⟩
   refine qab ?_
   refine qcy ?_
   refine qcs ?_
   refine qaa ?_
   refine qar ?_
   refine qad ?_
   refine qav ?_
   exact q_k ⟨(j + 1, (⟨o89, q.l ++ [(i : Int) - 1 - (j : Int)]⟩ : OwL Int)), ⟨by dsimp only; omega, by dsimp only; rw [hqe, List.range_succ, List.map_append]; rfl⟩, hok89⟩
  obtain rfl : j = 3 := by omega
  refine qc3 ?_
  refine CJ_frz1 (A := [_]) (p := q) (wd := 1) [] (fun _ => rfl) (by decide) hqk (fun s hs => by cases hs) ?_
  refine CJ_frz1 (A := [_]) (p := p) (wd := 5) [] (fun _ => rfl) (by decide) hpk (fun s hs => by cases hs) ?_
  obtain ⟨f, hfe⟩ : ∃ f : XFeeder, f = ⟨p.arr, q.arr, 3⟩ := ⟨_, rfl⟩
  obtain ⟨R3, hR3e⟩ : ∃ R3, R3 = swsl p.arr :: isl q.arr :: R2 := ⟨_, rfl⟩
  have hR3 : ∀ r ∈ R2, InR r R3 := fun r hr => inR_self (by rw [hR3e]; exact .tail _ (.tail _ hr))
  have hf3 : FeederR f R3 := by rw [hfe]; exact ⟨inR_self (by rw [hR3e]; exact .head _), inR_self (by rw [hR3e]; exact .tail _ (.head _))⟩
  have hfS : OthS i f.switches.l := by rw [hfe]; exact hpS
  have hfz : f.zones.l = [(i : Int) - 1 - 0, (i : Int) - 1 - 1, (i : Int) - 1 - 2] := by rw [hfe]; exact hqe
  have hfr : f.reply = 3 := by rw [hfe]
  have hx3 := hx2.mono hR3
  refine CJ_R (show _ = R3 by rw [hR3e]) ?_
  refine CJ_L (show _ = ⟨b6, f.cells, 71⟩ :: ⟨b4, (thriceS s zs).cells, 36⟩ :: cblk c (codes300 y) k3 :: [] by rw [hfe]; rfl) ?_
  refine qay ?_
  refine ycwaj ?_
  refine qa6 ?_
  refine LJ_call rfl (one1 (by repeat (first | apply USeg.here | apply USeg.cons | apply USeg.app)) hx3 hk3 (by omega)) rfl ?_
  rintro v L' R' ⟨bo1, k7, rfl, hk7, rfl, rfl⟩
  refine ycwaj ?_
  refine qa6 ?_
  refine LJ_call rfl (one1 (by repeat (first | apply USeg.here | apply USeg.cons | apply USeg.app)) hx3 hk7 (by omega)) rfl ?_
  rintro v L' R' ⟨bo2, k8, rfl, hk8, rfl, rfl⟩
  refine ycwaj ?_
  refine LJ_g (gives_buildSlice (qs := [(0, (Value.agg _).cells.toList), (1, (Value.agg _).cells.toList), (2, (Value.agg _).cells.toList)]) (out := [_, _, _, _, _, _, _, _, _]) tb rfl rfl rfl rfl rfl rfl rfl) rfl ?_
  rintro v L' R' ⟨b98, rfl, rfl, hR98⟩
  replace hR98 := hR98.symm; subst hR98
  refine LJ_frz (wd := 3) (len := 3) (cap := 3) (rows := [XCut.cells ⟨true, 0, 0⟩, XCut.cells ⟨bo1, 0, 0⟩, XCut.cells ⟨bo2, 0, 0⟩]) (subs := []) rfl (by decide) (by decide) (fun r hr => by simp only [List.mem_cons, List.not_mem_nil, or_false] at hr; rcases hr with rfl | rfl | rfl <;> rfl) (by decide) rfl (fun s hs => by cases hs) ?_
  refine qc4 ?_
  refine qam ?_
  refine qcd ?_
  refine LJ_g (gives_buildSlice (qs := [(0, (Value.agg _).cells.toList)]) (out := [_, _]) tb rfl rfl rfl rfl rfl rfl rfl) rfl ?_
  rintro v L' R' ⟨b100, rfl, rfl, hR100⟩
  replace hR100 := hR100.symm; subst hR100
  refine LJ_frz (wd := 2) (len := 1) (cap := 1) (rows := [XSpan.cells ⟨300, 300⟩]) (subs := []) rfl (by decide) (by decide) (fun r hr => by rw [List.mem_singleton.1 hr]; rfl) (by decide) rfl (fun s hs => by cases hs) ?_
  refine qc4 ?_
  refine qa4 ?_
  refine CJ_weak (L' := ⟨b6, f.cells, 71⟩ :: ⟨b4, (thriceS s zs).cells, 36⟩ :: []) (.cons_cons _ (.cons_cons _ (List.nil_sublist _))) (allR_self _) ?_
  obtain ⟨ca, hcae⟩ : ∃ ca : Arr XCut, ca = (⟨some ⟨b98, 0, none⟩, 3, [⟨true, 0, 0⟩, ⟨bo1, 0, 0⟩, ⟨bo2, 0, 0⟩]⟩ : Arr XCut) := ⟨_, rfl⟩
  obtain ⟨fa, hfae⟩ : ∃ fa : Arr XSpan, fa = (⟨some ⟨b100, 0, none⟩, 1, [⟨300, 300⟩]⟩ : Arr XSpan) := ⟨_, rfl⟩
  have hcav : Value.slice (some ⟨b98, 0, none⟩) 3 3 = ca.val := by rw [hcae]; rfl
  have hfav : Value.slice (some ⟨b100, 0, none⟩) 1 1 = fa.val := by rw [hfae]; rfl
  rw [hcav, hfav]
  obtain ⟨R4, hR4e⟩ : ∃ R4, R4 = spsl fa :: cusl ca :: R3 := ⟨_, rfl⟩
  have hR4 : ∀ r ∈ R3, InR r R4 := fun r hr => inR_self (by rw [hR4e]; exact .tail _ (.tail _ hr))
  have hA4 : RestA (thriceS s zs) ca fa R4 := ⟨(hs2.mono hR3).mono hR4, inR_self (by rw [hR4e]; exact .tail _ (.head _)), inR_self (by rw [hR4e]; exact .head _)⟩
  have hf4 := hf3.mono hR4
  have hz4R := hf4.zn
  have hcal : ca.l = [⟨true, 0, 0⟩, ⟨bo1, 0, 0⟩, ⟨bo2, 0, 0⟩] := by rw [hcae]
  have hfal : fa.l = [⟨300, 300⟩] := by rw [hfae]
  have hcan : ca.l.length = 3 := by rw [hcal]; rfl
  have hznl : f.zones.l.length = 3 := by rw [hfz]; rfl
  have hswl := hfS.len
  have hfeed : feedE f.switches.l f.zones.l f.reply = 0 := by rw [hfz, hfr]; exact hfS.feed (by omega)
  obtain ⟨own, howe⟩ : ∃ own, own = f.zones.l.getD 0 0 := ⟨_, rfl⟩
  have hown : own = (i : Int) - 1 := by rw [howe, hfz]; show (i : Int) - 1 - 0 = _; omega
  have hog : f.zones.l[0]? = some own := by rw [howe]; exact get_D 0 (by omega)
  refine CJ_R (show _ = R4 by rw [hR4e, hcae, hfae]; rfl) ?_
  refine qay ?_
  refine LJ_q (yv_build (qs := [(0, (Value.int _ _).cells.toList), (1, (Value.int _ _).cells.toList), (2, (Value.int _ _).cells.toList), (3, (Value.int _ _).cells.toList), (4, (Value.int _ _).cells.toList)]) (out := [_, _, _, _, _]) tb rfl rfl rfl rfl) rfl ?_
  refine qaq ?_
  intro b12
  refine qak ?_
  refine qam ?_
  refine qab ?_
  refine qac ?_
  refine qdt ?_
  refine qa7 ?_
  refine qad ?_
  refine qam ?_
  refine ycwap ?_
  refine qaa ?_
  refine LJ_call rfl (ref18Path_tri f own _ _ hf4) rfl ?_
  rintro v L' R' ⟨q2, rfl, hq2k, hq2l, rfl, rfl⟩
  refine qc4 ?_
  refine qa4 ?_
  refine CJ_frz1 (A := []) (p := q2) (wd := 1) [] (fun _ => rfl) (by decide) hq2k (fun s hs => by cases hs) ?_
  obtain ⟨R5, hR5e⟩ : ∃ R5, R5 = isl q2.arr :: R4 := ⟨_, rfl⟩
  have hR5 : ∀ r ∈ R4, InR r R5 := fun r hr => inR_self (by rw [hR5e]; exact .tail _ hr)
  have hq2R : InR (isl q2.arr) R5 := inR_self (by rw [hR5e]; exact .head _)
  have hA5 := hA4.site.mono hR5
  have hf5 := hf4.mono hR5
  have hsR := hf5.sw
  have hzR := hf5.zn
  have hcR := hA4.cuts.mono hR5
  have hlR := hA4.flows.mono hR5
  obtain ⟨hp0, hp1⟩ := path_own (f := f) (s := own) hfeed (by omega)
  rw [← hq2l] at hp0 hp1
  have hq2n := pathL_len (sw := f.switches.l) (zn := f.zones.l) (rp := f.reply) (s := own)
  rw [← hq2l] at hq2n
  have hat : nxtAt f.switches.l q2.l = atR f 0 := by rw [atR, hq2l, howe]; rfl
  have hup := hfS.up
  refine CJ_R (show _ = R5 by rw [hR5e]) ?_
  refine ycwaq ?_
  refine qay ?_
  refine qaa ?_
  refine qad ?_
  refine qaw ?_
  refine qbm ?_
  refine qag ?_
  refine qa9 ?_
  refine qad ?_
  refine qaf ?_
  refine CJ_joinS [15, 16, 113, 114, 115, 116, 117, 118, 119, 120, 121, 122, 123, 124, 125, 126, 127, 128, 129, 130, 131, 132, 133, 134, 135] ((⟨fun g => [(15, .int .i64 g.1)], fun _ => ⟨b12, XRest.cells ⟨0, 0, 1, 2, 990⟩, 78⟩ :: ⟨b6, f.cells, 71⟩ :: ⟨b4, (thriceS s zs).cells, 36⟩ :: [], fun _ => R5, fun _ => 0⟩ : Head {a : Int // a = nxtAt f.switches.l q2.l})) ?_ ?_
  ·
   refine CJ_block ?_
   refine CJ_forgetW [15, 16, 113, 114, 115, 116, 117, 118, 119, 120, 121, 122, 123, 124, 125, 126, 127, 128, 129, 130, 131, 132, 133, 134, 135] (by repeat (first | apply Off.upd rfl | apply Off.havoc rfl | refine Off.updL (t' := havoc _ _ _) rfl ?_ | exact Off.refl)) [(15, Value.int _ _), (16, Value.int _ _)] (by repeat' (first | exact trivial | refine And.intro rfl ?_)) fun tq2 => ?_
   refine q_s [15, 16, 113, 114, 115, 116, 117, 118, 119, 120, 121, 122, 123, 124, 125, 126, 127, 128, 129, 130, 131, 132, 133, 134, 135] (fun g : {i2 : Int // (-1 ≤ i2 ∧ i2 < q2.l.length) ∧ nxtTo f.switches.l q2.l (i2 + 1).toNat = nxtAt f.switches.l q2.l} => [(16, .int .i64 g.1), (15, .int .i64 own)]) (fun g => (g.1 + 1).toNat) (⟨(q2.l.length : Int) - 1, by omega, by rw [show ((q2.l.length : Int) - 1 + 1).toNat = q2.l.length by omega]; exact nxt_full⟩) ?_
   rintro ⟨i2, hi2, hn2⟩ junk
   try dsimp only
   refine qbi ?_
   refine qaa ?_
   refine qbz ?_
   refine qah ?_
   apply LJ_and (G := [_, _, _]) (j := 2) (cj := 115) rfl rfl (by rfl) rfl (show _ = Value.bool _ from rfl) rfl
   ·
    intro hg3
    replace hg3 := qb hg3
    refine qaa ?_
    refine qaa ?_
    refine qbn ?_
    exact qai
   intro junk3
   refine qaf ?_
   refine q_c (fun hc2 => ?_) (fun hc2 => ?_)
   ·
    have hqg := get_D (l := q2.l) (k := i2.toNat) 0 (by omega)
    have hm2 := pathL_mem (sw := f.switches.l) (zn := f.zones.l) (rp := f.reply) (s := own) (x := q2.l.getD i2.toNat 0) (by rw [← hq2l]; exact List.mem_of_getElem? hqg)
    have hsg := get_D (l := f.switches.l) (k := (q2.l.getD i2.toNat 0).toNat) default (by omega)
    have hns := nxtTo_succ (sw := f.switches.l) (l := q2.l) (k := i2.toNat) (by omega)
    rw [show (i2 + 1).toNat = i2.toNat + 1 by omega, hns] at hn2
    refine CJ_skip (seqK_normal (CJ_seq (CJ_block (CJ_seq ?_))))
    refine CJ_drawn tb [0, 1, 2, 3, 4, 5, 6, 7, 8, 9] ([Blk.mk b6 _ _]) mixed (by kernel_rfl) (by repeat (first | exact zs0 _ | exact zs1 _ | apply zs2 | apply zs3 | apply zs4 | apply zs5)) ?_
    refine qal ?_
    refine qat ?_
    refine ycwaa ?_
    refine qao ?_
    refine DJ_q (by first | exact yv_index_ro tb rfl rfl rfl rfl (by first | assumption | exact zr (by simp)) (i := i2.toNat) (by first | rfl | omega | (simp; omega)) (by omega) | exact yv_index tb rfl rfl rfl rfl (i := i2.toNat) (by first | rfl | omega | (simp; omega)) (by omega)) rfl rfl rfl ?_
    refine qbl ?_
    refine DJ_q (by first | exact yv_index_ro tb rfl rfl rfl rfl (by first | assumption | exact zr (by simp)) (i := (q2.l.getD i2.toNat 0).toNat) (by first | rfl | omega | (simp; omega)) (by omega) | exact yv_index tb rfl rfl rfl rfl (i := (q2.l.getD i2.toNat 0).toNat) (by first | rfl | omega | (simp; omega)) (by omega)) rfl rfl rfl ?_
    refine qce ?_
    refine qbl ?_
    refine DJ_q (yv_neq rfl rfl) rfl rfl rfl ?_
    refine qbu ?_
    refine q_c (fun hc3 => ?_) (fun hc3 => ?_)
    ·
     refine qae ?_
     refine qbm ?_
     refine qaa ?_
     refine LJ_q (by first | exact yv_index_ro tb rfl rfl rfl rfl (by first | assumption | exact zr (by simp)) (i := i2.toNat) (by first | rfl | omega | (simp; omega)) (by omega) | exact yv_index tb rfl rfl rfl rfl (i := i2.toNat) (by first | rfl | omega | (simp; omega)) (by omega)) rfl ?_
     refine qa7 ?_
     refine qad ?_
     refine LJ_nil (seqK_normal (CJ_exit ?_))
     refine blockK_other rfl ?_
     refine seqK_exit (loopK_exit (blockK_exit ?_))
     exact joinK_mk ⟨q2.l.getD i2.toNat 0, by rw [if_pos hc3] at hn2; exact hn2⟩ (by repeat (first | exact Off.refl | apply Off.upd rfl | apply Off.havoc rfl | apply Off.updL rfl | apply Off.left rfl | apply Off.leftu rfl)) (by repeat' (first | exact trivial | refine And.intro rfl ?_)) (by repeat (first | exact zs0 _ | exact zs1 _ | apply zs2 | apply zs3 | apply zs4 | apply zs5)) (allR_self _)
    refine qbj ?_
    refine qaa ?_
    refine qa9 ?_
    refine qad ?_
    refine qav ?_
    exact q_k (⟨i2 - 1, by omega, by rw [show (i2 - 1 + 1).toNat = i2.toNat by omega]; rw [if_neg hc3] at hn2; exact hn2⟩)
   have hi20 : i2 < 0 := by first | omega | (simp at hc2; omega)
   refine CJ_exit (seqK_exit (loopK_exit (blockK_exit ?_)))
   exact joinK_mk ⟨own, by rw [show (i2 + 1).toNat = 0 by omega, nxt_zero, hp0] at hn2; exact hn2⟩ (by repeat (first | exact Off.refl | apply Off.upd rfl | apply Off.havoc rfl | apply Off.updL rfl | apply Off.left rfl | apply Off.leftu rfl)) (by repeat' (first | exact trivial | refine And.intro rfl ?_)) (by repeat (first | exact zs0 _ | exact zs1 _ | apply zs2 | apply zs3 | apply zs4 | apply zs5)) (allR_self _)
  rintro ⟨a, ha⟩ junk
  try dsimp only
  have ham : a ∈ q2.l := by rw [ha, ← nxt_full]; exact nxt_mem hp1 _ (Nat.le_refl _)
  have har : 0 ≤ a ∧ a < f.switches.l.length := by have := pathL_mem (zn := f.zones.l) (rp := f.reply) (s := own) (sw := f.switches.l) (x := a) (by rw [← hq2l]; exact ham); omega
  rw [hat] at ha
  have hag := get_D (l := f.switches.l) (k := a.toNat) default (by omega)
  have hua := hup a.toNat (by omega)
  have hsb : stateBad f.switches.l a ↔ ((f.switches.l.getD a.toNat default).shown ≠ -1 ∨ (0 ≤ (f.switches.l.getD a.toNat default).above ∧ (f.switches.l.getD (f.switches.l.getD a.toNat default).above.toNat default).shown ≠ 1)) := Iff.rfl
  obtain ⟨x, hxe⟩ : ∃ x, x = f.switches.l.getD a.toNat default := ⟨_, rfl⟩
  rw [← hxe] at hag hua hsb
  refine qae ?_
  refine qad ?_
  refine qaw ?_
  refine qab ?_
  refine qac ?_
  refine qaa ?_
  refine LJ_q (by first | exact yv_index_ro tb rfl rfl rfl rfl (by first | assumption | exact zr (by simp)) (i := a.toNat) (by first | rfl | omega | (simp; omega)) (by omega) | exact yv_index tb rfl rfl rfl rfl (i := a.toNat) (by first | rfl | omega | (simp; omega)) (by omega)) rfl ?_
  refine qdw ?_
  refine qaq ?_
  intro b18
  refine qak ?_
  refine qam ?_
  refine qab ?_
  refine qac ?_
  refine qbq ?_
  refine qah ?_
  apply LJ_or (G := [_, _, _, _, _, _, _, _, _, _, _, _, _]) (j := 3) (cj := 144) rfl rfl (by rfl) rfl (show _ = Value.bool _ from rfl) rfl
  ·
   intro hg4
   replace hg4 := qb hg4
   refine qab ?_
   refine qac ?_
   refine qbz ?_
   refine qah ?_
   apply LJ_and (G := [_, _, _, _, _, _, _, _]) (j := 7) (cj := 148) rfl rfl (by rfl) rfl (show _ = Value.bool _ from rfl) rfl
   ·
    intro hg8
    replace hg8 := qb hg8
    have hug := get_D (l := f.switches.l) (k := x.above.toNat) default (by omega)
    refine qab ?_
    refine qac ?_
    refine qab ?_
    refine qac ?_
    refine LJ_q (by first | exact yv_index_ro tb rfl rfl rfl rfl (by first | assumption | exact zr (by simp)) (i := x.above.toNat) (by first | rfl | omega | (simp; omega)) (by omega) | exact yv_index tb rfl rfl rfl rfl (i := x.above.toNat) (by first | rfl | omega | (simp; omega)) (by omega)) rfl ?_
    refine qb0 ?_
    refine qa7 ?_
    refine qbq ?_
    exact qai
   intro junk8
   exact qai
  intro junk4
  refine qaf ?_
  refine CJ_joinS [17] ((⟨fun g => [(17, .int .i64 g.1)], fun _ => ⟨b12, XRest.cells ⟨0, 0, 1, 2, 990⟩, 78⟩ :: ⟨b6, f.cells, 71⟩ :: ⟨b4, (thriceS s zs).cells, 36⟩ :: [], fun _ => R5, fun _ => 0⟩ : Head {w : Int // w = if stateBad f.switches.l a then 10 else 0})) ?_ ?_
  ·
   skip
   refine q_c (fun hc4 => ?_) (fun hc4 => ?_)
   ·
    refine qay ?_
    refine qad ?_
    refine qav ?_
    exact q_j ⟨10, by rw [if_pos (hsb.2 hc4)]⟩
   refine CJ_skip ?_
   exact q_j ⟨0, by rw [if_neg (fun h => by have := hsb.1 h; omega)]⟩
  rintro ⟨w, hw⟩ junk
  try dsimp only
  refine qbi ?_
  refine qad ?_
  refine qa2 ?_
  refine CJ_forget [(4, Value.pointer _), (6, Value.pointer _), (8, Value.int _ _), (10, Value.slice _ _ _), (11, Value.slice _ _ _), (12, Value.pointer _), (13, Value.int _ _), (15, Value.int _ _), (17, Value.int _ _), (19, Value.int _ _)] (by repeat' (first | exact trivial | refine And.intro rfl ?_)) fun tq3 => ?_
  refine q_s [17, 19, 20, 21, 23, 159, 160, 161, 162, 163, 164, 165, 166, 167, 168, 169, 170, 171, 172, 173, 174, 175, 176, 177, 178, 179, 180, 181, 182, 183, 184, 185, 186, 187, 188, 189, 190, 191, 192, 193, 194, 195, 196, 197, 198, 199, 200, 201, 202, 203, 204, 205, 206, 207, 208] (fun g : {g : Nat × Int // (1 ≤ g.1 ∧ g.1 ≤ 3) ∧ g.2 = wantTo ca.l f.switches.l f.zones.l a g.1} => [(19, .int .i64 ((g.1.1 : Nat) : Int)), (17, .int .i64 g.1.2)]) (fun g => 3 - g.1.1) (⟨(1, w), by omega, by rw [want_one]; exact hw⟩) ?_
  rintro ⟨⟨k, w2⟩, hk, hw2⟩ junk
  try dsimp only
  dsimp only at hk hw2
  refine qbi ?_
  refine qaa ?_
  refine qaj ?_
  refine qaf ?_
  refine q_c (fun hc5 => ?_) (fun hc5 => ?_)
  ·
   have hzg3 := get_D (l := f.zones.l) (k := k) 0 (by omega)
   have hcg := get_D (l := ca.l) (k := k) default (by omega)
   refine qbb ?_
   refine qaz ?_
   refine qaz ?_
   refine qco ?_
   refine CJ_drawn tb [0, 1, 2, 3, 4, 5, 8, 6, 7] ([Blk.mk b6 _ _]) mixed (by kernel_rfl) (by repeat (first | exact zs0 _ | exact zs1 _ | apply zs2 | apply zs3 | apply zs4 | apply zs5)) ?_
   refine DJ_q (yv_loadN (row := [_, _, _]) tb rfl rfl rfl (by repeat (first | exact zi0 | apply zi1 | apply zi2)) (by rfl) (by rfl)) rfl rfl rfl ?_
   refine qal ?_
   refine qat ?_
   refine qao ?_
   refine qds ?_
   refine qbl ?_
   refine qao ?_
   refine DJ_call rfl (ref18Path_tri f (f.zones.l.getD k 0) _ _ hf5) rfl rfl ?_
   rintro v L' R' ⟨q3, rfl, hq3k, hq3l, rfl, rfl⟩
   refine qas ?_
   refine DJ_q (yv_len tb rfl rfl rfl) rfl rfl rfl ?_
   refine DJ_nil (seqK_normal (CJ_block ?_))
   refine CJ_forgetW [17, 19, 20, 21, 23, 159, 160, 161, 162, 163, 164, 165, 166, 167, 168, 169, 170, 171, 172, 173, 174, 175, 176, 177, 178, 179, 180, 181, 182, 183, 184, 185, 186, 187, 188, 189, 190, 191, 192, 193, 194, 195, 196, 197, 198, 199, 200, 201, 202, 203, 204, 205, 206, 207, 208] (by repeat (first | apply Off.upd rfl | apply Off.havoc rfl | refine Off.updL (t' := havoc _ _ _) rfl ?_ | exact Off.refl)) [(17, Value.int _ _), (19, Value.int _ _), (20, Value.bool _), (21, Value.bool _), (169, Value.slice _ _ _), (170, Value.int _ _), (171, Value.int _ _)] (by repeat' (first | exact trivial | refine And.intro rfl ?_)) fun tq4 => ?_
   refine CJ_frz1 (A := []) (p := q3) (wd := 1) [] (fun _ => rfl) (by decide) hq3k (fun s hs => by cases hs) ?_
   obtain ⟨R6, hR6e⟩ : ∃ R6, R6 = isl q3.arr :: R5 := ⟨_, rfl⟩
   have hR6 : ∀ r ∈ R5, InR r R6 := fun r hr => inR_self (by rw [hR6e]; exact .tail _ hr)
   have hq3R : InR (isl q3.arr) R6 := inR_self (by rw [hR6e]; exact .head _)
   have hs6R := hsR.mono hR6
   have hc6R := hcR.mono hR6
   have hq3n := pathL_len (sw := f.switches.l) (zn := f.zones.l) (rp := f.reply) (s := f.zones.l.getD k 0)
   rw [← hq3l] at hq3n
   refine CJ_R (show _ = R6 by rw [hR6e]) ?_
   refine ycwaq ?_
   refine q_s [20, 21, 23, 171, 172, 173, 174, 175, 176, 177, 178, 179, 180, 181, 182, 183, 184, 185, 186, 187, 188, 189, 190, 191, 192, 193, 194, 195, 196] (fun g : {g : Nat × Bool × Bool // g.1 ≤ q3.l.length ∧ (g.2.1 = true ↔ a ∈ q3.l.take g.1) ∧ (g.2.2 = true ↔ ∃ v ∈ q3.l.take g.1, holdsB f.switches.l a v = true)} => [(171, .int .i64 ((g.1.1 : Nat) : Int)), (20, .bool g.1.2.1), (21, .bool g.1.2.2)]) (fun g => q3.l.length - g.1.1) (⟨(0, false, false), by omega, by simp, by simp⟩) ?_
   rintro ⟨⟨m, un, he⟩, hm, hun, hhe⟩ junk
   try dsimp only
   dsimp only at hm hun hhe
   refine qae ?_
   refine qaj ?_
   refine qa4 ?_
   refine q_c (fun hc6 => ?_) (fun hc6 => ?_)
   ·
    have hyg := get_D (l := q3.l) (k := m) 0 (by omega)
    have hym := pathL_mem (sw := f.switches.l) (zn := f.zones.l) (rp := f.reply) (s := f.zones.l.getD k 0) (x := q3.l.getD m 0) (by rw [← hq3l]; exact List.mem_of_getElem? hyg)
    obtain ⟨v2, hv2⟩ : ∃ v2, v2 = q3.l.getD m 0 := ⟨_, rfl⟩
    rw [← hv2] at hyg hym
    have hvg2 := get_D (l := f.switches.l) (k := v2.toNat) default (by omega)
    refine qbb ?_
    refine LJ_q (by first | exact yv_index_ro tb rfl rfl rfl rfl (by first | assumption | exact zr (by simp)) (i := m) (by first | rfl | omega | (simp; omega)) (by omega) | exact yv_index tb rfl rfl rfl rfl (i := m) (by first | rfl | omega | (simp; omega)) (by omega)) rfl ?_
    refine qa7 ?_
    refine qad ?_
    refine qam ?_
    refine qah ?_
    refine qah ?_
    apply LJ_or (G := [_, _, _]) (j := 1) (cj := 176) rfl rfl (by rfl) rfl (show _ = Value.bool _ from rfl) rfl
    ·
     intro hg2
     replace hg2 := qb hg2
     refine qaa ?_
     refine qaa ?_
     refine qbn ?_
     exact qai
    intro junk2
    refine qaz ?_
    refine LJ_nil (seqK_normal (CJ_region ?_))
    refine qah ?_
    refine qah ?_
    apply LJ_or (G := [_, _, _, _, _, _, _, _, _, _, _, _]) (j := 1) (cj := 182) rfl rfl (by rfl) rfl (show _ = Value.bool _ from rfl) rfl
    ·
     intro hg2
     replace hg2 := qb hg2
     refine qaa ?_
     refine qaa ?_
     refine qbq ?_
     refine qah ?_
     apply LJ_and (G := [_, _, _, _, _, _, _]) (j := 5) (cj := 186) rfl rfl (by rfl) rfl (show _ = Value.bool _ from rfl) rfl
     ·
      intro hg6
      replace hg6 := qb hg6
      refine qab ?_
      refine qac ?_
      refine qaa ?_
      refine LJ_q (by first | exact yv_index_ro tb rfl rfl rfl rfl (by first | assumption | exact zr (by simp)) (i := v2.toNat) (by first | rfl | omega | (simp; omega)) (by omega) | exact yv_index tb rfl rfl rfl rfl (i := v2.toNat) (by first | rfl | omega | (simp; omega)) (by omega)) rfl ?_
      refine qb0 ?_
      refine qa7 ?_
      refine qbn ?_
      exact qai
     intro junk6
     exact qai
    intro junk2
    refine qaz ?_
    refine qcs ?_
    refine qar ?_
    refine qaa ?_
    refine qav ?_
    refine q_k ⟨(m + 1, _, _), by dsimp only; omega, ?_, ?_⟩
    · dsimp only
      rw [take_mem hyg, ← hun]
      cases un <;> simp <;> omega
    · dsimp only
      rw [take_ex hyg, ← hhe, holdsB]
      cases he <;> simp
   obtain rfl : m = q3.l.length := by omega
   rw [List.take_length, hq3l] at hun hhe
   have hpw : PowersAt ca.l f.switches.l f.zones.l 3 0 a k ↔ ((ca.l.getD k default).off = true ∧ un = true) ∧ he = false := by
     rw [PowersAt, ← hfr, ← hun, ← hhe]
     constructor
     · rintro ⟨⟨_, a1⟩, a2, a3⟩; exact ⟨⟨a1, a2⟩, by simpa using a3⟩
     · rintro ⟨⟨a1, a2⟩, a3⟩; exact ⟨⟨by omega, a1⟩, a2, by rw [a3]; decide⟩
   refine qbk ?_
   refine qbm ?_
   refine qaa ?_
   refine LJ_q (by first | exact yv_index_ro tb rfl rfl rfl rfl (by first | assumption | exact zr (by simp)) (i := k) (by first | rfl | omega | (simp; omega)) (by omega) | exact yv_index tb rfl rfl rfl rfl (i := k) (by first | rfl | omega | (simp; omega)) (by omega)) rfl ?_
   refine qb0 ?_
   refine qa7 ?_
   refine qah ?_
   apply LJ_and (G := [_]) (j := 5) (cj := 202) rfl rfl (by rfl) rfl (show _ = Value.bool _ from rfl) rfl
   ·
    intro hg6
    replace hg6 := qb hg6
    refine qah ?_
    exact qai
   intro junk6
   refine qah ?_
   apply LJ_and (G := [_, _]) (j := 8) (cj := 205) rfl rfl (by rfl) rfl (show _ = Value.bool _ from rfl) rfl
   ·
    intro hg9
    replace hg9 := qb hg9
    refine qah ?_
    refine qb4 ?_
    exact qai
   intro junk9
   refine qaf ?_
   refine q_c (fun hc7 => ?_) (fun hc7 => ?_)
   ·
    refine qay ?_
    refine qad ?_
    refine qcs ?_
    refine qaa ?_
    refine qar ?_
    refine qad ?_
    refine qav ?_
    exact loopK_mk ⟨(k + 1, 20), by dsimp only; omega, (want_yes (hpw.2 hc7)).symm⟩ (by repeat (first | exact Off.refl | apply Off.upd rfl | apply Off.havoc rfl | apply Off.updL rfl | apply Off.left rfl)) (by repeat' (first | exact trivial | refine And.intro rfl ?_)) (by repeat (first | exact zs0 _ | exact zs1 _ | apply zs2 | apply zs3 | apply zs4 | apply zs5)) hR6 (by dsimp only; omega)
   refine qbj ?_
   refine qaa ?_
   refine qar ?_
   refine qad ?_
   refine qav ?_
   exact loopK_mk ⟨(k + 1, w2), by dsimp only; omega, by dsimp only; rw [want_no (fun h => by obtain ⟨⟨z1, z2⟩, z3⟩ := hpw.1 h; simp only [z1, z2, z3] at hc7; simp at hc7)]; exact hw2⟩ (by repeat (first | exact Off.refl | apply Off.upd rfl | apply Off.havoc rfl | apply Off.updL rfl | apply Off.left rfl)) (by repeat' (first | exact trivial | refine And.intro rfl ?_)) (by repeat (first | exact zs0 _ | exact zs1 _ | apply zs2 | apply zs3 | apply zs4 | apply zs5)) hR6 (by dsimp only; omega)
  obtain rfl : k = 3 := by omega
  have hcl : rcloseE (thriceS s zs) ca.l fa.l ⟨0, 0, 1, 2, 990⟩ f 1000 = w2 := by
    rw [hw2, hcal, hfal, ha]
    exact others_close hE hz hzl3 (by omega) hfS hfz hfr (by rw [← ha]; omega)
  refine qbk ?_
  refine LJ_q (yv_loadN (row := [_, _, _, _, _, _, _, _]) tb rfl rfl rfl (by repeat (first | exact zi0 | apply zi1 | apply zi2)) (by rfl) (by rfl)) rfl ?_
  refine qbm ?_
  refine qbm ?_
  refine ycwak ?_
  refine ycwap ?_
  refine LJ_call rfl (Close_tri (thriceS s zs) ca fa ⟨0, 0, 1, 2, 990⟩ f 1000 _ _ ⟨hA5, hcR, hlR⟩ hf5 (by omega)) rfl ?_
  rintro v L' R' ⟨r2, pc, psw, pz, rp, rfl, ⟨k2c, k3c, k4c⟩, hC, rfl, hR7⟩
  rw [hcl]
  refine LJ_q (yv_move rfl) rfl ?_
  iterate 4 refine qbs ?_
  refine qaq ?_
  intro b24
  refine qaq ?_
  intro b26
  refine qak ?_
  refine qc4 ?_
  refine qak ?_
  refine qad ?_
  refine qco ?_
  refine CJ_frz1 (A := [_, _]) (p := pz) (wd := 1) [] (fun _ => rfl) (by decide) k4c (fun s hs => by cases hs) ?_
  refine CJ_frz1 (A := [_, _]) (p := psw) (wd := 5) [] (fun _ => rfl) (by decide) k3c (fun s hs => by cases hs) ?_
  refine CJ_frz1 (A := [_, _]) (p := pc) (wd := 3) [] (fun _ => rfl) (by decide) k2c (fun s hs => by cases hs) ?_
  obtain ⟨f2, hf2e⟩ : ∃ f2 : XFeeder, f2 = ⟨psw.arr, pz.arr, rp⟩ := ⟨_, rfl⟩
  obtain ⟨R8, hR8e⟩ : ∃ R8, R8 = cusl pc.arr :: swsl psw.arr :: isl pz.arr :: R' := ⟨_, rfl⟩
  have hR8 : ∀ r ∈ R', InR r R8 := fun r hr => inR_self (by rw [hR8e]; exact .tail _ (.tail _ (.tail _ hr)))
  have hpcR : InR (cusl pc.arr) R8 := inR_self (by rw [hR8e]; exact .head _)
  have hf2R : FeederR f2 R8 := by rw [hf2e]; exact ⟨inR_self (by rw [hR8e]; exact .tail _ (.head _)), inR_self (by rw [hR8e]; exact .tail _ (.tail _ (.head _)))⟩
  have up8 : ∀ r ∈ R5, InR r R8 := fun r hr => (hR7 r hr).mono hR8
  have hs2R := hf2R.sw
  have hc8R := hcR.mono up8
  have e1 := hC.rest
  have e2 : pc.l = rcloseC (thriceS s zs) ca.l fa.l ⟨0, 0, 1, 2, 990⟩ f 1000 := hC.cuts
  have e3 : f2.switches.l = rcloseSw (thriceS s zs) ca.l fa.l ⟨0, 0, 1, 2, 990⟩ f 1000 := by rw [hf2e]; exact hC.sw
  have e4 : f2.zones.l = f.zones.l := by rw [hf2e]; exact hC.zn
  have e5 : f2.reply = f.reply := by rw [hf2e]; exact hC.rp
  rw [rcloseR, hcl] at e1
  rw [rcloseC, hcl] at e2
  rw [rcloseSw, hcl] at e3
  refine CJ_R (show _ = R8 by rw [hR8e]) ?_
  refine CJ_L (show _ = ⟨b26, f2.cells, 71⟩ :: ⟨b24, r2.cells, 78⟩ :: ⟨b12, XRest.cells ⟨0, 0, 1, 2, 990⟩, 78⟩ :: ⟨b6, f.cells, 71⟩ :: ⟨b4, (thriceS s zs).cells, 36⟩ :: [] by rw [hf2e]; rfl) ?_
  refine qay ?_
  refine qaa ?_
  refine qaa ?_
  refine qbq ?_
  refine qaf ?_
  refine q_c (fun hc8 => ?_) (fun hc8 => ?_)
  ·
   (exfalso; exact hc8 trivial)
  refine qbo ?_
  refine qaa ?_
  refine qbq ?_
  refine qaf ?_
  refine q_c (fun hc9 => ?_) (fun hc9 => ?_)
  ·
   rw [if_pos hc9] at e1 e2 e3
   subst e1
   refine qae ?_
   refine ycwak ?_
   refine ycwak ?_
   refine LJ_q (yv_eql_str restoringEq rfl rfl (by repeat (first | exact trivial | refine ⟨trivial, ?_⟩)) (by repeat (first | exact trivial | refine ⟨trivial, ?_⟩)) rfl) rfl ?_
   refine qah ?_
   refine LJ_case (k := 228) (show _ = Value.bool _ from rfl) (fun hg4 => ?_) (fun hg4 => ?_)
   ·
    replace hg4 := qb hg4
    refine LJ_qg (yv_move (show _ = Value.slice _ _ _ from rfl)) rfl rfl ?_
    refine LJ_qg (yv_move (show _ = Value.slice _ _ _ from rfl)) rfl rfl ?_
    refine LJ_callg rfl (sameCuts_tri pc.arr ca _ _ hpcR hc8R e2) rfl rfl ?_
    rintro v L' R' ⟨rfl, rfl, rfl⟩
    refine ycwal ?_
    refine qah ?_
    refine LJ_case (k := 233) (show _ = Value.bool _ from rfl) (fun hg9 => ?_) (fun hg9 => ?_)
    ·
     replace hg9 := qb hg9
     refine ycwar ?_
     refine ycwar ?_
     refine LJ_callg rfl (sameFeeder_tri f2 f _ _ hf2R (hf5.mono up8) e3 e4 e5) rfl rfl ?_
     rintro v L' R' ⟨rfl, rfl, rfl⟩
     refine ycwal ?_
     refine qah ?_
     refine LJ_case (k := 238) (show _ = Value.bool _ from rfl) (fun hg14 => ?_) (fun hg14 => ?_)
     ·
      replace hg14 := qb hg14
      refine LJ_callg rfl (awake21_tri _ _) rfl rfl ?_
      rintro v L' R' ⟨rfl, rfl, rfl⟩
      refine ycwal ?_
      refine qaz ?_
      refine qbh ?_
      refine retK_ret (L' := []) (R' := R) (res1 rfl (rv_tmp (show _ = Value.bool _ from rfl))) ?hp ?hL ?hR
      case hp => exact ⟨rfl, rfl, rfl⟩
      case hL => exact List.nil_sublist _
      case hR => exact fun r hr => (((((hRR r hr).mono hR2).mono hR3).mono hR4).mono hR5).mono up8
     replace hg14 := qb hg14
     simp at hg14
    replace hg9 := qb hg9
    simp at hg9
   replace hg4 := qb hg4
   simp [cellsEq, cellEq] at hg4
  obtain rfl : w2 = 0 := by omega
  have hown2 : ownR f ⟨0, 0, 1, 2, 990⟩ ↔ a = own := by
    show atR f 0 = f.zones.l.getD 0 0 ↔ _
    rw [← ha, ← howe]
  rw [if_neg (by decide)] at e1 e2 e3
  have e6 : f2.switches.l = closeSw f.switches.l a 1000 := by rw [e3, ha]
  have hs2l : f2.switches.l.length = i := by rw [e6, closeSw, List.length_set]; exact hswl
  have hs2g : f2.switches.l[a.toNat]? = some ⟨(f.switches.l.getD a.toNat default).above, 1000, 0, true, false⟩ := by rw [e6, closeSw]; exact List.getElem?_set_self (by omega)
  have e7 : pc.l = [⟨decide (a ≠ own), 0, 0⟩, ⟨bo1, 0, 0⟩, ⟨bo2, 0, 0⟩] := by
    rw [e2, hcal]
    by_cases h : a = own
    · rw [if_pos (hown2.2 h), decide_eq_false (by simpa using h)]; rfl
    · rw [if_neg (fun h2 => h (hown2.1 h2)), decide_eq_true h]
  have hpn : pc.l.length = 3 := by rw [e7]; rfl
  have hpn2 : pc.arr.l.length = 3 := hpn
  have hpg0 : pc.arr.l[0]? = some ⟨decide (a ≠ own), 0, 0⟩ := by show pc.l[0]? = _; rw [e7]; rfl
  have hpg1 : pc.arr.l[1]? = some ⟨bo1, 0, 0⟩ := by show pc.l[1]? = _; rw [e7]; rfl
  have hpg2 : pc.arr.l[2]? = some ⟨bo2, 0, 0⟩ := by show pc.l[2]? = _; rw [e7]; rfl
  have hcg1 : ca.l[1]? = some ⟨bo1, 0, 0⟩ := by rw [hcal]; rfl
  have hcg2 : ca.l[2]? = some ⟨bo2, 0, 0⟩ := by rw [hcal]; rfl
  refine CJ_skip (seqK_normal (CJ_seq (CJ_seq ?_)))
  refine CJ_drawn tb [0, 1, 2, 3, 4, 5, 6, 7, 8, 9, 10, 11, 12, 13, 14, 15, 16, 17, 18, 19, 20, 21, 22, 23, 24, 25, 26, 27, 28, 29, 30, 31, 32, 33, 34, 35, 36, 37, 38, 39, 40, 41, 42, 43, 44, 45, 46, 47, 48, 49, 50, 51, 52, 53, 54, 55] ([Blk.mk b26 _ _]) mixed (by kernel_rfl) (by repeat (first | exact zs0 _ | exact zs1 _ | apply zs2 | apply zs3 | apply zs4 | apply zs5)) ?_
  refine qal ?_
  refine qat ?_
  refine DJ_q (yv_len tb rfl rfl rfl) rfl rfl rfl ?_
  refine qao ?_
  refine DJ_q (yv_neq rfl rfl) rfl rfl rfl ?_
  refine qb2 ?_
  refine DJ_case (k := 246) (show _ = Value.bool _ from rfl) (fun hg5 => ?_) (fun hg5 => ?_)
  ·
   replace hg5 := qb hg5
   (exfalso; exact hg5 (by rw [hs2l]))
  replace hg5 := qb hg5
  refine qal ?_
  refine qat ?_
  refine qao ?_
  refine ycwas ?_
  refine qce ?_
  refine qbl ?_
  refine DJ_q (yv_not rfl) rfl rfl rfl ?_
  refine qbp ?_
  refine qb2 ?_
  refine DJ_case (k := 255) (show _ = Value.bool _ from rfl) (fun hg14 => ?_) (fun hg14 => ?_)
  ·
   replace hg14 := qb hg14
   simp at hg14
  replace hg14 := qb hg14
  refine qal ?_
  refine qat ?_
  refine qao ?_
  refine ycwas ?_
  refine qce ?_
  refine qbl ?_
  refine DJ_q (yv_neq rfl rfl) rfl rfl rfl ?_
  refine qbp ?_
  refine qb2 ?_
  refine DJ_case (k := 264) (show _ = Value.bool _ from rfl) (fun hg23 => ?_) (fun hg23 => ?_)
  ·
   replace hg23 := qb hg23
   (exfalso; first | omega | (simp at hg23; done))
  replace hg23 := qb hg23
  refine ycwaa ?_
  refine DJ_q (yv_len tb rfl rfl rfl) rfl rfl rfl ?_
  refine DJ_q (yv_neq rfl rfl) rfl rfl rfl ?_
  refine qbp ?_
  refine qb2 ?_
  refine DJ_case (k := 269) (show _ = Value.bool _ from rfl) (fun hg28 => ?_) (fun hg28 => ?_)
  ·
   replace hg28 := qb hg28
   (exfalso; omega)
  replace hg28 := qb hg28
  refine ycwaa ?_
  refine qdu ?_
  refine qce ?_
  refine qbl ?_
  refine qao ?_
  refine qao ?_
  refine DJ_q (yv_eql rfl rfl) rfl rfl rfl ?_
  refine DJ_q (yv_eql_bool tb rfl rfl rfl) rfl rfl rfl ?_
  refine qbp ?_
  refine qb2 ?_
  refine DJ_case (k := 279) (show _ = Value.bool _ from rfl) (fun hg38 => ?_) (fun hg38 => ?_)
  ·
   replace hg38 := qb hg38
   (exfalso; by_cases h : a = own <;> simp [h] at hg38)
  replace hg38 := qb hg38
  refine ycwaa ?_
  refine ycwat ?_
  refine qdv ?_
  refine ycwaa ?_
  refine ycwat ?_
  refine qdv ?_
  refine DJ_q (yv_neq_str cutEq rfl rfl (by repeat (first | exact trivial | refine ⟨trivial, ?_⟩)) (by repeat (first | exact trivial | refine ⟨trivial, ?_⟩)) rfl) rfl rfl rfl ?_
  refine qbp ?_
  refine qb2 ?_
  refine DJ_case (k := 288) (show _ = Value.bool _ from rfl) (fun hg47 => ?_) (fun hg47 => ?_)
  ·
   replace hg47 := qb hg47
   simp [cellsEq, cellEq] at hg47
  replace hg47 := qb hg47
  refine ycwaa ?_
  refine ycwau ?_
  refine qdv ?_
  refine ycwaa ?_
  refine ycwau ?_
  refine qdv ?_
  refine DJ_q (yv_neq_str cutEq rfl rfl (by repeat (first | exact trivial | refine ⟨trivial, ?_⟩)) (by repeat (first | exact trivial | refine ⟨trivial, ?_⟩)) rfl) rfl rfl rfl ?_
  refine qbp ?_
  refine qbu ?_
  refine q_c (fun hc10 => ?_) (fun hc10 => ?_)
  ·
   (exfalso; simp [cellsEq, cellEq] at hc10)
  refine qcl ?_
  refine CJ_drawn tb [0, 1, 2, 3, 4, 5, 6, 7, 8, 9, 10, 11, 12, 13, 14, 15, 16, 17, 18, 19, 20, 21, 22, 23, 24, 25, 26, 27, 28, 29, 30, 31] ([Blk.mk b24 _ _]) mixed (by kernel_rfl) (by repeat (first | exact zs0 _ | exact zs1 _ | apply zs2 | apply zs3 | apply zs4 | apply zs5)) ?_
  refine qao ?_
  refine qao ?_
  refine DJ_q (yv_eql rfl rfl) rfl rfl rfl ?_
  refine qb2 ?_
  refine DJ_case (k := 300) (show _ = Value.bool _ from rfl) (fun hg3 => ?_) (fun hg3 => ?_)
  ·
   replace hg3 := qb hg3
   have hao : a = own := by omega
   rw [if_pos (hown2.2 hao)] at e1
   subst e1
   refine DJ_q (yv_loadN (row := [_, _, _, _, _]) tb rfl rfl rfl (by repeat (first | exact zi0 | apply zi1 | apply zi2)) (by rfl) (by rfl)) rfl rfl rfl ?_
   refine q_d rfl (None_tri _ _) ?_
   refine DJ_q (yv_eql_str restoringEq rfl rfl (by repeat (first | exact trivial | refine ⟨trivial, ?_⟩)) (by repeat (first | exact trivial | refine ⟨trivial, ?_⟩)) rfl) rfl rfl rfl ?_
   refine qbp ?_
   refine qb2 ?_
   refine DJ_case (k := 305) (show _ = Value.bool _ from rfl) (fun hg8 => ?_) (fun hg8 => ?_)
   ·
    replace hg8 := qb hg8
    iterate 18 refine qap ?_
    refine qbp ?_
    refine qb2 ?_
    refine q_d rfl (awake21_tri _ _) ?_
    refine qbp ?_
    refine DJ_q (yv_assign (show _ = Value.bool _ from rfl)) rfl rfl rfl ?_
    refine DJ_nil (seqK_normal (CJ_ret ?_))
    refine retK_ret (L' := []) (R' := R) (res1 rfl (rv_tmp (show _ = Value.bool _ from rfl))) ?hp ?hL ?hR
    case hp => exact ⟨rfl, rfl, rfl⟩
    case hL => exact List.nil_sublist _
    case hR => exact fun r hr => (((((hRR r hr).mono hR2).mono hR3).mono hR4).mono hR5).mono up8
   replace hg8 := qb hg8
   (exfalso; simp [cellsEq, cellEq, noRest, XRest.cells] at hg8)
  replace hg3 := qb hg3
  have hao : a ≠ own := by omega
  rw [if_neg (fun h => hao (hown2.1 h))] at e1
  subst e1
  iterate 3 refine qap ?_
  refine qbp ?_
  refine qb2 ?_
  refine qao ?_
  refine qao ?_
  refine DJ_q (yv_neq rfl rfl) rfl rfl rfl ?_
  refine qb2 ?_
  refine DJ_case (k := 309) (show _ = Value.bool _ from rfl) (fun hg12 => ?_) (fun hg12 => ?_)
  ·
   replace hg12 := qb hg12
   refine qal ?_
   refine qat ?_
   refine DJ_q (yv_eql rfl rfl) rfl rfl rfl ?_
   refine qbp ?_
   refine qb2 ?_
   refine DJ_case (k := 314) (show _ = Value.bool _ from rfl) (fun hg17 => ?_) (fun hg17 => ?_)
   ·
    replace hg17 := qb hg17
    refine qal ?_
    refine qat ?_
    refine DJ_q (yv_eql rfl rfl) rfl rfl rfl ?_
    refine qbp ?_
    refine qb2 ?_
    refine DJ_case (k := 319) (show _ = Value.bool _ from rfl) (fun hg22 => ?_) (fun hg22 => ?_)
    ·
     replace hg22 := qb hg22
     refine qal ?_
     refine qat ?_
     refine DJ_q (yv_eql rfl rfl) rfl rfl rfl ?_
     refine qbp ?_
     refine qbp ?_
     refine qb2 ?_
     refine DJ_case (k := 325) (show _ = Value.bool _ from rfl) (fun hg28 => ?_) (fun hg28 => ?_)
     ·
      replace hg28 := qb hg28
      refine q_d rfl (awake21_tri _ _) ?_
      refine qbp ?_
      refine DJ_q (yv_assign (show _ = Value.bool _ from rfl)) rfl rfl rfl ?_
      refine DJ_nil (seqK_normal (CJ_ret ?_))
      refine retK_ret (L' := []) (R' := R) (res1 rfl (rv_tmp (show _ = Value.bool _ from rfl))) ?hp ?hL ?hR
      case hp => exact ⟨rfl, rfl, rfl⟩
      case hL => exact List.nil_sublist _
      case hR => exact fun r hr => (((((hRR r hr).mono hR2).mono hR3).mono hR4).mono hR5).mono up8
     replace hg28 := qb hg28
     (exfalso; first | exact hg28 rfl | (simp at hg28; done))
    replace hg22 := qb hg22
    (exfalso; first | exact hg22 rfl | (simp at hg22; done))
   replace hg17 := qb hg17
   (exfalso; first | exact hg17 rfl | (simp at hg17; done))
  replace hg12 := qb hg12
  (exfalso; omega)
end Go.Proofs.Ytkpfjmibipblhaa
