import Derived.Test.YtkpfjmibipblhaaEasyR
import Derived.Test.YtkpfjmibipblhaaFeedW
import Derived.Test.YtkpfjmibipblhaaDrawS
section
/-
  Statements about chapter 21: the sanity check, and a drawn scene. By an AI agent; no person has read it.
-/
set_option linter.unusedSimpArgs false
set_option linter.unusedVariables false
namespace Go.Proofs.Ytkpfjmibipblhaa
open Go.Aw Go
set_option maxRecDepth 20000
attribute [local irreducible] CJ LJ DJ Tri YV Gives seqK blockK loopK retK RV mergeK OwL.L
section
variable {A9 B9 : Prop}
theorem ycmaa (a : A9) (h : A9 → B9 := by exact DJ_q (yv_move (show _ = Value.slice _ _ _ from rfl)) rfl rfl rfl) : B9 := h a
theorem ycmab (a : A9) (h : A9 → B9 := by exact DJ_q (yv_loadN (row := [_, _, _, _, _, _, _, _]) tb rfl rfl rfl (by repeat (first | exact zi0 | apply zi1 | apply zi2)) (by rfl) (by rfl)) rfl rfl rfl) : B9 := h a
theorem ycmac (a : A9) (h : A9 → B9 := by exact LJ_q (yv_loadN (row := [_, _, _, _, _, _, _, _]) tb rfl rfl rfl (by repeat (first | exact zi0 | apply zi1 | apply zi2)) (by rfl) (by rfl)) rfl) : B9 := h a
theorem ycmad (a : A9) (h : A9 → B9 := by exact LJ_q (yv_loadN (row := [_, _, _, _, _]) tb rfl rfl rfl (by repeat (first | exact zi0 | apply zi1 | apply zi2)) (by rfl) (by rfl)) rfl) : B9 := h a
end
theorem awake21_tri (L : List Blk) (R : List Sl) : Tri Try.prog 27 ([] : List Value).toArray L R (fun v L' R' => v = .bool true ∧ L = L' ∧ R = R') := by
  refine tri_enter 109 Try.call27 Try.func27 rfl rfl rfl ?_
  refine qae ?_
  refine qaz ?_
  refine qa4 ?_
  refine CJ_nil 1 ?_
  refine qay ?_
  refine LJ_call rfl (new_tri ⟨none, 0, []⟩ _ _ ⟨inR_self (.head _), fun i q hq => by simp at hq⟩) rfl ?_
  rintro v L' R' ⟨c, rfl, hx, rfl, rfl⟩
  refine LJ_call rfl (Tri.spl (.consL .rest) (drawEasy_tri c _ 0 _ hx (Nat.zero_le _))) rfl ?_
  rintro v L' R' ⟨_, rfl, s, len, dl, ho, sw, zn, n, k1, rfl, hE, ⟨hsk, hzk⟩, hn, hsl, hzl, ⟨hk1, he0⟩, ⟨hs, hR0⟩, rfl⟩
  refine LJ_q (yv_move rfl) rfl ?_
  refine qbs ?_
  refine qbs ?_
  refine qaq ?_
  intro b1
  refine qaq ?_
  intro b2
  refine qak ?_
  refine qak ?_
  refine qa4 ?_
  obtain ⟨rfl, rfl, rfl, rfl, _⟩ := he0 (Nat.zero_le _)
  obtain ⟨so, sl⟩ := sw
  obtain ⟨zo, zl⟩ := zn
  obtain rfl : sl = [⟨-1, 0, 0, true, false⟩] := hsl
  obtain rfl : zl = [0] := hzl
  have hRR : ∀ r ∈ R, InR r R' := fun r hr => hR0 r (.tail _ (.tail _ hr))
  have hsg : ([⟨-1, 0, 0, true, false⟩] : List XSwitch)[0]? = some ⟨-1, 0, 0, true, false⟩ := rfl
  have hl0 : ([⟨-1, 0, 0, true, false⟩] : List XSwitch).length = 1 := rfl
  have hl1 : ([⟨-1, 0, 0, false, false⟩] : List XSwitch).length = 1 := rfl
  have hsg1 : ([⟨-1, 0, 0, false, false⟩] : List XSwitch)[0]? = some ⟨-1, 0, 0, false, false⟩ := rfl
  have hsk1 : (⟨so, [⟨-1, 0, 0, false, false⟩]⟩ : OwL XSwitch).ok 5 XSwitch.cells := OwL.set_ok (f := XSwitch.cells) (wd := 5) (i := 0) (x := ⟨-1, 0, 0, false, false⟩) (fun _ => rfl) hsk
  have hsk2 : (⟨so, [⟨-1, 0, -1, false, false⟩]⟩ : OwL XSwitch).ok 5 XSwitch.cells := OwL.set_ok (f := XSwitch.cells) (wd := 5) (i := 0) (x := ⟨-1, 0, -1, false, false⟩) (fun _ => rfl) hsk1
  refine CJ_drawn2 tb [20, 21] [0, 1, 2, 3, 4, 5] [6, 7, 8, 9] ([Blk.mk b2 _ _]) _ mixed (by kernel_rfl) (by repeat (first | exact zs0 _ | exact zs1 _ | apply zs2 | apply zs3 | apply zs4 | apply zs5)) (by (repeat (first | apply List.Sublist.cons (a := Blk.mk b19 _ _) | apply List.Sublist.cons (a := Blk.mk b21 _ _) | apply List.Sublist.cons_cons)); exact List.Sublist.refl _) ?_
  refine qan ?_
  refine qau ?_
  refine qcp ?_
  refine qcu ?_
  refine DJ3_q (yv_index_ow tb ((⟨so, [⟨-1, 0, 0, true, false⟩]⟩ : OwL XSwitch)) _ rfl rfl rfl rfl (by assumption) (i := 0) (by first | rfl | omega | (simp; omega)) (by first | omega | (dsimp only; omega) | (dsimp only; rw [List.length_set]; omega) | (dsimp only; simp only [List.length_set]; omega))) rfl rfl rfl rfl ?_
  refine qcv ?_
  refine qba ?_
  refine DJ_g0 (gives_store1_ow tb ((⟨so, [⟨-1, 0, 0, true, false⟩]⟩ : OwL XSwitch)) (⟨-1, 0, 0, false, false⟩) rfl rfl rfl rfl (by repeat (first | apply OSeg.cons | exact OSeg.here | exact OSeg.last | exact OSeg.at (by assumption) | apply OSeg.app)) (by assumption) (fun _ => rfl) (by assumption) (by decide) (by rfl) (by rfl)) rfl rfl ?_
  rintro v L' R' ⟨rfl, rfl⟩
  refine qa1 ?_
  refine DJ_q (yv_index_ow tb ((⟨so, [⟨-1, 0, 0, false, false⟩]⟩ : OwL XSwitch)) _ rfl rfl rfl rfl (by assumption) (i := 0) (by first | rfl | omega | (simp; omega)) (by first | omega | (dsimp only; omega) | (dsimp only; rw [List.length_set]; omega) | (dsimp only; simp only [List.length_set]; omega))) rfl rfl rfl ?_
  refine qce ?_
  refine DJ_g0 (gives_store1_ow tb ((⟨so, [⟨-1, 0, 0, false, false⟩]⟩ : OwL XSwitch)) (⟨-1, 0, -1, false, false⟩) rfl rfl rfl rfl (by repeat (first | apply OSeg.cons | exact OSeg.here | exact OSeg.last | exact OSeg.at (by assumption) | apply OSeg.app)) (by assumption) (fun _ => rfl) (by assumption) (by decide) (by rfl) (by rfl)) rfl rfl ?_
  rintro v L' R' ⟨rfl, rfl⟩
  refine qa1 ?_
  refine qb9 ?_
  refine CJ_frz1 (A := ⟨b2, [(⟨so, [⟨-1, 0, -1, false, false⟩]⟩ : OwL XSwitch).val, (⟨zo, [0]⟩ : OwL Int).val, .int .i64 3], 71⟩ :: ⟨b1, s.cells, 36⟩ :: L) (p := (⟨so, [⟨-1, 0, -1, false, false⟩]⟩ : OwL XSwitch)) (wd := 5) [] (fun _ => rfl) (by decide) hsk2 (fun s hs => by cases hs) ?_
  refine CJ_frz1 (A := ⟨b2, [(⟨so, [⟨-1, 0, -1, false, false⟩]⟩ : OwL XSwitch).val, (⟨zo, [0]⟩ : OwL Int).val, .int .i64 3], 71⟩ :: ⟨b1, s.cells, 36⟩ :: L) (p := (⟨zo, [0]⟩ : OwL Int)) (wd := 1) [] (fun _ => rfl) (by decide) hzk (fun s hs => by cases hs) ?_
  refine CJ_weak (L' := ⟨b2, [(⟨so, [⟨-1, 0, -1, false, false⟩]⟩ : OwL XSwitch).val, (⟨zo, [0]⟩ : OwL Int).val, .int .i64 3], 71⟩ :: ⟨b1, s.cells, 36⟩ :: L) (List.sublist_append_left _ _) (allR_self _) ?_
  obtain ⟨f, hfe⟩ : ∃ f : XFeeder, f = ⟨(⟨so, [⟨-1, 0, -1, false, false⟩]⟩ : OwL XSwitch).arr, (⟨zo, [0]⟩ : OwL Int).arr, 3⟩ := ⟨_, rfl⟩
  obtain ⟨R2, hR2e⟩ : ∃ R2, R2 = isl f.zones :: swsl f.switches :: R' := ⟨_, rfl⟩
  have hR2 : ∀ r ∈ R', InR r R2 := fun r hr => inR_self (by rw [hR2e]; exact .tail _ (.tail _ hr))
  have hf2 : FeederR f R2 := ⟨inR_self (by rw [hR2e]; exact .tail _ (.head _)), inR_self (by rw [hR2e]; exact .head _)⟩
  have hs2 := hs.mono hR2
  have hfs : f.switches.l = [⟨-1, 0, -1, false, false⟩] := by rw [hfe]
  have hfz : f.zones.l = [0] := by rw [hfe]
  have hfr : f.reply = 3 := by rw [hfe]
  refine CJ_R (show _ = R2 by rw [hR2e, hfe]) ?_
  refine CJ_L (show _ = ⟨b2, f.cells, 71⟩ :: ⟨b1, s.cells, 36⟩ :: L by rw [hfe]; rfl) ?_
  refine qay ?_
  refine LJ_q (yv_build (qs := [(0, (Value.bool _).cells.toList)]) (out := [_, _, _]) tb rfl rfl rfl rfl) rfl ?_
  refine LJ_g (gives_buildSlice (qs := [(0, (Value.agg _).cells.toList)]) (out := [_, _, _]) tb rfl rfl rfl rfl rfl rfl rfl) rfl ?_
  rintro v L' R' ⟨b27, rfl, rfl, hR27⟩
  replace hR27 := hR27.symm; subst hR27
  refine LJ_frz (wd := 3) (len := 1) (cap := 1) (rows := [XCut.cells ⟨true, 0, 0⟩]) (subs := []) rfl (by decide) (by decide) (fun r hr => by rw [List.mem_singleton.1 hr]; rfl) (by decide) rfl (fun s hs => by cases hs) ?_
  refine qcd ?_
  refine LJ_g (gives_buildSlice (qs := [(0, (Value.agg _).cells.toList)]) (out := [_, _]) tb rfl rfl rfl rfl rfl rfl rfl) rfl ?_
  rintro v L' R' ⟨b29, rfl, rfl, hR29⟩
  replace hR29 := hR29.symm; subst hR29
  refine LJ_frz (wd := 2) (len := 1) (cap := 1) (rows := [XSpan.cells ⟨300, 300⟩]) (subs := []) rfl (by decide) (by decide) (fun r hr => by rw [List.mem_singleton.1 hr]; rfl) (by decide) rfl (fun s hs => by cases hs) ?_
  refine qc4 ?_
  refine qc4 ?_
  refine qa4 ?_
  obtain ⟨R3, hR3e⟩ : ∃ R3, R3 = spsl (⟨some ⟨b29, 0, none⟩, 1, [⟨300, 300⟩]⟩ : Arr XSpan) :: cusl (⟨some ⟨b27, 0, none⟩, 1, [⟨true, 0, 0⟩]⟩ : Arr XCut) :: R2 := ⟨_, rfl⟩
  have hR3 : ∀ r ∈ R2, InR r R3 := fun r hr => inR_self (by rw [hR3e]; exact .tail _ (.tail _ hr))
  have hA : RestA s (⟨some ⟨b27, 0, none⟩, 1, [⟨true, 0, 0⟩]⟩ : Arr XCut) (⟨some ⟨b29, 0, none⟩, 1, [⟨300, 300⟩]⟩ : Arr XSpan) R3 := ⟨hs2.mono hR3, inR_self (by rw [hR3e]; exact .tail _ (.head _)), inR_self (by rw [hR3e]; exact .head _)⟩
  have hf3 := hf2.mono hR3
  have hrd := fun t => easy_ready hE (cl := 0) (rs := 0) (t := t) (x := ⟨300, 300⟩) (by omega)
  have hrd20 : readyE s [⟨true, 0, 0⟩] [⟨300, 300⟩] 0 20 = 0 := (hrd 20).trans (by decide)
  have hrd21 : readyE s [⟨true, 0, 0⟩] [⟨300, 300⟩] 0 21 = 0 := (hrd 21).trans (by decide)
  have hrd22 : readyE s [⟨true, 0, 0⟩] [⟨300, 300⟩] 0 22 = 0 := (hrd 22).trans (by decide)
  have hrd4 : readyF s [⟨true, 0, 0⟩] [⟨300, 300⟩] 0 4 = 20 := by
    rw [readyF]
    show (if sharedE s 1 1 4 ≠ 0 then sharedE s 1 1 4 else _) = _
    rw [easy_shared hE (by omega), if_neg (by decide)]
    exact (hrd 4).trans (by decide)
  have hask : askE s [⟨true, 0, 0⟩] [⟨300, 300⟩] noRest 0 0 20 = 0 := by rw [easy_ask hE rfl rfl (by omega), hrd20]
  have haskr : askR s [⟨true, 0, 0⟩] [⟨300, 300⟩] noRest 0 0 20 = ⟨0, 0, -1, 1, 20⟩ := by rw [askR, if_pos hask]
  have hcon : confirmE s [⟨true, 0, 0⟩] [⟨300, 300⟩] ⟨0, 0, -1, 1, 20⟩ 1 21 = 0 := by rw [easy_confirm hE rfl rfl (by omega), if_neg (by omega), hrd21]
  have hconr : confirmR s [⟨true, 0, 0⟩] [⟨300, 300⟩] ⟨0, 0, -1, 1, 20⟩ 1 21 = ⟨0, 0, 1, 2, 21⟩ := by rw [confirmR, if_pos hcon]
  have hfe0 : feedE f.switches.l f.zones.l f.reply = 0 := by rw [hfs, hfz, hfr]; decide
  have hcan := easy_can hE (c := [⟨true, 0, 0⟩]) (fl := [⟨300, 300⟩]) (t0 := 21) (t := 22) (f := f) rfl rfl (by omega) (by omega) hrd22 hfe0 (by rw [hfz]; rfl)
  have hat : atR f 0 = 0 := by rw [atR, hfs, hfz, hfr]; decide
  have hcl : rcloseE s [⟨true, 0, 0⟩] [⟨300, 300⟩] ⟨0, 0, 1, 2, 21⟩ f 22 = 0 := by
    rw [rcloseE, hcan, if_neg (by decide)]
    show closeE _ _ _ (atR f 0) 22 = 0
    rw [hat, hfs, hfz, hfr]; decide
  refine CJ_R (show _ = R3 by rw [hR3e]; rfl) ?_
  refine CJ_drawn tb [0, 1, 2, 3, 4, 5, 6, 7, 8, 9, 10] ([Blk.mk b1 _ _]) mixed (by kernel_rfl) (by repeat (first | exact zs0 _ | exact zs1 _ | apply zs2 | apply zs3 | apply zs4 | apply zs5)) ?_
  refine ycmab ?_
  refine ycmaa ?_
  refine ycmaa ?_
  refine q_d rfl (None_tri _ _) ?_
  refine q_d rfl (Ask_tri s (⟨some ⟨b27, 0, none⟩, 1, [⟨true, 0, 0⟩]⟩ : Arr XCut) (⟨some ⟨b29, 0, none⟩, 1, [⟨300, 300⟩]⟩ : Arr XSpan) noRest 0 0 20 _ _ hA) ?_
  dsimp only
  rw [hask, haskr]
  refine DJ_q (yv_move rfl) rfl rfl rfl ?_
  refine DJ_q (yv_extract rfl rfl) rfl rfl rfl ?_
  refine DJ_q (yv_extract rfl rfl) rfl rfl rfl ?_
  refine qbr ?_
  intro b5
  refine qbg ?_
  refine qcg ?_
  refine DJ_nil (seqK_normal (CJ_seq (CJ_region ?_)))
  refine ycmac ?_
  refine qbm ?_
  refine qbm ?_
  refine ycmad ?_
  refine q_l rfl (Confirm_tri s (⟨some ⟨b27, 0, none⟩, 1, [⟨true, 0, 0⟩]⟩ : Arr XCut) (⟨some ⟨b29, 0, none⟩, 1, [⟨300, 300⟩]⟩ : Arr XSpan) ⟨0, 0, -1, 1, 20⟩ 1 21 _ _ hA) ?_
  dsimp only
  rw [hcon, hconr]
  refine LJ_q (yv_move rfl) rfl ?_
  refine qbs ?_
  refine qbs ?_
  refine qaq ?_
  intro b7
  refine qak ?_
  refine qad ?_
  refine qam ?_
  refine ycmac ?_
  refine qbm ?_
  refine qbm ?_
  refine ycmad ?_
  refine LJ_q (yv_loadN (row := [_, _, _]) tb rfl rfl rfl (by repeat (first | exact zi0 | apply zi1 | apply zi2)) (by rfl) (by rfl)) rfl ?_
  refine LJ_call rfl (Close_tri s (⟨some ⟨b27, 0, none⟩, 1, [⟨true, 0, 0⟩]⟩ : Arr XCut) (⟨some ⟨b29, 0, none⟩, 1, [⟨300, 300⟩]⟩ : Arr XSpan) ⟨0, 0, 1, 2, 21⟩ f 22 _ _ hA hf3 (by rw [hfs, hfz]; simp)) rfl ?_
  rintro v L' R' ⟨q, pc, psw, pz, rp, rfl, ⟨k1, k2, k3⟩, hC, rfl, hR4⟩
  have hown : ownR f ⟨0, 0, 1, 2, 21⟩ := by show atR f 0 = f.zones.l.getD 0 0; rw [hat, hfz]; rfl
  obtain rfl : q = noRest := hC.rest.trans (by rw [rcloseR]; dsimp only; rw [hcl, if_neg (by decide), if_pos hown])
  obtain ⟨po, pl⟩ := pc
  obtain ⟨qo, ql⟩ := psw
  obtain rfl : pl = [⟨false, 0, 0⟩] := hC.cuts.trans (by rw [rcloseC]; dsimp only; rw [hcl, if_neg (by decide), if_pos hown]; rfl)
  obtain rfl : ql = [⟨-1, 22, 0, true, false⟩] := hC.sw.trans (by rw [rcloseSw]; dsimp only; rw [hcl, if_neg (by decide)]; show closeSw f.switches.l (atR f 0) 22 = _; rw [hat, hfs]; rfl)
  dsimp only
  rw [hcl]
  refine LJ_q (yv_move rfl) rfl ?_
  iterate 4 refine qbs ?_
  refine qaq ?_
  intro b9
  refine qaq ?_
  intro b11
  refine qak ?_
  refine qc4 ?_
  refine qak ?_
  refine qad ?_
  refine qa4 ?_
  have hA4 := hA.mono hR4
  have hpg : ([⟨false, 0, 0⟩] : List XCut)[0]? = some ⟨false, 0, 0⟩ := rfl
  have hpl : ([⟨false, 0, 0⟩] : List XCut).length = 1 := rfl
  have hqg : ([⟨-1, 22, 0, true, false⟩] : List XSwitch)[0]? = some ⟨-1, 22, 0, true, false⟩ := rfl
  have hql : ([⟨-1, 22, 0, true, false⟩] : List XSwitch).length = 1 := rfl
  have fin : ∀ r ∈ R, InR r R' := fun r hr => (((hRR r hr).mono hR2).mono hR3).mono hR4
  refine CJ_drawn tb [0, 1, 2, 3, 4, 5, 6, 7, 8, 9, 10, 11, 12, 13, 14, 15, 16, 17, 18, 19, 20, 21, 22, 23, 24, 25, 26, 27, 28, 29, 30, 31, 32, 33, 34, 35, 36, 37, 38, 39, 40, 41, 42, 43, 44, 45, 46, 47, 48, 49, 50, 51, 52] ((⟨b11, [(⟨qo, [⟨-1, 22, 0, true, false⟩]⟩ : OwL XSwitch).val, pz.val, .int .i64 rp], 71⟩ :: ⟨b9, noRest.cells, 78⟩ :: ((⟨qo, [⟨-1, 22, 0, true, false⟩]⟩ : OwL XSwitch).L 98 XSwitch.cells ++ ((⟨po, [⟨false, 0, 0⟩]⟩ : OwL XCut).L 93 XCut.cells ++ (⟨b1, s.cells, 36⟩ :: []))))) mixed (by kernel_rfl) (by repeat (first | exact zs0 _ | exact zs1 _ | apply zs2 | apply zs3 | apply zs4 | apply zs5)) ?_
  refine ycmab ?_
  refine ycmaa ?_
  refine ycmaa ?_
  refine q_d rfl (Ready_tri s (⟨some ⟨b27, 0, none⟩, 1, [⟨true, 0, 0⟩]⟩ : Arr XCut) (⟨some ⟨b29, 0, none⟩, 1, [⟨300, 300⟩]⟩ : Arr XSpan) 0 4 _ _ hA4) ?_
  dsimp only
  rw [hrd4]
  refine DJ_q (yv_eql rfl rfl) rfl rfl rfl ?_
  refine qb2 ?_
  refine DJ_case (k := 62) (show _ = Value.bool _ from rfl) (fun hg5 => ?_) (fun hg5 => ?_)
  ·
   replace hg5 := qb hg5
   refine qao ?_
   refine DJ_q (yv_eql rfl rfl) rfl rfl rfl ?_
   refine qbp ?_
   refine qb2 ?_
   refine DJ_case (k := 66) (show _ = Value.bool _ from rfl) (fun hg9 => ?_) (fun hg9 => ?_)
   ·
    replace hg9 := qb hg9
    refine qao ?_
    refine DJ_q (yv_eql rfl rfl) rfl rfl rfl ?_
    refine qbp ?_
    refine qb2 ?_
    refine DJ_case (k := 70) (show _ = Value.bool _ from rfl) (fun hg13 => ?_) (fun hg13 => ?_)
    ·
     replace hg13 := qb hg13
     refine qao ?_
     refine DJ_q (yv_eql rfl rfl) rfl rfl rfl ?_
     refine qbp ?_
     refine qb2 ?_
     refine DJ_case (k := 74) (show _ = Value.bool _ from rfl) (fun hg17 => ?_) (fun hg17 => ?_)
     ·
      replace hg17 := qb hg17
      refine DJ_q (yv_loadN (row := [_, _, _, _, _]) tb rfl rfl rfl (by repeat (first | exact zi0 | apply zi1 | apply zi2)) (by rfl) (by rfl)) rfl rfl rfl ?_
      refine q_d rfl (None_tri _ _) ?_
      refine DJ_q (yv_eql_str restoringEq rfl rfl (by repeat (first | exact trivial | refine ⟨trivial, ?_⟩)) (by repeat (first | exact trivial | refine ⟨trivial, ?_⟩)) rfl) rfl rfl rfl ?_
      refine qbp ?_
      refine qb2 ?_
      refine DJ_case (k := 79) (show _ = Value.bool _ from rfl) (fun hg22 => ?_) (fun hg22 => ?_)
      ·
       replace hg22 := qb hg22
       refine qal ?_
       refine qat ?_
       refine DJ_q (yv_eql rfl rfl) rfl rfl rfl ?_
       refine qbp ?_
       refine qb2 ?_
       refine DJ_case (k := 84) (show _ = Value.bool _ from rfl) (fun hg27 => ?_) (fun hg27 => ?_)
       ·
        replace hg27 := qb hg27
        refine ycmaa ?_
        refine DJ_q (yv_len tb rfl rfl rfl) rfl rfl rfl ?_
        refine DJ_q (yv_eql rfl rfl) rfl rfl rfl ?_
        refine qbp ?_
        refine qb2 ?_
        refine DJ_case (k := 89) (show _ = Value.bool _ from rfl) (fun hg32 => ?_) (fun hg32 => ?_)
        ·
         replace hg32 := qb hg32
         refine ycmaa ?_
         refine DJ_q (yv_index_ow tb ((⟨po, [⟨false, 0, 0⟩]⟩ : OwL XCut)) _ rfl rfl rfl rfl (by assumption) (i := 0) (by first | rfl | omega | (simp; omega)) (by first | omega | (dsimp only; omega) | (dsimp only; rw [List.length_set]; omega) | (dsimp only; simp only [List.length_set]; omega))) rfl rfl rfl ?_
         refine qce ?_
         refine DJ_q (yv_load1_ow tb ((⟨po, [⟨false, 0, 0⟩]⟩ : OwL XCut)) rfl rfl rfl (by repeat (first | apply OSeg.cons | exact OSeg.here | exact OSeg.last | exact OSeg.at (by assumption) | apply OSeg.app)) (by assumption) (fun _ => rfl) (by assumption) (by rfl)) rfl rfl rfl ?_
         refine DJ_q (yv_not rfl) rfl rfl rfl ?_
         refine qbp ?_
         refine qb2 ?_
         refine DJ_case (k := 96) (show _ = Value.bool _ from rfl) (fun hg39 => ?_) (fun hg39 => ?_)
         ·
          replace hg39 := qb hg39
          refine qal ?_
          refine qat ?_
          refine DJ_q (yv_len tb rfl rfl rfl) rfl rfl rfl ?_
          refine DJ_q (yv_eql rfl rfl) rfl rfl rfl ?_
          refine qbp ?_
          refine qb2 ?_
          refine DJ_case (k := 102) (show _ = Value.bool _ from rfl) (fun hg45 => ?_) (fun hg45 => ?_)
          ·
           replace hg45 := qb hg45
           refine qal ?_
           refine qat ?_
           refine DJ_q (yv_index_ow tb ((⟨qo, [⟨-1, 22, 0, true, false⟩]⟩ : OwL XSwitch)) _ rfl rfl rfl rfl (by assumption) (i := 0) (by first | rfl | omega | (simp; omega)) (by first | omega | (dsimp only; omega) | (dsimp only; rw [List.length_set]; omega) | (dsimp only; simp only [List.length_set]; omega))) rfl rfl rfl ?_
           refine qce ?_
           refine DJ_q (yv_load1_ow tb ((⟨qo, [⟨-1, 22, 0, true, false⟩]⟩ : OwL XSwitch)) rfl rfl rfl (by repeat (first | apply OSeg.cons | exact OSeg.here | exact OSeg.last | exact OSeg.at (by assumption) | apply OSeg.app)) (by assumption) (fun _ => rfl) (by assumption) (by rfl)) rfl rfl rfl ?_
           refine qbp ?_
           refine DJ_q (yv_assign (show _ = Value.bool _ from rfl)) rfl rfl rfl ?_
           refine DJ_nil (seqK_normal (CJ_ret ?_))
           refine retK_ret (L' := L) (R' := R) (res1 rfl (rv_tmp (show _ = Value.bool _ from rfl))) ?hp ?hL ?hR
           case hp => exact ⟨rfl, rfl, rfl⟩
           case hL => exact (by repeat (first | exact zs0 _ | exact zs1 _ | apply zs2 | apply zs3 | apply zs4 | apply zs5))
           case hR => exact fin
          replace hg45 := qb hg45
          simp at hg45
         replace hg39 := qb hg39
         simp at hg39
        replace hg32 := qb hg32
        simp at hg32
       replace hg27 := qb hg27
       exact absurd rfl hg27
      replace hg22 := qb hg22
      exact absurd (show true = false from hg22) (by decide)
     replace hg17 := qb hg17
     simp at hg17
    replace hg13 := qb hg13
    simp at hg13
   replace hg9 := qb hg9
   simp at hg9
  replace hg5 := qb hg5
  simp at hg5
end Go.Proofs.Ytkpfjmibipblhaa
end
section
/-
  Statements about chapter 21: a drawn scene. By an AI agent; no person has read it.
-/
set_option linter.unusedSimpArgs false
set_option linter.unusedVariables false
namespace Go.Proofs.Ytkpfjmibipblhaa
open Go.Aw Go
set_option maxRecDepth 20000
attribute [local irreducible] CJ LJ DJ Tri YV Gives seqK blockK loopK retK RV mergeK OwL.L
section
variable {A9 B9 : Prop}
theorem ycnaa (a : A9) (h : A9 → B9 := by exact LJ_q (yv_index_ow tb ((⟨po, l⟩ : OwL XSpan)) _ rfl rfl ((show _ = Value.slice _ _ _ from rfl).trans (by simp only [OwL.val, hll, hl00])) rfl (by assumption) (i := i) (by first | rfl | omega | (simp; omega)) (by first | omega | (dsimp only; omega) | (dsimp only; rw [List.length_set]; omega) | (dsimp only; simp only [List.length_set]; omega))) rfl) : B9 := h a
theorem ycnab (a : A9) (h : A9 → B9 := by exact LJ_q (yv_index_ow tb ((⟨po, l.set i ⟨y.low + 30000, y.high⟩⟩ : OwL XSpan)) _ rfl rfl ((show _ = Value.slice _ _ _ from rfl).trans (by simp only [OwL.val, hll1, hll, hl00])) rfl (by assumption) (i := i) (by first | rfl | omega | (simp; omega)) (by first | omega | (dsimp only; omega) | (dsimp only; rw [List.length_set]; omega) | (dsimp only; simp only [List.length_set]; omega))) rfl) : B9 := h a
end
def sceneC (s : XSite) (c fl sw zn : Value) (rp : Int) : List Value := [s.air.mine.places.val, s.air.mine.roads.val, s.air.fans.val, s.air.doors.val, s.sensors.val, s.conds.val, s.zones.val, s.persons.val, c, fl, sw, zn, .int .i64 rp]
abbrev sceneV (s : XSite) (c : Arr XCut) (fl : Arr XSpan) (f : XFeeder) : Value := .agg #[s.air.mine.places.val, s.air.mine.roads.val, s.air.fans.val, s.air.doors.val, s.sensors.val, s.conds.val, s.zones.val, s.persons.val, c.val, fl.val, f.switches.val, f.zones.val, .int .i64 f.reply]
structure SceneD (s : XSite) (c : Arr XCut) (fl : Arr XSpan) (f : XFeeder) : Prop where
  site : SiteOk s
  nz : 1 ≤ s.zones.l.length ∧ s.zones.l.length ≤ 3
  pers : s.persons.l = [1, 2, 1, 3]
  cuts : c.l.length = s.zones.l.length
  flen : fl.l.length = s.air.mine.roads.l.length
  flow : ∀ x ∈ fl.l, (-4000000000 ≤ x.low ∧ x.low ≤ x.high) ∧ x.high ≤ 4000000000
  sw : f.switches.l.length ≤ 18
  zn : f.zones.l.length = s.zones.l.length
def FlowR (x : XSpan) : Prop := (-2000000000 ≤ x.low ∧ x.low ≤ x.high) ∧ x.high ≤ 2000000000
def FlowB (x : XSpan) : Prop := (-4000000000 ≤ x.low ∧ x.low ≤ x.high) ∧ x.high ≤ 4000000000
structure FlT (n i : Nat) (l : List XSpan) : Prop where
  len : l.length = n
  don : ∀ (j : Nat) (x : XSpan), j < i → l[j]? = some x → FlowB x
  non : ∀ (j : Nat) (x : XSpan), i ≤ j → l[j]? = some x → FlowR x
theorem FlT.next {n i : Nat} {l : List XSpan} (h : FlT n i l) {y : XSpan} (hy : FlowB y) : FlT n (i + 1) (l.set i y) := by
  refine ⟨by rw [List.length_set]; exact h.len, fun j x hj hx => ?_, fun j x hj hx => ?_⟩
  · rw [List.getElem?_set] at hx
    split at hx
    · split at hx
      · cases hx; exact hy
      · cases hx
    · exact h.don j x (by omega) hx
  · rw [List.getElem?_set_ne (by omega)] at hx
    exact h.non j x (by omega) hx
theorem FlT.stay {n i : Nat} {l : List XSpan} (h : FlT n i l) : FlT n (i + 1) l := by
  refine ⟨h.len, fun j x hj hx => ?_, fun j x hj hx => h.non j x (by omega) hx⟩
  rcases Nat.lt_or_ge j i with h1 | h1
  · exact h.don j x h1 hx
  · have := h.non j x h1 hx
    rw [FlowR] at this; rw [FlowB]; omega
theorem made21_tri (c : Nat) (x : Arr Int) (k : Nat) (R : List Sl) (hx : CodesR x R) (hk : k ≤ x.l.length) :
    Tri Try.prog 28 [.pointer (some ⟨c, 0, none⟩)].toArray [cblk c x k] R
      (fun v L' R' => ∃ (s : XSite) (cu : Arr XCut) (fl : Arr XSpan) (f : XFeeder) (k' : Nat), v = sceneV s cu fl f ∧ SceneD s cu fl f ∧ k' ≤ x.l.length ∧ (RestA s cu fl R' ∧ FeederR f R' ∧ ∀ r ∈ R, InR r R') ∧ cblk c x k' :: [] = L') := by
  refine tri_enter 71 Try.call28 Try.func28 rfl rfl rfl ?_
  refine qae ?_
  refine qaq ?_
  intro b2
  refine qam ?_
  refine qa6 ?_
  refine LJ_call rfl (Tri.spl (.consB (.consL .nil)) (drawSite_tri c x k _ hx hk)) rfl ?_
  rintro v L' R' ⟨_, rfl, s, u, z, k1, rfl, hD, hk1, ⟨hs, hu, hz, hR0⟩, rfl⟩
  simp only [List.append_assoc, List.cons_append, List.nil_append, List.append_nil]
  refine LJ_q (yv_move rfl) rfl ?_
  iterate 3 refine qbs ?_
  refine qaq ?_
  intro b3
  refine qaq ?_
  intro b4
  refine qaq ?_
  intro b5
  iterate 3 refine qak ?_
  refine qa4 ?_
  have hx1 := hx.mono hR0
  have hF := hD.air.flows
  have hfn := hF.flen
  have hn2 := hD.nzone
  have hn3 := hD.air.nroads
  refine CJ_drawn tb [0, 1, 2, 3, 4, 5, 6, 7] ([Blk.mk b5 _ _, Blk.mk b3 _ _]) mixed (by kernel_rfl) (by repeat (first | exact zs0 _ | exact zs1 _ | apply zs2 | apply zs3 | apply zs4 | apply zs5)) ?_
  refine DJ_q (yv_loadN (row := [_, _, _, _, _, _, _, _]) tb rfl rfl rfl (by repeat (first | exact zi0 | apply zi1 | apply zi2)) (by rfl) (by rfl)) rfl rfl rfl ?_
  refine qb8 ?_
  refine qal ?_
  refine qat ?_
  refine DJ_call rfl (Tri.spl (.consB (.consB (.consB (.consB (.consL .nil))))) (drawSpans_tri c x k1 z.flows _ hx1 hk1 hz.flows (fun q hq => by have := hF.flow q hq; omega) (by omega))) rfl rfl ?_
  rintro v L' R' ⟨_, rfl, p, k2, rfl, hpk, hN, hk2, rfl, rfl⟩
  refine qas ?_
  simp only [List.append_assoc, List.cons_append, List.nil_append, List.append_nil]
  refine DJ_q (yv_build (qs := [(0, (Value.agg _).cells.toList), (2, (Value.slice _ _ _).cells.toList)]) (out := [_, _, _, _, _, _, _, _, _, _, _, _, _]) tb rfl rfl rfl rfl) rfl rfl rfl ?_
  refine qbr ?_
  intro b6
  refine qbg ?_
  refine DJ_nil (seqK_normal (CJ_seq (CJ_seq ?_)))
  obtain ⟨po, l0⟩ := p
  refine CJ_weak (L' := ⟨b6, sceneC s (.slice none 0 0) (⟨po, l0⟩ : OwL XSpan).val (.slice none 0 0) (.slice none 0 0) 0, 73⟩ :: ⟨b3, s.cells, 36⟩ :: ⟨b2, [(.slice none 0 0), (.slice none 0 0), (.slice none 0 0), (.slice none 0 0), (.slice none 0 0), (.slice none 0 0), (.slice none 0 0), (.slice none 0 0), (.slice none 0 0), (.slice none 0 0), (.slice none 0 0), (.slice none 0 0), .int .i64 0], 73⟩ :: ((⟨po, l0⟩ : OwL XSpan).L 59 XSpan.cells ++ (cblk c x k2 :: []))) (R' := R') (.cons_cons _ (.cons _ (.cons _ (List.Sublist.refl _)))) (allR_self _) ?_
  have hl0 : FlT z.flows.l.length 0 l0 := ⟨hN.len, fun j y hj _ => by omega, fun j y _ hy => by
    have h1 := hN.at_ j y hy
    have h2 : j < z.flows.l.length := by rw [← hN.len]; exact (List.getElem?_eq_some_iff.1 hy).1
    have h3 := hF.flow _ (List.mem_of_getElem? (get_D (l := z.flows.l) (k := j) 0 h2))
    rw [FlowR]; omega⟩
  refine qay ?_
  refine qab ?_
  refine qac ?_
  refine qag ?_
  refine qaa ?_
  refine qa2 ?_
  refine CJ_forget [(0, Value.pointer _), (2, Value.pointer _), (3, Value.pointer _), (6, Value.pointer _), (22, Value.int _ _), (23, Value.int _ _)] (by repeat' (first | exact trivial | refine And.intro rfl ?_)) fun tq0 => ?_
  refine CJ_loop [23, 24, 25, 26, 27, 28, 29, 30, 31, 32, 33, 34, 35, 36] ((⟨fun g => [(23, .int .i64 ((g.1.1 : Nat) : Int))], fun g => ⟨b6, sceneC s g.1.2.1.val (⟨po, l0⟩ : OwL XSpan).val (.slice none 0 0) (.slice none 0 0) 0, 73⟩ :: (g.1.2.1.L 93 XCut.cells ++ (⟨b3, s.cells, 36⟩ :: ⟨b2, [(.slice none 0 0), (.slice none 0 0), (.slice none 0 0), (.slice none 0 0), (.slice none 0 0), (.slice none 0 0), (.slice none 0 0), (.slice none 0 0), (.slice none 0 0), (.slice none 0 0), (.slice none 0 0), (.slice none 0 0), .int .i64 0], 73⟩ :: ((⟨po, l0⟩ : OwL XSpan).L 59 XSpan.cells ++ (cblk c x g.1.2.2 :: [])))), fun _ => R', fun g => s.zones.l.length - g.1.1⟩ : Head {g : Nat × OwL XCut × Nat // (g.1 ≤ s.zones.l.length ∧ g.2.1.l.length = g.1) ∧ g.2.1.ok 3 XCut.cells ∧ g.2.2 ≤ x.l.length})) (⟨(0, OwL.nil, k2), ⟨by dsimp only; omega, rfl⟩, OwL.nil_ok, hk2⟩) (by repeat' (first | exact trivial | refine And.intro rfl ?_)) (by dsimp only; rw [nil_L, List.nil_append]; exact List.Sublist.refl _) (allR_self _) ?_
  rintro ⟨⟨j, q, k3⟩, ⟨hj, hqn⟩, hqk, hk3⟩ junk
  try dsimp only
  dsimp only at hj hqn hqk hk3
  refine qae ?_
  refine qaj ?_
  refine qa4 ?_
  refine q_c (fun hc0 => ?_) (fun hc0 => ?_)
  ·
   refine CJ_skip (seqK_normal (CJ_seq (CJ_block ?_)))
   refine CJ_drawn2 tb [] [0, 1, 2, 5, 3, 4, 6, 7, 8] [9, 10, 11] ([Blk.mk b6 _ _]) _ mixed (by kernel_rfl) (by repeat (first | exact zs0 _ | exact zs1 _ | apply zs2 | apply zs3 | apply zs4 | apply zs5)) (List.nil_sublist _) ?_
   refine qan ?_
   refine qau ?_
   refine qb3 ?_
   refine qb3 ?_
   refine DJ3_call rfl (next1 (by repeat (first | apply USeg.here | apply USeg.cons | apply USeg.app)) hx1 hk3 (by omega)) rfl rfl ?_
   rintro v L' R' ⟨r1, k4, rfl, f1, f1', f1'', hk4, rfl, rfl⟩
   refine qas ?_
   refine DJ3_q (yv_gtr rfl rfl) rfl rfl rfl rfl ?_
   refine DJ3_call rfl (range1 (by repeat (first | apply USeg.here | apply USeg.cons | apply USeg.app)) hx1 hk4 (by omega)) rfl rfl ?_
   rintro v L' R' ⟨r2, k5, rfl, g2, g2', hk5, rfl, rfl⟩
   refine qas ?_
   refine DJ3_q (yv_build (qs := [(0, (Value.bool _).cells.toList), (1, (Value.int _ _).cells.toList)]) (out := [_, _, _]) tb rfl rfl rfl rfl) rfl rfl rfl rfl ?_
   refine DJ3_g (gives_buildSlice (qs := [(0, (Value.agg _).cells.toList)]) (out := [_, _, _]) tb rfl rfl rfl rfl rfl rfl rfl) rfl rfl rfl ?_
   rintro v L' R' ⟨b33, rfl, rfl, hR33⟩
   replace hR33 := hR33.symm; subst hR33
   refine qa1 ?_
   refine qba ?_
   refine DJ_g (gives_append1 (f := XCut.cells) (p := q) (a := ⟨decide (0 < r1), r2, 0⟩) tb rfl rfl rfl rfl (hqk) (by repeat (first | apply OSeg.cons | exact OSeg.here | exact OSeg.last | exact OSeg.at (by assumption) | apply OSeg.app)) (shown_own (by repeat (first | exact zi0 | apply zi1 | apply zi2)) rfl rfl) rfl (by first | omega | (simp only [List.length_cons, List.length_nil, List.length_append]; omega))) rfl rfl rfl ?_
   rintro v L' R' ⟨o34, rfl, hok34, rfl, rfl⟩
   refine qa1 ?_
   refine qal ?_
   refine qbw ?_
   refine qby ?_
   refine qar ?_
   refine qaa ?_
   refine qav ?_
   exact q_k ⟨(j + 1, (⟨o34, q.l ++ [⟨decide (0 < r1), r2, 0⟩]⟩ : OwL XCut), k5), ⟨by dsimp only; omega, by dsimp only; rw [List.length_append, List.length_singleton]; omega⟩, hok34, hk5⟩
  obtain rfl : j = s.zones.l.length := by omega
  refine qcf ?_
  refine qab ?_
  refine qac ?_
  refine qag ?_
  refine qaa ?_
  refine qa2 ?_
  refine CJ_forget [(0, Value.pointer _), (2, Value.pointer _), (3, Value.pointer _), (6, Value.pointer _), (39, Value.int _ _), (40, Value.int _ _)] (by repeat' (first | exact trivial | refine And.intro rfl ?_)) fun tq1 => ?_
  refine q_p [7, 40, 41, 42, 43, 44, 45, 46, 47, 48, 49, 50, 51, 52, 53, 54, 55, 56, 57, 58, 59, 60, 61, 62, 63] ((⟨fun g => [(40, .int .i64 ((g.1.1 : Nat) : Int))], fun g => ⟨b6, sceneC s q.val (⟨po, l0⟩ : OwL XSpan).val (.slice none 0 0) (.slice none 0 0) 0, 73⟩ :: (q.L 93 XCut.cells ++ (⟨b3, s.cells, 36⟩ :: ⟨b2, [(.slice none 0 0), (.slice none 0 0), (.slice none 0 0), (.slice none 0 0), (.slice none 0 0), (.slice none 0 0), (.slice none 0 0), (.slice none 0 0), (.slice none 0 0), (.slice none 0 0), (.slice none 0 0), (.slice none 0 0), .int .i64 0], 73⟩ :: ((⟨po, g.1.2.1⟩ : OwL XSpan).L 59 XSpan.cells ++ (cblk c x g.1.2.2 :: [])))), fun _ => R', fun g => z.flows.l.length - g.1.1⟩ : Head {g : Nat × List XSpan × Nat // g.1 ≤ z.flows.l.length ∧ FlT z.flows.l.length g.1 g.2.1 ∧ g.2.2 ≤ x.l.length})) (⟨(0, l0, k3), by dsimp only; omega, hl0, hk3⟩) ?_
  rintro ⟨⟨i, l, k6⟩, hi, hl, hk6⟩ junk
  try dsimp only
  dsimp only at hi hl hk6
  have hll := hl.len
  have hl00 := hl0.len
  have hlk : (⟨po, l⟩ : OwL XSpan).ok 2 XSpan.cells := OwL.len_ok (fun _ => rfl) hpk (by rw [hll, hl00])
  refine qae ?_
  refine qaj ?_
  refine qa4 ?_
  refine q_c (fun hc1 => ?_) (fun hc1 => ?_)
  ·
   have hlg := get_D (l := l) (k := i) default (by omega)
   obtain ⟨y, hy⟩ : ∃ y, y = l.getD i default := ⟨_, rfl⟩
   rw [← hy] at hlg
   have hyb := hl.non i y (Nat.le_refl _) hlg
   rw [FlowR] at hyb
   refine qbb ?_
   refine qaa ?_
   refine qad ?_
   refine qam ?_
   refine qa6 ?_
   refine LJ_call rfl (one1 (by repeat (first | apply USeg.here | apply USeg.cons | apply USeg.app)) hx1 hk6 (by omega)) rfl ?_
   rintro v L' R' ⟨bo, k7, rfl, hk7, rfl, rfl⟩
   refine qaf ?_
   refine q_c (fun hc2 => ?_) (fun hc2 => ?_)
   ·
    refine qae ?_
    refine qab ?_
    refine qac ?_
    refine qaa ?_
    refine ycnaa ?_
    refine qb0 ?_
    refine LJ_q (yv_load1_ow tb ((⟨po, l⟩ : OwL XSpan)) rfl rfl rfl (by repeat (first | apply OSeg.cons | exact OSeg.here | exact OSeg.last | exact OSeg.at (by assumption) | apply OSeg.app)) (by assumption) (fun _ => rfl) (by assumption) (by rfl)) rfl ?_
    refine qar ?_
    refine ycnaa ?_
    refine qb0 ?_
    refine LJ_g0 (gives_store1_ow tb ((⟨po, l⟩ : OwL XSpan)) (⟨y.low + 30000, y.high⟩) rfl rfl rfl rfl (by repeat (first | apply OSeg.cons | exact OSeg.here | exact OSeg.last | exact OSeg.at (by assumption) | apply OSeg.app)) (by assumption) (fun _ => rfl) (by assumption) (by decide) (by rfl) (by rfl)) ?_
    rintro v L' R' ⟨rfl, rfl⟩
    refine qaf ?_
    have hlk1 : (⟨po, l.set i ⟨y.low + 30000, y.high⟩⟩ : OwL XSpan).ok 2 XSpan.cells := OwL.set_ok (f := XSpan.cells) (wd := 2) (p := (⟨po, l⟩ : OwL XSpan)) (i := i) (x := ⟨y.low + 30000, y.high⟩) (fun _ => rfl) hlk
    have hlg1 : (l.set i ⟨y.low + 30000, y.high⟩)[i]? = some ⟨y.low + 30000, y.high⟩ := List.getElem?_set_self (by omega)
    have hll1 : (l.set i ⟨y.low + 30000, y.high⟩).length = l.length := List.length_set
    refine qay ?_
    refine qab ?_
    refine qac ?_
    refine qaa ?_
    refine ycnab ?_
    refine qb0 ?_
    refine LJ_q (yv_load1_ow tb ((⟨po, l.set i ⟨y.low + 30000, y.high⟩⟩ : OwL XSpan)) rfl rfl rfl (by repeat (first | apply OSeg.cons | exact OSeg.here | exact OSeg.last | exact OSeg.at (by assumption) | apply OSeg.app)) (by assumption) (fun _ => rfl) (by assumption) (by rfl)) rfl ?_
    refine LJ_q (yv_add64 rfl rfl (by dsimp only; omega) (by dsimp only; omega)) rfl ?_
    refine ycnab ?_
    refine qb0 ?_
    refine LJ_g0 (gives_store1_ow tb ((⟨po, l.set i ⟨y.low + 30000, y.high⟩⟩ : OwL XSpan)) (⟨y.low + 30000, y.high + 90000⟩) rfl rfl rfl rfl (by repeat (first | apply OSeg.cons | exact OSeg.here | exact OSeg.last | exact OSeg.at (by assumption) | apply OSeg.app)) (by assumption) (fun _ => rfl) (by assumption) (by decide) (by rfl) (by rfl)) ?_
    rintro v L' R' ⟨rfl, rfl⟩
    refine qcs ?_
    refine qar ?_
    refine qaa ?_
    refine qav ?_
    exact q_k ⟨(i + 1, (l.set i ⟨y.low + 30000, y.high⟩).set i ⟨y.low + 30000, y.high + 90000⟩, k7), by dsimp only; omega, by dsimp only; rw [List.set_set]; exact hl.next (by rw [FlowB]; dsimp only; omega), hk7⟩
   refine qbj ?_
   refine qar ?_
   refine qaa ?_
   refine qav ?_
   exact q_k ⟨(i + 1, l, k7), by dsimp only; omega, hl.stay, hk7⟩
  obtain rfl : i = z.flows.l.length := by omega
  refine qbk ?_
  refine qa6 ?_
  refine qab ?_
  refine qac ?_
  refine qag ?_
  refine LJ_call rfl (Tri.spl (.consB (.appB (.consB (.consB (.appB (.consL .nil)))))) (drawFeeder_tri c x k6 s.zones.l.length _ hx1 hk6 (by omega))) rfl ?_
  rintro v L' R' ⟨_, rfl, fw, fz, rp, k8, rfl, ⟨hwk, hzk⟩, hwn, hzn, hk8, rfl, rfl⟩
  simp only [List.append_assoc, List.cons_append, List.nil_append, List.append_nil]
  refine qab ?_
  refine LJ_storeN tb rfl rfl rfl rfl (by repeat (first | apply zu0 | apply zu1 | apply zu2)) (by rfl) (by rfl) (by rfl) ?_
  refine qa4 ?_
  obtain ⟨f, hfe⟩ : ∃ f : XFeeder, f = ⟨fw.arr, fz.arr, rp⟩ := ⟨_, rfl⟩
  refine CJ_frz1 (A := [_]) (p := q) (wd := 3) [] (fun _ => rfl) (by decide) hqk (fun s hs => by cases hs) ?_
  refine CJ_frz1 (A := [_, _, _]) (p := (⟨po, l⟩ : OwL XSpan)) (wd := 2) [] (fun _ => rfl) (by decide) hlk (fun s hs => by cases hs) ?_
  refine CJ_frz1 (A := [_, _, _]) (p := fz) (wd := 1) [] (fun _ => rfl) (by decide) hzk (fun s hs => by cases hs) ?_
  refine CJ_frz1 (A := [_, _, _]) (p := fw) (wd := 5) [] (fun _ => rfl) (by decide) hwk (fun s hs => by cases hs) ?_
  refine qb1 ?_
  obtain ⟨R2, hR2e⟩ : ∃ R2, R2 = swsl fw.arr :: isl fz.arr :: spsl (⟨po, l⟩ : OwL XSpan).arr :: cusl q.arr :: R' := ⟨_, rfl⟩
  have hR2 : ∀ r ∈ R', InR r R2 := fun r hr => inR_self (by rw [hR2e]; exact .tail _ (.tail _ (.tail _ (.tail _ hr))))
  have h1 : InR (swsl fw.arr) R2 := inR_self (by rw [hR2e]; exact .head _)
  have h2 : InR (isl fz.arr) R2 := inR_self (by rw [hR2e]; exact .tail _ (.head _))
  have h3 : InR (spsl (⟨po, l⟩ : OwL XSpan).arr) R2 := inR_self (by rw [hR2e]; exact .tail _ (.tail _ (.head _)))
  have h4 : InR (cusl q.arr) R2 := inR_self (by rw [hR2e]; exact .tail _ (.tail _ (.tail _ (.head _))))
  refine CJ_R (show _ = R2 by rw [hR2e]) ?_
  refine qay ?_
  refine LJ_q (yv_loadN (row := [_, _, _, _, _, _, _, _, _, _, _, _, _]) tb rfl rfl rfl (by repeat (first | exact zi0 | apply zi1 | apply zi2)) (by rfl) (by rfl)) rfl ?_
  refine qak ?_
  refine qa0 ?_
  refine q_r (L' := cblk c x k8 :: []) (R' := R2) (res1 rfl (rv_cell (row := [_, _, _, _, _, _, _, _, _, _, _, _, _]) tb rfl rfl rfl (by repeat (first | exact zi0 | apply zi1 | apply zi2)) (by rfl) (by rfl))) ?_
  refine ⟨s, q.arr, (⟨po, l⟩ : OwL XSpan).arr, f, k8, ?_, ⟨hD.ok, hn2, hD.pers, hqn, ?_, fun y hy => ?_, ?_, ?_⟩, hk8, ⟨⟨hs.mono hR2, h4, h3⟩, ?_, fun r hr => (hR0 r hr).mono hR2⟩, rfl⟩
  · have hv : (⟨po, l0⟩ : OwL XSpan).val = (⟨po, l⟩ : OwL XSpan).val := by simp only [OwL.val, hll, hl00]
    have hg : (Value.agg (sceneC s q.val (⟨po, l0⟩ : OwL XSpan).val fw.val fz.val rp).toArray) = sceneV s q.arr (⟨po, l⟩ : OwL XSpan).arr f := by rw [hv, hfe]; rfl
    exact hg
  · show l.length = _
    rw [hll, hfn]
  · obtain ⟨j, hj, rfl⟩ := List.getElem_of_mem hy
    have := hl.don j _ (by rw [← hll]; exact hj) (List.getElem?_eq_getElem hj)
    rw [FlowB] at this
    exact this
  · rw [hfe]; exact hwn
  · rw [hfe]; exact hzn
  · rw [hfe]; exact ⟨h1, h2⟩
end Go.Proofs.Ytkpfjmibipblhaa
end
