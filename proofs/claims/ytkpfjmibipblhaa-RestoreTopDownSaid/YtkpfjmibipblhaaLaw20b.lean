import Derived.Test.YtkpfjmibipblhaaDrawS
import Derived.Test.YtkpfjmibipblhaaRestR
import Derived.Test.YtkpfjmibipblhaaFeedD
import Derived.Test.YtkpfjmibipblhaaNarrow
import Derived.Test.YtkpfjmibipblhaaRule
section
/-
  Statements about chapter 21: the sanity check, and a drawn scene. By an AI agent; no person has read it.
-/
set_option linter.unusedSimpArgs false
set_option linter.unusedVariables false
namespace Go.Proofs.Ytkpfjmibipblhaa
open Go.Aw Go
set_option maxRecDepth 20000
attribute [local irreducible] CJ LJ DJ Tri YV Gives seqK blockK loopK retK RV mergeK OwL.L
section
variable {A9 B9 : Prop}
theorem ycmaa (a : A9) (h : A9 → B9 := by exact DJ_q (yv_move (show _ = Value.slice _ _ _ from rfl)) rfl rfl rfl) : B9 := h a
theorem ycmab (a : A9) (h : A9 → B9 := by exact DJ_q (yv_loadN (row := [_, _, _, _, _, _, _, _]) tb rfl rfl rfl (by repeat (first | exact zi0 | apply zi1 | apply zi2)) (by rfl) (by rfl)) rfl rfl rfl) : B9 := h a
theorem ycmac (a : A9) (h : A9 → B9 := by exact LJ_q (yv_loadN (row := [_, _, _, _, _, _, _, _]) tb rfl rfl rfl (by repeat (first | exact zi0 | apply zi1 | apply zi2)) (by rfl) (by rfl)) rfl) : B9 := h a
theorem ycmad (a : A9) (h : A9 → B9 := by exact LJ_q (yv_loadN (row := [_, _, _, _, _]) tb rfl rfl rfl (by repeat (first | exact zi0 | apply zi1 | apply zi2)) (by rfl) (by rfl)) rfl) : B9 := h a
end
theorem awake21_tri (L : List Blk) (R : List Sl) : Tri Try.prog 27 ([] : List Value).toArray L R (fun v L' R' => v = .bool true ∧ L = L' ∧ R = R') := by
  refine tri_enter 109 Try.call27 Try.func27 rfl rfl rfl ?_
  refine qae ?_
  refine qaz ?_
  refine qa4 ?_
  refine CJ_nil 1 ?_
  refine qay ?_
  refine LJ_call rfl (new_tri ⟨none, 0, []⟩ _ _ ⟨inR_self (.head _), fun i q hq => by simp at hq⟩) rfl ?_
  rintro v L' R' ⟨c, rfl, hx, rfl, rfl⟩
  refine LJ_call rfl (Tri.spl (.consL .rest) (drawEasy_tri c _ 0 _ hx (Nat.zero_le _))) rfl ?_
  rintro v L' R' ⟨_, rfl, s, len, dl, ho, sw, zn, n, k1, rfl, hE, ⟨hsk, hzk⟩, hn, hsl, hzl, ⟨hk1, he0⟩, ⟨hs, hR0⟩, rfl⟩
  refine LJ_q (yv_move rfl) rfl ?_
  refine qbs ?_
  refine qbs ?_
  refine qaq ?_
  intro b1
  refine qaq ?_
  intro b2
  refine qak ?_
  refine qak ?_
  refine qa4 ?_
  obtain ⟨rfl, rfl, rfl, rfl, _⟩ := he0 (Nat.zero_le _)
  obtain ⟨so, sl⟩ := sw
  obtain ⟨zo, zl⟩ := zn
  obtain rfl : sl = [⟨-1, 0, 0, true, false⟩] := hsl
  obtain rfl : zl = [0] := hzl
  have hRR : ∀ r ∈ R, InR r R' := fun r hr => hR0 r (.tail _ (.tail _ hr))
  have hsg : ([⟨-1, 0, 0, true, false⟩] : List XSwitch)[0]? = some ⟨-1, 0, 0, true, false⟩ := rfl
  have hl0 : ([⟨-1, 0, 0, true, false⟩] : List XSwitch).length = 1 := rfl
  have hl1 : ([⟨-1, 0, 0, false, false⟩] : List XSwitch).length = 1 := rfl
  have hsg1 : ([⟨-1, 0, 0, false, false⟩] : List XSwitch)[0]? = some ⟨-1, 0, 0, false, false⟩ := rfl
  have hsk1 : (⟨so, [⟨-1, 0, 0, false, false⟩]⟩ : OwL XSwitch).ok 5 XSwitch.cells := OwL.set_ok (f := XSwitch.cells) (wd := 5) (i := 0) (x := ⟨-1, 0, 0, false, false⟩) (fun _ => rfl) hsk
  have hsk2 : (⟨so, [⟨-1, 0, -1, false, false⟩]⟩ : OwL XSwitch).ok 5 XSwitch.cells := OwL.set_ok (f := XSwitch.cells) (wd := 5) (i := 0) (x := ⟨-1, 0, -1, false, false⟩) (fun _ => rfl) hsk1
  refine CJ_drawn2 tb [20, 21] [0, 1, 2, 3, 4, 5] [6, 7, 8, 9] ([Blk.mk b2 _ _]) _ mixed (by kernel_rfl) (by repeat (first | exact zs0 _ | exact zs1 _ | apply zs2 | apply zs3 | apply zs4 | apply zs5)) (by (repeat (first | apply List.Sublist.cons (a := Blk.mk b19 _ _) | apply List.Sublist.cons (a := Blk.mk b21 _ _) | apply List.Sublist.cons_cons)); exact List.Sublist.refl _) ?_
  refine qan ?_
  refine qau ?_
  refine qcp ?_
  refine qcu ?_
  refine DJ3_q (yv_index_ow tb ((⟨so, [⟨-1, 0, 0, true, false⟩]⟩ : OwL XSwitch)) _ rfl rfl rfl rfl (by assumption) (i := 0) (by first | rfl | omega | (simp; omega)) (by first | omega | (dsimp only; omega) | (dsimp only; rw [List.length_set]; omega) | (dsimp only; simp only [List.length_set]; omega))) rfl rfl rfl rfl ?_
  refine qcv ?_
  refine qba ?_
  refine DJ_g0 (gives_store1_ow tb ((⟨so, [⟨-1, 0, 0, true, false⟩]⟩ : OwL XSwitch)) (⟨-1, 0, 0, false, false⟩) rfl rfl rfl rfl (by repeat (first | apply OSeg.cons | exact OSeg.here | exact OSeg.last | exact OSeg.at (by assumption) | apply OSeg.app)) (by assumption) (fun _ => rfl) (by assumption) (by decide) (by rfl) (by rfl)) rfl rfl ?_
  rintro v L' R' ⟨rfl, rfl⟩
  refine qa1 ?_
  refine DJ_q (yv_index_ow tb ((⟨so, [⟨-1, 0, 0, false, false⟩]⟩ : OwL XSwitch)) _ rfl rfl rfl rfl (by assumption) (i := 0) (by first | rfl | omega | (simp; omega)) (by first | omega | (dsimp only; omega) | (dsimp only; rw [List.length_set]; omega) | (dsimp only; simp only [List.length_set]; omega))) rfl rfl rfl ?_
  refine qce ?_
  refine DJ_g0 (gives_store1_ow tb ((⟨so, [⟨-1, 0, 0, false, false⟩]⟩ : OwL XSwitch)) (⟨-1, 0, -1, false, false⟩) rfl rfl rfl rfl (by repeat (first | apply OSeg.cons | exact OSeg.here | exact OSeg.last | exact OSeg.at (by assumption) | apply OSeg.app)) (by assumption) (fun _ => rfl) (by assumption) (by decide) (by rfl) (by rfl)) rfl rfl ?_
  rintro v L' R' ⟨rfl, rfl⟩
  refine qa1 ?_
  refine qb9 ?_
  refine CJ_frz1 (A := ⟨b2, [(⟨so, [⟨-1, 0, -1, false, false⟩]⟩ : OwL XSwitch).val, (⟨zo, [0]⟩ : OwL Int).val, .int .i64 3], 71⟩ :: ⟨b1, s.cells, 36⟩ :: L) (p := (⟨so, [⟨-1, 0, -1, false, false⟩]⟩ : OwL XSwitch)) (wd := 5) [] (fun _ => rfl) (by decide) hsk2 (fun s hs => by cases hs) ?_
  refine CJ_frz1 (A := ⟨b2, [(⟨so, [⟨-1, 0, -1, false, false⟩]⟩ : OwL XSwitch).val, (⟨zo, [0]⟩ : OwL Int).val, .int .i64 3], 71⟩ :: ⟨b1, s.cells, 36⟩ :: L) (p := (⟨zo, [0]⟩ : OwL Int)) (wd := 1) [] (fun _ => rfl) (by decide) hzk (fun s hs => by cases hs) ?_
  refine CJ_weak (L' := ⟨b2, [(⟨so, [⟨-1, 0, -1, false, false⟩]⟩ : OwL XSwitch).val, (⟨zo, [0]⟩ : OwL Int).val, .int .i64 3], 71⟩ :: ⟨b1, s.cells, 36⟩ :: L) (List.sublist_append_left _ _) (allR_self _) ?_
  obtain ⟨f, hfe⟩ : ∃ f : XFeeder, f = ⟨(⟨so, [⟨-1, 0, -1, false, false⟩]⟩ : OwL XSwitch).arr, (⟨zo, [0]⟩ : OwL Int).arr, 3⟩ := ⟨_, rfl⟩
  obtain ⟨R2, hR2e⟩ : ∃ R2, R2 = isl f.zones :: swsl f.switches :: R' := ⟨_, rfl⟩
  have hR2 : ∀ r ∈ R', InR r R2 := fun r hr => inR_self (by rw [hR2e]; exact .tail _ (.tail _ hr))
  have hf2 : FeederR f R2 := ⟨inR_self (by rw [hR2e]; exact .tail _ (.head _)), inR_self (by rw [hR2e]; exact .head _)⟩
  have hs2 := hs.mono hR2
  have hfs : f.switches.l = [⟨-1, 0, -1, false, false⟩] := by rw [hfe]
  have hfz : f.zones.l = [0] := by rw [hfe]
  have hfr : f.reply = 3 := by rw [hfe]
  refine CJ_R (show _ = R2 by rw [hR2e, hfe]) ?_
  refine CJ_L (show _ = ⟨b2, f.cells, 71⟩ :: ⟨b1, s.cells, 36⟩ :: L by rw [hfe]; rfl) ?_
  refine qay ?_
  refine LJ_q (yv_build (qs := [(0, (Value.bool _).cells.toList)]) (out := [_, _, _]) tb rfl rfl rfl rfl) rfl ?_
  refine LJ_g (gives_buildSlice (qs := [(0, (Value.agg _).cells.toList)]) (out := [_, _, _]) tb rfl rfl rfl rfl rfl rfl rfl) rfl ?_
  rintro v L' R' ⟨b27, rfl, rfl, hR27⟩
  replace hR27 := hR27.symm; subst hR27
  refine LJ_frz (wd := 3) (len := 1) (cap := 1) (rows := [XCut.cells ⟨true, 0, 0⟩]) (subs := []) rfl (by decide) (by decide) (fun r hr => by rw [List.mem_singleton.1 hr]; rfl) (by decide) rfl (fun s hs => by cases hs) ?_
  refine qcd ?_
  refine LJ_g (gives_buildSlice (qs := [(0, (Value.agg _).cells.toList)]) (out := [_, _]) tb rfl rfl rfl rfl rfl rfl rfl) rfl ?_
  rintro v L' R' ⟨b29, rfl, rfl, hR29⟩
  replace hR29 := hR29.symm; subst hR29
  refine LJ_frz (wd := 2) (len := 1) (cap := 1) (rows := [XSpan.cells ⟨300, 300⟩]) (subs := []) rfl (by decide) (by decide) (fun r hr => by rw [List.mem_singleton.1 hr]; rfl) (by decide) rfl (fun s hs => by cases hs) ?_
  refine qc4 ?_
  refine qc4 ?_
  refine qa4 ?_
  obtain ⟨R3, hR3e⟩ : ∃ R3, R3 = spsl (⟨some ⟨b29, 0, none⟩, 1, [⟨300, 300⟩]⟩ : Arr XSpan) :: cusl (⟨some ⟨b27, 0, none⟩, 1, [⟨true, 0, 0⟩]⟩ : Arr XCut) :: R2 := ⟨_, rfl⟩
  have hR3 : ∀ r ∈ R2, InR r R3 := fun r hr => inR_self (by rw [hR3e]; exact .tail _ (.tail _ hr))
  have hA : RestA s (⟨some ⟨b27, 0, none⟩, 1, [⟨true, 0, 0⟩]⟩ : Arr XCut) (⟨some ⟨b29, 0, none⟩, 1, [⟨300, 300⟩]⟩ : Arr XSpan) R3 := ⟨hs2.mono hR3, inR_self (by rw [hR3e]; exact .tail _ (.head _)), inR_self (by rw [hR3e]; exact .head _)⟩
  have hf3 := hf2.mono hR3
  have hrd := fun t => easy_ready hE (cl := 0) (rs := 0) (t := t) (x := ⟨300, 300⟩) (by omega)
  have hrd20 : readyE s [⟨true, 0, 0⟩] [⟨300, 300⟩] 0 20 = 0 := (hrd 20).trans (by decide)
  have hrd21 : readyE s [⟨true, 0, 0⟩] [⟨300, 300⟩] 0 21 = 0 := (hrd 21).trans (by decide)
  have hrd22 : readyE s [⟨true, 0, 0⟩] [⟨300, 300⟩] 0 22 = 0 := (hrd 22).trans (by decide)
  have hrd4 : readyF s [⟨true, 0, 0⟩] [⟨300, 300⟩] 0 4 = 20 := by
    rw [readyF]
    show (if sharedE s 1 1 4 ≠ 0 then sharedE s 1 1 4 else _) = _
    rw [easy_shared hE (by omega), if_neg (by decide)]
    exact (hrd 4).trans (by decide)
  have hask : askE s [⟨true, 0, 0⟩] [⟨300, 300⟩] noRest 0 0 20 = 0 := by rw [easy_ask hE rfl rfl (by omega), hrd20]
  have haskr : askR s [⟨true, 0, 0⟩] [⟨300, 300⟩] noRest 0 0 20 = ⟨0, 0, -1, 1, 20⟩ := by rw [askR, if_pos hask]
  have hcon : confirmE s [⟨true, 0, 0⟩] [⟨300, 300⟩] ⟨0, 0, -1, 1, 20⟩ 1 21 = 0 := by rw [easy_confirm hE rfl rfl (by omega), if_neg (by omega), hrd21]
  have hconr : confirmR s [⟨true, 0, 0⟩] [⟨300, 300⟩] ⟨0, 0, -1, 1, 20⟩ 1 21 = ⟨0, 0, 1, 2, 21⟩ := by rw [confirmR, if_pos hcon]
  have hfe0 : feedE f.switches.l f.zones.l f.reply = 0 := by rw [hfs, hfz, hfr]; decide
  have hcan := easy_can hE (c := [⟨true, 0, 0⟩]) (fl := [⟨300, 300⟩]) (t0 := 21) (t := 22) (f := f) rfl rfl (by omega) (by omega) hrd22 hfe0 (by rw [hfz]; rfl)
  have hat : atR f 0 = 0 := by rw [atR, hfs, hfz, hfr]; decide
  have hcl : rcloseE s [⟨true, 0, 0⟩] [⟨300, 300⟩] ⟨0, 0, 1, 2, 21⟩ f 22 = 0 := by
    rw [rcloseE, hcan, if_neg (by decide)]
    show closeE _ _ _ (atR f 0) 22 = 0
    rw [hat, hfs, hfz, hfr]; decide
  refine CJ_R (show _ = R3 by rw [hR3e]; rfl) ?_
  refine CJ_drawn tb [0, 1, 2, 3, 4, 5, 6, 7, 8, 9, 10] ([Blk.mk b1 _ _]) mixed (by kernel_rfl) (by repeat (first | exact zs0 _ | exact zs1 _ | apply zs2 | apply zs3 | apply zs4 | apply zs5)) ?_
  refine ycmab ?_
  refine ycmaa ?_
  refine ycmaa ?_
  refine q_d rfl (None_tri _ _) ?_
  refine q_d rfl (Ask_tri s (⟨some ⟨b27, 0, none⟩, 1, [⟨true, 0, 0⟩]⟩ : Arr XCut) (⟨some ⟨b29, 0, none⟩, 1, [⟨300, 300⟩]⟩ : Arr XSpan) noRest 0 0 20 _ _ hA) ?_
  dsimp only
  rw [hask, haskr]
  refine DJ_q (yv_move rfl) rfl rfl rfl ?_
  refine DJ_q (yv_extract rfl rfl) rfl rfl rfl ?_
  refine DJ_q (yv_extract rfl rfl) rfl rfl rfl ?_
  refine qbr ?_
  intro b5
  refine qbg ?_
  refine qcg ?_
  refine DJ_nil (seqK_normal (CJ_seq (CJ_region ?_)))
  refine ycmac ?_
  refine qbm ?_
  refine qbm ?_
  refine ycmad ?_
  refine q_l rfl (Confirm_tri s (⟨some ⟨b27, 0, none⟩, 1, [⟨true, 0, 0⟩]⟩ : Arr XCut) (⟨some ⟨b29, 0, none⟩, 1, [⟨300, 300⟩]⟩ : Arr XSpan) ⟨0, 0, -1, 1, 20⟩ 1 21 _ _ hA) ?_
  dsimp only
  rw [hcon, hconr]
  refine LJ_q (yv_move rfl) rfl ?_
  refine qbs ?_
  refine qbs ?_
  refine qaq ?_
  intro b7
  refine qak ?_
  refine qad ?_
  refine qam ?_
  refine ycmac ?_
  refine qbm ?_
  refine qbm ?_
  refine ycmad ?_
  refine LJ_q (yv_loadN (row := [_, _, _]) tb rfl rfl rfl (by repeat (first | exact zi0 | apply zi1 | apply zi2)) (by rfl) (by rfl)) rfl ?_
  refine LJ_call rfl (Close_tri s (⟨some ⟨b27, 0, none⟩, 1, [⟨true, 0, 0⟩]⟩ : Arr XCut) (⟨some ⟨b29, 0, none⟩, 1, [⟨300, 300⟩]⟩ : Arr XSpan) ⟨0, 0, 1, 2, 21⟩ f 22 _ _ hA hf3 (by rw [hfs, hfz]; simp)) rfl ?_
  rintro v L' R' ⟨q, pc, psw, pz, rp, rfl, ⟨k1, k2, k3⟩, hC, rfl, hR4⟩
  have hown : ownR f ⟨0, 0, 1, 2, 21⟩ := by show atR f 0 = f.zones.l.getD 0 0; rw [hat, hfz]; rfl
  obtain rfl : q = noRest := hC.rest.trans (by rw [rcloseR]; dsimp only; rw [hcl, if_neg (by decide), if_pos hown])
  obtain ⟨po, pl⟩ := pc
  obtain ⟨qo, ql⟩ := psw
  obtain rfl : pl = [⟨false, 0, 0⟩] := hC.cuts.trans (by rw [rcloseC]; dsimp only; rw [hcl, if_neg (by decide), if_pos hown]; rfl)
  obtain rfl : ql = [⟨-1, 22, 0, true, false⟩] := hC.sw.trans (by rw [rcloseSw]; dsimp only; rw [hcl, if_neg (by decide)]; show closeSw f.switches.l (atR f 0) 22 = _; rw [hat, hfs]; rfl)
  dsimp only
  rw [hcl]
  refine LJ_q (yv_move rfl) rfl ?_
  iterate 4 refine qbs ?_
  refine qaq ?_
  intro b9
  refine qaq ?_
  intro b11
  refine qak ?_
  refine qc4 ?_
  refine qak ?_
  refine qad ?_
  refine qa4 ?_
  have hA4 := hA.mono hR4
  have hpg : ([⟨false, 0, 0⟩] : List XCut)[0]? = some ⟨false, 0, 0⟩ := rfl
  have hpl : ([⟨false, 0, 0⟩] : List XCut).length = 1 := rfl
  have hqg : ([⟨-1, 22, 0, true, false⟩] : List XSwitch)[0]? = some ⟨-1, 22, 0, true, false⟩ := rfl
  have hql : ([⟨-1, 22, 0, true, false⟩] : List XSwitch).length = 1 := rfl
  have fin : ∀ r ∈ R, InR r R' := fun r hr => (((hRR r hr).mono hR2).mono hR3).mono hR4
  refine CJ_drawn tb [0, 1, 2, 3, 4, 5, 6, 7, 8, 9, 10, 11, 12, 13, 14, 15, 16, 17, 18, 19, 20, 21, 22, 23, 24, 25, 26, 27, 28, 29, 30, 31, 32, 33, 34, 35, 36, 37, 38, 39, 40, 41, 42, 43, 44, 45, 46, 47, 48, 49, 50, 51, 52] ((⟨b11, [(⟨qo, [⟨-1, 22, 0, true, false⟩]⟩ : OwL XSwitch).val, pz.val, .int .i64 rp], 71⟩ :: ⟨b9, noRest.cells, 78⟩ :: ((⟨qo, [⟨-1, 22, 0, true, false⟩]⟩ : OwL XSwitch).L 98 XSwitch.cells ++ ((⟨po, [⟨false, 0, 0⟩]⟩ : OwL XCut).L 93 XCut.cells ++ (⟨b1, s.cells, 36⟩ :: []))))) mixed (by kernel_rfl) (by repeat (first | exact zs0 _ | exact zs1 _ | apply zs2 | apply zs3 | apply zs4 | apply zs5)) ?_
  refine ycmab ?_
  refine ycmaa ?_
  refine ycmaa ?_
  refine q_d rfl (Ready_tri s (⟨some ⟨b27, 0, none⟩, 1, [⟨true, 0, 0⟩]⟩ : Arr XCut) (⟨some ⟨b29, 0, none⟩, 1, [⟨300, 300⟩]⟩ : Arr XSpan) 0 4 _ _ hA4) ?_
  dsimp only
  rw [hrd4]
  refine DJ_q (yv_eql rfl rfl) rfl rfl rfl ?_
  refine qb2 ?_
  refine DJ_case (k := 62) (show _ = Value.bool _ from rfl) (fun hg5 => ?_) (fun hg5 => ?_)
  ·
   replace hg5 := qb hg5
   refine qao ?_
   refine DJ_q (yv_eql rfl rfl) rfl rfl rfl ?_
   refine qbp ?_
   refine qb2 ?_
   refine DJ_case (k := 66) (show _ = Value.bool _ from rfl) (fun hg9 => ?_) (fun hg9 => ?_)
   ·
    replace hg9 := qb hg9
    refine qao ?_
    refine DJ_q (yv_eql rfl rfl) rfl rfl rfl ?_
    refine qbp ?_
    refine qb2 ?_
    refine DJ_case (k := 70) (show _ = Value.bool _ from rfl) (fun hg13 => ?_) (fun hg13 => ?_)
    ·
     replace hg13 := qb hg13
     refine qao ?_
     refine DJ_q (yv_eql rfl rfl) rfl rfl rfl ?_
     refine qbp ?_
     refine qb2 ?_
     refine DJ_case (k := 74) (show _ = Value.bool _ from rfl) (fun hg17 => ?_) (fun hg17 => ?_)
     ·
      replace hg17 := qb hg17
      refine DJ_q (yv_loadN (row := [_, _, _, _, _]) tb rfl rfl rfl (by repeat (first | exact zi0 | apply zi1 | apply zi2)) (by rfl) (by rfl)) rfl rfl rfl ?_
      refine q_d rfl (None_tri _ _) ?_
      refine DJ_q (yv_eql_str restoringEq rfl rfl (by repeat (first | exact trivial | refine ⟨trivial, ?_⟩)) (by repeat (first | exact trivial | refine ⟨trivial, ?_⟩)) rfl) rfl rfl rfl ?_
      refine qbp ?_
      refine qb2 ?_
      refine DJ_case (k := 79) (show _ = Value.bool _ from rfl) (fun hg22 => ?_) (fun hg22 => ?_)
      ·
       replace hg22 := qb hg22
       refine qal ?_
       refine qat ?_
       refine DJ_q (yv_eql rfl rfl) rfl rfl rfl ?_
       refine qbp ?_
       refine qb2 ?_
       refine DJ_case (k := 84) (show _ = Value.bool _ from rfl) (fun hg27 => ?_) (fun hg27 => ?_)
       ·
        replace hg27 := qb hg27
        refine ycmaa ?_
        refine DJ_q (yv_len tb rfl rfl rfl) rfl rfl rfl ?_
        refine DJ_q (yv_eql rfl rfl) rfl rfl rfl ?_
        refine qbp ?_
        refine qb2 ?_
        refine DJ_case (k := 89) (show _ = Value.bool _ from rfl) (fun hg32 => ?_) (fun hg32 => ?_)
        ·
         replace hg32 := qb hg32
         refine ycmaa ?_
         refine DJ_q (yv_index_ow tb ((⟨po, [⟨false, 0, 0⟩]⟩ : OwL XCut)) _ rfl rfl rfl rfl (by assumption) (i := 0) (by first | rfl | omega | (simp; omega)) (by first | omega | (dsimp only; omega) | (dsimp only; rw [List.length_set]; omega) | (dsimp only; simp only [List.length_set]; omega))) rfl rfl rfl ?_
         refine qce ?_
         refine DJ_q (yv_load1_ow tb ((⟨po, [⟨false, 0, 0⟩]⟩ : OwL XCut)) rfl rfl rfl (by repeat (first | apply OSeg.cons | exact OSeg.here | exact OSeg.last | exact OSeg.at (by assumption) | apply OSeg.app)) (by assumption) (fun _ => rfl) (by assumption) (by rfl)) rfl rfl rfl ?_
         refine DJ_q (yv_not rfl) rfl rfl rfl ?_
         refine qbp ?_
         refine qb2 ?_
         refine DJ_case (k := 96) (show _ = Value.bool _ from rfl) (fun hg39 => ?_) (fun hg39 => ?_)
         ·
          replace hg39 := qb hg39
          refine qal ?_
          refine qat ?_
          refine DJ_q (yv_len tb rfl rfl rfl) rfl rfl rfl ?_
          refine DJ_q (yv_eql rfl rfl) rfl rfl rfl ?_
          refine qbp ?_
          refine qb2 ?_
          refine DJ_case (k := 102) (show _ = Value.bool _ from rfl) (fun hg45 => ?_) (fun hg45 => ?_)
          ·
           replace hg45 := qb hg45
           refine qal ?_
           refine qat ?_
           refine DJ_q (yv_index_ow tb ((⟨qo, [⟨-1, 22, 0, true, false⟩]⟩ : OwL XSwitch)) _ rfl rfl rfl rfl (by assumption) (i := 0) (by first | rfl | omega | (simp; omega)) (by first | omega | (dsimp only; omega) | (dsimp only; rw [List.length_set]; omega) | (dsimp only; simp only [List.length_set]; omega))) rfl rfl rfl ?_
           refine qce ?_
           refine DJ_q (yv_load1_ow tb ((⟨qo, [⟨-1, 22, 0, true, false⟩]⟩ : OwL XSwitch)) rfl rfl rfl (by repeat (first | apply OSeg.cons | exact OSeg.here | exact OSeg.last | exact OSeg.at (by assumption) | apply OSeg.app)) (by assumption) (fun _ => rfl) (by assumption) (by rfl)) rfl rfl rfl ?_
           refine qbp ?_
           refine DJ_q (yv_assign (show _ = Value.bool _ from rfl)) rfl rfl rfl ?_
           refine DJ_nil (seqK_normal (CJ_ret ?_))
           refine retK_ret (L' := L) (R' := R) (res1 rfl (rv_tmp (show _ = Value.bool _ from rfl))) ?hp ?hL ?hR
           case hp => exact ⟨rfl, rfl, rfl⟩
           case hL => exact (by repeat (first | exact zs0 _ | exact zs1 _ | apply zs2 | apply zs3 | apply zs4 | apply zs5))
           case hR => exact fin
          replace hg45 := qb hg45
          simp at hg45
         replace hg39 := qb hg39
         simp at hg39
        replace hg32 := qb hg32
        simp at hg32
       replace hg27 := qb hg27
       exact absurd rfl hg27
      replace hg22 := qb hg22
      exact absurd (show true = false from hg22) (by decide)
     replace hg17 := qb hg17
     simp at hg17
    replace hg13 := qb hg13
    simp at hg13
   replace hg9 := qb hg9
   simp at hg9
  replace hg5 := qb hg5
  simp at hg5
end Go.Proofs.Ytkpfjmibipblhaa
end
section
/-
  Statements about chapter 21: a drawn scene. By an AI agent; no person has read it.
-/
set_option linter.unusedSimpArgs false
set_option linter.unusedVariables false
namespace Go.Proofs.Ytkpfjmibipblhaa
open Go.Aw Go
set_option maxRecDepth 20000
attribute [local irreducible] CJ LJ DJ Tri YV Gives seqK blockK loopK retK RV mergeK OwL.L
end Go.Proofs.Ytkpfjmibipblhaa
end
section
/-
  The values of conditions, the reference's. By an AI agent; no person has read it.
-/
set_option linter.unusedSimpArgs false
set_option linter.unusedVariables false
namespace Go.Proofs.Ytkpfjmibipblhaa
open Go.Aw Go
set_option maxRecDepth 20000
attribute [local irreducible] CJ LJ DJ Tri YV Gives seqK blockK loopK retK RV mergeK OwL.L
end Go.Proofs.Ytkpfjmibipblhaa
end
section
/-
  The values of conditions and the states of zones, the reference's; lists that are compared. By an AI agent; no person has read it.
-/
set_option linter.unusedSimpArgs false
set_option linter.unusedVariables false
namespace Go.Proofs.Ytkpfjmibipblhaa
open Go.Aw Go
set_option maxRecDepth 20000
attribute [local irreducible] CJ LJ DJ Tri YV Gives seqK blockK loopK retK RV mergeK OwL.L
end Go.Proofs.Ytkpfjmibipblhaa
end
section
/-
  Statements about chapter 21: what comes too late. By an AI agent; no person has read it.
-/
set_option linter.unusedSimpArgs false
set_option linter.unusedVariables false
namespace Go.Proofs.Ytkpfjmibipblhaa
open Go.Aw Go
set_option maxRecDepth 20000
attribute [local irreducible] CJ LJ DJ Tri YV Gives seqK blockK loopK retK RV mergeK OwL.L
theorem chain_get {n i : Nat} (h : i < n) : (chainS n)[i]? = some ⟨(i : Int) - 1, 0, 0, true, false⟩ := by
  rw [chainS, List.getElem?_map, List.getElem?_range h]; rfl
end Go.Proofs.Ytkpfjmibipblhaa
end
section
/-
  Conditions of which less is known, and zones behind a step. Plain. By an AI agent; no person has read it.
-/
set_option linter.unusedSimpArgs false
set_option linter.unusedVariables false
namespace Go.Proofs.Ytkpfjmibipblhaa
open Go.Aw Go
def Wd (x y : XSpan) : Prop := x.low ≤ x.high ∧ y.low ≤ x.low ∧ x.high ≤ y.high
structure MLoose (m m' : XMeas) : Prop where
  sensor : m'.sensor = m.sensor
  time : m'.time = m.time
  span : m' = m ∨ (Wd m.span m'.span ∧ (-1000000000 ≤ m'.span.low ∧ m'.span.high ≤ 1000000000))
section
variable {S : List XSens} {m m' : List XMeas} {fl fl' : List XSpan} {c : XCond} {w : XWatch} {t : Int} (hl : m'.length = m.length) (h : ∀ i : Nat, i < m.length → MLoose (m.getD i default) (m'.getD i default)) (hfl : fl'.length = fl.length) (hf : ∀ i : Nat, i < fl.length → Wd (fl.getD i default) (fl'.getD i default))
include hl h
include hfl hf
end
end Go.Proofs.Ytkpfjmibipblhaa
end
section
/-
  Statements about chapter 20: the reasons of cuts. By an AI agent; no person has read it.
-/
set_option linter.unusedSimpArgs false
set_option linter.unusedVariables false
namespace Go.Proofs.Ytkpfjmibipblhaa
open Go.Aw Go
set_option maxRecDepth 20000
attribute [local irreducible] CJ LJ DJ Tri YV Gives seqK blockK loopK retK RV mergeK OwL.L
theorem has01_tri (l : Arr Int) (n : Int) (L : List Blk) (R : List Sl) (hl : InR (isl l) R) :
    Tri Try.prog 40 [l.val, .int .i64 n].toArray L R (fun v L' R' => v = .bool (decide (n ∈ l.l)) ∧ L = L' ∧ R = R') := by
  refine Tri_len Try.call40 hl fun hln => ?_
  refine tri_enter 18 Try.call40 Try.func40 rfl rfl rfl ?_
  refine qae ?_
  refine qaz ?_
  refine qaw ?_
  refine qad ?_
  refine qa2 ?_
  refine CJ_forget [(0, Value.slice _ _ _), (1, Value.int _ _), (5, Value.int _ _)] (by repeat' (first | exact trivial | refine And.intro rfl ?_)) fun tq0 => ?_
  refine q_s [4, 5, 6, 7, 8, 9, 10, 11, 12, 13, 14, 15, 16, 17] (fun g : {k : Nat // k ≤ l.l.length ∧ ∀ j : Nat, j < k → l.l.getD j 0 ≠ n} => [(5, .int .i64 ((g.1 : Nat) : Int))]) (fun g => l.l.length - g.1) (⟨0, by omega, fun j hj => by omega⟩) ?_
  rintro ⟨k, hk, hal⟩ junk
  try dsimp only
  refine qbi ?_
  refine qaa ?_
  refine qbm ?_
  refine qag ?_
  refine qaj ?_
  refine qaf ?_
  refine q_c (fun hc0 => ?_) (fun hc0 => ?_)
  ·
   have hlg := get_D (l := l.l) (k := k) 0 (by omega)
   refine qbb ?_
   refine qbm ?_
   refine qaa ?_
   refine LJ_q (by first | exact yv_index_ro tb rfl rfl rfl rfl (by first | assumption | exact zr (by simp)) (i := k) (by first | rfl | omega | (simp; omega)) (by omega) | exact yv_index tb rfl rfl rfl rfl (i := k) (by first | rfl | omega | (simp; omega)) (by omega)) rfl ?_
   refine qa7 ?_
   refine qaa ?_
   refine qbn ?_
   refine qaf ?_
   refine q_c (fun hc1 => ?_) (fun hc1 => ?_)
   ·
    refine qae ?_
    refine qaz ?_
    refine qbt ?_
    refine q_b (L' := L) (R' := R) ?_
    exact ⟨by rw [decide_eq_true (by rw [← hc1]; exact List.mem_of_getElem? hlg)], rfl, rfl⟩
   refine qbj ?_
   refine qaa ?_
   refine qar ?_
   refine qad ?_
   refine qav ?_
   exact loopK_mk (⟨k + 1, by omega, fun j hj => by
   rcases Nat.lt_or_ge j k with h | h
   · exact hal j h
   · obtain rfl : j = k := by omega
     exact hc1⟩) (by repeat (first | exact Off.refl | apply Off.upd rfl | apply Off.havoc rfl | apply Off.updL rfl | apply Off.left rfl)) (by repeat' (first | exact trivial | refine And.intro rfl ?_)) (by repeat (first | exact zs0 _ | exact zs1 _ | apply zs2 | apply zs3 | apply zs4 | apply zs5)) (allR_self _) (by dsimp only; omega)
  refine qbk ?_
  refine qaz ?_
  refine qa0 ?_
  refine q_b (L' := L) (R' := R) ?_
  exact ⟨by
  rw [decide_eq_false]
  intro hm
  obtain ⟨j, hj⟩ := List.mem_iff_getElem?.1 hm
  have hjl := (List.getElem?_eq_some_iff.1 hj).1
  exact hal j (by omega) (getD_some hj), rfl, rfl⟩
end Go.Proofs.Ytkpfjmibipblhaa
end
