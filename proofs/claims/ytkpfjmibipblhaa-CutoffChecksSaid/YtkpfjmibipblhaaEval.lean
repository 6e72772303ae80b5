import Derived.Test.YtkpfjmibipblhaaCutB
import Derived.Test.YtkpfjmibipblhaaApp0
import Derived.Test.YtkpfjmibipblhaaRule
section
/-
  The values of conditions: cutoff.Values. By an AI agent; no person has read it.
-/
set_option linter.unusedSimpArgs false
set_option linter.unusedVariables false
namespace Go.Proofs.Ytkpfjmibipblhaa
open Go.Aw Go
set_option maxRecDepth 20000
attribute [local irreducible] CJ LJ DJ Tri YV Gives seqK blockK loopK retK RV mergeK OwL.L
section
variable {A9 B9 : Prop}
theorem ybtaa (h : B9 := by exact ⟨.nil, .nil, by rw [he]; rfl, ⟨OwL.nil_ok, OwL.nil_ok⟩, by rw [valuesV, if_pos (by omega)], by rw [valuesW, if_pos (by omega)], by rw [nil_L, nil_L]; rfl, rfl⟩) : B9 := h
theorem ybtab (a : A9) (h : A9 → B9 := by exact LJ_q (yv_index_ow tb ((⟨.own b w.l.length [], vs⟩ : OwL Int)) _ rfl rfl ((show _ = Value.slice _ _ _ from rfl).trans (own_val hvl)) rfl (by assumption) (i := k) (by first | rfl | omega | (simp; omega)) (by first | omega | (dsimp only; omega) | (dsimp only; rw [List.length_set]; omega) | (dsimp only; simp only [List.length_set]; omega))) rfl) : B9 := h a
theorem ybtac (a : A9) (h : A9 → B9 := by exact LJ_q (yv_loadN (row := [_, _, _, _, _, _, _, _]) tb rfl rfl rfl (by repeat (first | exact zi0 | apply zi1 | apply zi2)) (by rfl) (by rfl)) rfl) : B9 := h a
theorem ybtad (a : A9) (h : A9 → B9 := by exact WStep_g rfl (gives_copy (f := XWatch.cells) (xs := w) tb rfl rfl rfl (by decide) rfl rfl (hw) (fun _ => rfl) (by omega)) rfl rfl) : B9 := h a
theorem ybtae (a : A9) (h : A9 → B9 := by exact WZ_q 5 hT8 (List.nil_sublist _) (by kernel_rfl) rfl rfl rfl rfl rfl (yv_assign (show _ = Value.slice _ _ _ from rfl))) : B9 := h a
theorem ybtaf (a : A9) (h : A9 → B9 := by exact WZ_q 6 hT8 (List.nil_sublist _) (by kernel_rfl) rfl rfl rfl rfl rfl (yv_assign (show _ = Value.slice _ _ _ from rfl))) : B9 := h a
theorem ybtag (a : A9) (h : A9 → B9 := by exact DJ3_q (yv_loadN (row := [_, _, _]) tb rfl rfl rfl (by repeat (first | exact zi0 | apply zi1 | apply zi2)) (by rfl) (by rfl)) rfl rfl rfl rfl) : B9 := h a
end
theorem fed_one {fl : List XSpan} {f : XFace} : fedL fl [f] = [fedAt fl f] := rfl
abbrev errF (s : XSite) (w : List XWatch) (t : Int) : Nat → Option Int := fun i => nzO (valueE (s.conds.l.getD i default) (w.getD i default) t)
abbrev valF (s : XSite) (m : List XMeas) (w : List XWatch) (fl : List XSpan) (t : Int) : Nat → Int := fun i => valueV s.sensors.l m fl (s.conds.l.getD i default) (w.getD i default) t
abbrev watF (s : XSite) (m : List XMeas) (w : List XWatch) (t : Int) : Nat → XWatch := fun i => valueW s.sensors.l m (s.conds.l.getD i default) (w.getD i default) t
structure ValsA (s : XSite) (m : Arr XMeas) (w : Arr XWatch) (fl : Arr XSpan) (R : List Sl) : Prop where
  site : SiteR s R
  mR : InR (mesl m) R
  wR : InR (wasl w) R
  flR : InR (spsl fl) R
  ok : ∀ x ∈ m.l, MeasOk x
theorem valuesErr_at {s : XSite} {m : List XMeas} {w : List XWatch} {fl : List XSpan} {t : Int} (h0 : siteErr s = 0) (h1 : m.length = s.sensors.l.length ∧ w.length = s.conds.l.length ∧ fl.length = s.air.mine.roads.l.length) (h2 : ¬ (t < 0 ∨ 2147483648 < t)) : valuesErr s m w fl t = ((List.range w.length).findSome? (errF s w t)).getD 0 := by
  rw [valuesErr, if_neg (by omega), if_neg (fun h => h h1), if_neg h2]
theorem values_tri (s : XSite) (m : Arr XMeas) (w : Arr XWatch) (fl : Arr XSpan) (t : Int) (L : List Blk) (R : List Sl) (h : ValsA s m w fl R) :
    Tri Try.prog 23 [s.val, m.val, w.val, fl.val, .int .i64 t].toArray L R
      (fun v L' R' => ∃ (p : OwL Int) (q : OwL XWatch), v = .tuple #[p.val, q.val, .int .i64 (valuesErr s m.l w.l fl.l t)] ∧ (p.ok 1 icell ∧ q.ok 3 XWatch.cells) ∧ p.l = valuesV s m.l w.l fl.l t ∧ q.l = valuesW s m.l w.l fl.l t ∧ p.L 3 icell ++ (q.L 116 XWatch.cells ++ L) = L' ∧ R = R') := by
  obtain ⟨hs, hm, hw, hfl, hok⟩ := h
  have hsR := hs.sensors
  have hcR := hs.conds
  refine tri_enter 152 Try.call23 Try.func23 rfl rfl rfl ?_
  refine qae ?_
  refine qax ?_
  intro b5
  refine qc4 ?_
  refine qc4 ?_
  refine qad ?_
  refine qaw ?_
  refine ybtac ?_
  refine q_l rfl (siteCheck_tri s _ _ hs) ?_
  refine qad ?_
  refine qam ?_
  refine qaa ?_
  refine qbq ?_
  refine qaf ?_
  refine q_c (fun hc0 => ?_) (fun hc0 => ?_)
  ·
   refine qae ?_
   refine qaa ?_
   refine qc4 ?_
   refine qc4 ?_
   refine qad ?_
   refine qbh ?_
   refine q_r (L' := L) (R' := R) (res3 rfl (rv_tmp (show _ = Value.slice _ _ _ from rfl)) (rv_tmp (show _ = Value.slice _ _ _ from rfl)) (rv_tmp (show _ = Value.int _ _ from rfl))) ?_
   have he : valuesErr s m.l w.l fl.l t = siteErr s := by rw [valuesErr, if_pos hc0]
   exact ybtaa
  have hsk := siteOk_of (s := s) (by omega)
  have hsl := hsk.len
  have hrl := (airOk_of hsk.air).mine.roads
  refine qbo ?_
  refine qbm ?_
  refine qag ?_
  refine qab ?_
  refine qac ?_
  refine qag ?_
  refine qbq ?_
  refine qah ?_
  apply LJ_or (G := [_, _, _, _, _, _]) (j := 6) (cj := 32) rfl rfl (by rfl) rfl (show _ = Value.bool _ from rfl) rfl
  ·
   intro hg7
   replace hg7 := qb hg7
   refine qbm ?_
   refine qag ?_
   refine qab ?_
   refine qac ?_
   refine qag ?_
   refine qbq ?_
   exact qai
  intro junk7
  refine qah ?_
  apply LJ_or (G := [_, _, _, _, _, _, _, _]) (j := 14) (cj := 40) rfl rfl (by rfl) rfl (show _ = Value.bool _ from rfl) rfl
  ·
   intro hg15
   replace hg15 := qb hg15
   refine qbm ?_
   refine qag ?_
   iterate 3 refine qab ?_
   refine qac ?_
   refine qag ?_
   refine qbq ?_
   exact qai
  intro junk15
  refine qaf ?_
  refine q_c (fun hc1 => ?_) (fun hc1 => ?_)
  ·
   refine qae ?_
   refine qc4 ?_
   refine qc4 ?_
   refine qad ?_
   refine qbh ?_
   refine q_r (L' := L) (R' := R) (res3 rfl (rv_tmp (show _ = Value.slice _ _ _ from rfl)) (rv_tmp (show _ = Value.slice _ _ _ from rfl)) (rv_tmp (show _ = Value.int _ _ from rfl))) ?_
   have he : valuesErr s m.l w.l fl.l t = 11 := by rw [valuesErr, if_neg (by omega), if_pos (by omega)]
   exact ybtaa
  refine qbo ?_
  refine qaa ?_
  refine qaj ?_
  refine qah ?_
  apply LJ_or (G := [_, _]) (j := 2) (cj := 52) rfl rfl (by rfl) rfl (show _ = Value.bool _ from rfl) rfl
  ·
   intro hg3
   replace hg3 := qb hg3
   refine qaa ?_
   refine qa5 ?_
   exact qai
  intro junk3
  refine qaf ?_
  refine q_c (fun hc2 => ?_) (fun hc2 => ?_)
  ·
   refine qae ?_
   refine qc4 ?_
   refine qc4 ?_
   refine qad ?_
   refine qbh ?_
   refine q_r (L' := L) (R' := R) (res3 rfl (rv_tmp (show _ = Value.slice _ _ _ from rfl)) (rv_tmp (show _ = Value.slice _ _ _ from rfl)) (rv_tmp (show _ = Value.int _ _ from rfl))) ?_
   have he : valuesErr s m.l w.l fl.l t = 8 := by rw [valuesErr, if_neg (by omega), if_neg (by omega), if_pos (by omega)]
   exact ybtaa
  have hve := valuesErr_at (s := s) (m := m.l) (w := w.l) (fl := fl.l) (t := t) (by omega) (by omega) (by omega)
  refine qcl ?_
  refine CJ_joinP [56, 57, 58, 59, 60, 14, 15] ((⟨fun g => [(14, .slice (some ⟨g.1.1, 0, none⟩) w.l.length w.l.length), (15, (⟨g.1.2, w.l⟩ : OwL XWatch).val)], fun g => (⟨.own g.1.1 w.l.length [], List.replicate w.l.length 0⟩ : OwL Int).L 3 icell ++ ((⟨g.1.2, w.l⟩ : OwL XWatch).L 116 XWatch.cells ++ (⟨b5, s.cells, 36⟩ :: L)), fun _ => R, fun _ => 0⟩ : Head {g : Nat × Ow // (⟨g.2, w.l⟩ : OwL XWatch).ok 3 XWatch.cells})) ?_ ?_
  ·
   skip
   refine CJ_tree tb [] [0, 1, 3, 2, 4, 5, 6] [] (_) [] 7 mixed (by kernel_rfl) rfl rfl (by repeat (first | exact zs0 _ | exact zs1 _ | apply zs2 | apply zs3 | apply zs4 | apply zs5)) fun hT8 => ?_
   refine WZ_q 0 hT8 (List.nil_sublist _) (by kernel_rfl) rfl rfl rfl rfl rfl (yv_move (show _ = Value.slice _ _ _ from rfl)) ?_
   refine WZ_q 1 hT8 (List.nil_sublist _) (by kernel_rfl) rfl rfl rfl rfl rfl (yv_len tb rfl rfl rfl) ?_
   refine WZ_q 3 hT8 (List.nil_sublist _) (by kernel_rfl) rfl rfl rfl rfl rfl (yv_move (show _ = Value.slice _ _ _ from rfl)) ?_
   refine WZ_branch [2, 4] hT8 (List.nil_sublist _) (by kernel_rfl) ?_
   refine WSteps_cons ?_ ?_
   ·
    skip
    refine WStep_g rfl (gives_makeSlice tb rfl rfl rfl rfl rfl rfl rfl (by omega) (by omega)) rfl rfl ?_
    rintro v L' R' ⟨b58, rfl, rfl, hR58⟩
    replace hR58 := hR58.symm; subst hR58
    refine qa1 ?_
    refine WZ_branch [4] hT8 (List.nil_sublist _) (by kernel_rfl) ?_
    refine qca ?_
    refine ybtad ?_
    rintro v L' R' ⟨o60, rfl, hok60, rfl, rfl⟩
    refine qa1 ?_
    refine ybtae ?_
    refine ybtaf ?_
    refine WZ_endL hT8 (List.nil_sublist _) (by kernel_rfl) rfl ?_
    refine DJ_nil ?_
    first
      | exact joinPK_mk ⟨(b58, o60), hok60⟩ (by repeat (first | exact Off.refl | apply Off.upd rfl | apply Off.havoc rfl | apply Off.updL rfl | apply Off.left rfl)) (by repeat' (first | exact trivial | refine And.intro rfl ?_)) (List.Perm.refl _) (by dsimp only; rw [← made_ow (f := icell) (x := (0 : Int)) rfl]; exact List.Sublist.refl _) (allR_self _)
      | exact joinPK_mk ⟨(b58, o60), hok60⟩ (by repeat (first | exact Off.refl | apply Off.upd rfl | apply Off.havoc rfl | apply Off.updL rfl | apply Off.left rfl)) (by repeat' (first | exact trivial | refine And.intro rfl ?_)) List.perm_middle (by dsimp only; rw [← made_ow (f := icell) (x := (0 : Int)) rfl]; exact List.Sublist.refl _) (allR_self _)
   refine qca ?_
   refine ybtad ?_
   rintro v L' R' ⟨o60, rfl, hok60, rfl, rfl⟩
   refine qa1 ?_
   refine WZ_branch [2] hT8 (List.nil_sublist _) (by kernel_rfl) ?_
   refine qca ?_
   refine WStep_g rfl (gives_makeSlice tb rfl rfl rfl rfl rfl rfl rfl (by omega) (by omega)) rfl rfl ?_
   rintro v L' R' ⟨b58, rfl, rfl, hR58⟩
   replace hR58 := hR58.symm; subst hR58
   refine qa1 ?_
   refine ybtae ?_
   refine ybtaf ?_
   refine WZ_endL hT8 (List.nil_sublist _) (by kernel_rfl) rfl ?_
   refine DJ_nil ?_
   first
     | exact joinPK_mk ⟨(b58, o60), hok60⟩ (by repeat (first | exact Off.refl | apply Off.upd rfl | apply Off.havoc rfl | apply Off.updL rfl | apply Off.left rfl)) (by repeat' (first | exact trivial | refine And.intro rfl ?_)) (List.Perm.refl _) (by dsimp only; rw [← made_ow (f := icell) (x := (0 : Int)) rfl]; exact List.Sublist.refl _) (allR_self _)
     | exact joinPK_mk ⟨(b58, o60), hok60⟩ (by repeat (first | exact Off.refl | apply Off.upd rfl | apply Off.havoc rfl | apply Off.updL rfl | apply Off.left rfl)) (by repeat' (first | exact trivial | refine And.intro rfl ?_)) List.perm_middle (by dsimp only; rw [← made_ow (f := icell) (x := (0 : Int)) rfl]; exact List.Sublist.refl _) (allR_self _)
  rintro ⟨⟨b, o⟩, hok60⟩ junk
  try dsimp only
  dsimp only at hok60
  refine qbi ?_
  refine qab ?_
  refine qac ?_
  refine qag ?_
  refine qaa ?_
  refine qa2 ?_
  refine CJ_forget [(1, Value.slice _ _ _), (2, Value.slice _ _ _), (3, Value.slice _ _ _), (4, Value.int _ _), (5, Value.pointer _), (14, Value.slice _ _ _), (15, Value.slice _ _ _), (62, Value.slice _ _ _), (63, Value.int _ _), (64, Value.int _ _)] (by repeat' (first | exact trivial | refine And.intro rfl ?_)) fun tq0 => ?_
  refine q_p [10, 11, 12, 16, 17, 18, 19, 20, 64, 65, 66, 67, 68, 69, 70, 71, 72, 73, 74, 75, 76, 77, 78, 79, 80, 81, 82, 83, 84, 85, 86, 87, 88, 89, 90, 91, 92, 93, 94, 95, 96, 97, 98, 99, 100, 101, 102, 103, 104, 105, 106, 107, 108, 109, 110, 111, 112, 113, 114, 115, 116, 117, 118, 119, 120, 121, 122, 123, 124, 125, 126, 127, 128, 129, 130, 131, 132, 133, 134, 135, 136, 137, 138, 139, 140, 141, 142, 143, 144, 145, 146, 147, 148, 149] ((⟨fun g => [(64, .int .i64 ((g.1.1 : Nat) : Int))], fun g => (⟨.own b w.l.length [], g.1.2.1⟩ : OwL Int).L 3 icell ++ ((⟨o, g.1.2.2⟩ : OwL XWatch).L 116 XWatch.cells ++ (⟨b5, s.cells, 36⟩ :: L)), fun _ => R, fun g => w.l.length - g.1.1⟩ : Head {g : Nat × List Int × List XWatch // (g.1 ≤ w.l.length ∧ (List.range w.l.length).findSome? (errF s w.l t) = ((List.range w.l.length).drop g.1).findSome? (errF s w.l t)) ∧ WrTo w.l.length 0 (valF s m.l w.l fl.l t) g.1 g.2.1 ∧ WrO w.l (watF s m.l w.l t) g.1 g.2.2})) (⟨(0, List.replicate w.l.length 0, w.l), ⟨by dsimp only; omega, by rw [List.drop_zero]⟩, .zero, .zero⟩) ?_
  rintro ⟨⟨k, vs, ws⟩, ⟨hk, hp⟩, hV, hW⟩ junk
  try dsimp only
  dsimp only at hk hp hV hW
  have hvl := hV.len
  have hwl := hW.len
  have hvk : (⟨.own b w.l.length [], vs⟩ : OwL Int).ok 1 icell := by have := made_ok (f := icell) (wd := 1) (b := b) (n := w.l.length) (x := 0) icell_len (by simp only [maxLen]; omega); exact OwL.len_ok icell_len this (by simp; exact hvl)
  have hwk : (⟨o, ws⟩ : OwL XWatch).ok 3 XWatch.cells := OwL.len_ok (fun _ => rfl) hok60 hwl
  refine qae ?_
  refine qaj ?_
  refine qa4 ?_
  refine q_c (fun hc3 => ?_) (fun hc3 => ?_)
  ·
   have hcg := get_D (l := s.conds.l) (k := k) default (by omega)
   have hwg := get_D (l := w.l) (k := k) default (by omega)
   have hvg := hV.non k (Nat.le_refl _) (by omega)
   have hwg2 := hW.old k (Nat.le_refl _)
   rw [hwg] at hwg2
   have hcf := condErr_facts (hsk.cond _ (List.mem_of_getElem? hcg))
   have hVn := fun (v : Int) => hV.next (x := v) (by omega)
   have hWn := fun (v : XWatch) => hW.next (x := v) (by omega)
   have hpn := FSR_next (f := errF s w.l t) hp (by omega)
   have hps := fun (e : Int) (he : errF s w.l t k = some e) => FSR_some (f := errF s w.l t) hp (by omega) he
   obtain ⟨c, hc⟩ : ∃ c, c = s.conds.l.getD k default := ⟨_, rfl⟩
   obtain ⟨wk, hwe⟩ : ∃ wk, wk = w.l.getD k default := ⟨_, rfl⟩
   obtain ⟨X, hX⟩ : ∃ X, X = knownS s.sensors.l m.l c.target t := ⟨_, rfl⟩
   have hvE : errF s w.l t k = nzO (valueE c wk t) := by rw [hc, hwe]
   have hvV : valF s m.l w.l fl.l t k = valueV s.sensors.l m.l fl.l c wk t := by rw [hc, hwe]
   have hvW : watF s m.l w.l t k = valueW s.sensors.l m.l c wk t := by rw [hc, hwe]
   rw [← hc] at hcg hcf
   rw [← hwe] at hwg hwg2
   rw [hvV] at hVn
   rw [hvE] at hpn hps
   rw [hvW] at hWn
   rw [valueV, ← hX] at hVn
   rw [valueE] at hpn hps
   refine qbb ?_
   refine qaa ?_
   refine LJ_q (by first | exact yv_index_ro tb rfl rfl rfl rfl (by first | assumption | exact zr (by simp)) (i := k) (by first | rfl | omega | (simp; omega)) (by omega) | exact yv_index tb rfl rfl rfl rfl (i := k) (by first | rfl | omega | (simp; omega)) (by omega)) rfl ?_
   refine LJ_q (by first | exact yv_loadN_ro (row := [_, _, _, _, _, _]) tb rfl rfl rfl (by first | assumption | exact zr (by simp)) (by assumption) (by rfl) (by rfl) | exact yv_loadN (row := [_, _, _, _, _, _]) tb rfl rfl rfl (by repeat (first | exact zi0 | apply zi1 | apply zi2)) (by rfl) (by rfl)) rfl ?_
   refine qaq ?_
   intro b17
   refine qad ?_
   refine qak ?_
   refine qam ?_
   refine ybtac ?_
   refine qbm ?_
   refine qab ?_
   refine qac ?_
   refine qaa ?_
   refine q_l rfl (known_tri s m c.target t _ _ hsR hm hok (by omega)) ?_
   rw [← hX]
   refine qaq ?_
   intro b18
   refine qak ?_
   refine qam ?_
   refine qab ?_
   refine qac ?_
   refine LJ_nil (seqK_normal (CJ_block (CJ_seq (CJ_region ?_))))
   refine qbn ?_
   refine qaz ?_
   refine qaf ?_
   refine q_c (fun hc4 => ?_) (fun hc4 => ?_)
   ·
    refine CJ_seq ?_
    refine CJ_drawn tb [0, 1, 2, 3, 4, 5, 6, 7, 8, 9, 10, 11, 12, 13, 14] ([Blk.mk b18 _ _, Blk.mk b17 _ _]) mixed (by kernel_rfl) (by repeat (first | exact zs0 _ | exact zs1 _ | apply zs2 | apply zs3 | apply zs4 | apply zs5)) ?_
    refine qal ?_
    refine DJ_q (yv_loadN (row := [_, _, _]) tb rfl rfl rfl (by repeat (first | exact zi0 | apply zi1 | apply zi2)) (by rfl) (by rfl)) rfl rfl rfl ?_
    refine DJ_q (yv_move (show _ = Value.slice _ _ _ from rfl)) rfl rfl rfl ?_
    refine qao ?_
    refine qds ?_
    refine qdv ?_
    refine qbd ?_
    refine qao ?_
    refine q_d rfl (step_tri c.level wk X t _ _) ?_
    refine DJ_q (yv_move rfl) rfl rfl rfl ?_
    refine DJ_q (yv_extract rfl rfl) rfl rfl rfl ?_
    refine DJ_q (yv_extract rfl rfl) rfl rfl rfl ?_
    refine qbr ?_
    intro b19
    refine qbg ?_
    refine qcg ?_
    refine qc6 ?_
    refine qaa ?_
    refine qbq ?_
    refine qaf ?_
    refine q_c (fun hc5 => ?_) (fun hc5 => ?_)
    ·
     refine qae ?_
     refine qaa ?_
     refine qc4 ?_
     refine qc4 ?_
     refine qad ?_
     refine LJ_nil (seqK_normal (CJ_ret (seqK_ret (blockK_ret (blockK_ret (seqK_ret (loopK_ret (blockK_ret (seqK_ret ?_)))))))))
     refine q_r (L' := L) (R' := R) (res3 rfl (rv_tmp (show _ = Value.slice _ _ _ from rfl)) (rv_tmp (show _ = Value.slice _ _ _ from rfl)) (rv_tmp (show _ = Value.int _ _ from rfl))) ?_
     have hfe := hps (stepErr c.level wk t) (by rw [if_pos hc4, nzO_some hc5])
     have he : valuesErr s m.l w.l fl.l t = stepErr c.level wk t := by rw [hve, hfe]; rfl
     exact ybtaa
    have hse : stepErr c.level wk t = 0 := by omega
    rw [stepS_ok hse]
    refine CJ_skip (seqK_normal ?_)
    refine CJ_drawn2 tb [96, 97] [0, 1, 2, 3, 4, 5, 6, 7, 8, 9] [10, 11, 12] ([Blk.mk b19 _ _, Blk.mk b18 _ _, Blk.mk b17 _ _]) _ mixed (by kernel_rfl) (by repeat (first | exact zs0 _ | exact zs1 _ | apply zs2 | apply zs3 | apply zs4 | apply zs5)) (by (repeat (first | apply List.Sublist.cons (a := Blk.mk b15 _ _) | apply List.Sublist.cons (a := Blk.mk b14 _ _) | apply List.Sublist.cons_cons)); exact List.Sublist.refl _) ?_
    refine qct ?_
    refine qbf ?_
    refine DJ3_ql (yv_move (show _ = Value.slice _ _ _ from rfl)) rfl rfl rfl rfl ?_
    refine DJ3_ql (yv_move (show _ = Value.int _ _ from rfl)) rfl rfl rfl rfl ?_
    refine ybtag ?_
    refine DJ3_q (yv_loadN (row := [_, _, _, _, _, _]) tb rfl rfl rfl (by repeat (first | exact zi0 | apply zi1 | apply zi2)) (by rfl) (by rfl)) rfl rfl rfl rfl ?_
    refine ybtag ?_
    refine DJ3_q (yv_loadN (row := [_, _]) tb rfl rfl rfl (by repeat (first | exact zi0 | apply zi1 | apply zi2)) (by rfl) (by rfl)) rfl rfl rfl rfl ?_
    refine DJ3_call rfl (over_tri c (stepTo c.level wk X t) X _ _) rfl rfl ?_
    rintro v L' R' ⟨rfl, rfl, rfl⟩
    refine qas ?_
    refine DJ3_q (yv_index_ow tb ((⟨o, ws⟩ : OwL XWatch)) _ rfl rfl ((show _ = Value.slice _ _ _ from rfl).trans (by simp only [OwL.val, hwl])) rfl (by assumption) (i := k) (by first | rfl | omega | (simp; omega)) (by first | omega | (dsimp only; omega) | (dsimp only; rw [List.length_set]; omega) | (dsimp only; simp only [List.length_set]; omega))) rfl rfl rfl rfl ?_
    refine qba ?_
    refine DJ_g0 (gives_storeN_ow tb ((⟨o, ws⟩ : OwL XWatch)) (stepTo c.level wk X t) rfl rfl rfl rfl (by repeat (first | apply OSeg.cons | exact OSeg.here | exact OSeg.last | exact OSeg.at (by assumption) | apply OSeg.app)) (by assumption) (fun _ => rfl) (by assumption) (Nat.le_of_ble_eq_true rfl) (by rfl) (by rfl)) rfl rfl ?_
    rintro v L' R' ⟨rfl, rfl⟩
    refine qa1 ?_
    refine DJ_q (yv_index_ow tb ((⟨.own b w.l.length [], vs⟩ : OwL Int)) _ rfl rfl ((show _ = Value.slice _ _ _ from rfl).trans (own_val hvl)) rfl (by assumption) (i := k) (by first | rfl | omega | (simp; omega)) (by first | omega | (dsimp only; omega) | (dsimp only; rw [List.length_set]; omega) | (dsimp only; simp only [List.length_set]; omega))) rfl rfl rfl ?_
    refine DJ_g0 (gives_store1_ow tb ((⟨.own b w.l.length [], vs⟩ : OwL Int)) (if (stepTo c.level wk X t).over = false then -1 else if aboveS X c.level.cut = 1 then 1 else 0) rfl rfl rfl rfl (by repeat (first | apply OSeg.cons | exact OSeg.here | exact OSeg.last | exact OSeg.at (by assumption) | apply OSeg.app)) (by assumption) (fun _ => rfl) (by assumption) (by decide) (by rfl) (by rfl)) rfl rfl ?_
    rintro v L' R' ⟨rfl, rfl⟩
    refine qa1 ?_
    refine DJ_nil (blockK_normal (blockK_normal (seqK_normal (CJ_region ?_))))
    refine qar ?_
    refine qaa ?_
    refine qav ?_
    exact q_k ⟨(k + 1, vs.set k (if (stepTo c.level wk X t).over = false then -1 else if aboveS X c.level.cut = 1 then 1 else 0), ws.set k (stepTo c.level wk X t)), hpn (by rw [if_pos hc4, hse]; rfl), hVn _ (by rw [if_neg (show ¬ c.kind = 5 by omega), if_neg (show ¬ c.kind = 2 by omega), if_neg (show ¬ c.kind = 3 by omega), if_neg (show ¬ c.kind = 4 by omega)]), hWn _ (by rw [valueW, if_pos hc4, hX])⟩
   have hst : valueW s.sensors.l m.l c wk t = wk := by rw [valueW, if_neg hc4]
   have hWk := hW.stay (show w.l[k]? = some (watF s m.l w.l t k) by rw [hvW, hwg, hst])
   have hpk := hpn (by rw [if_neg hc4]; rfl)
   refine qae ?_
   refine qbn ?_
   refine qaz ?_
   refine qaf ?_
   refine q_c (fun hc6 => ?_) (fun hc6 => ?_)
   ·
    refine qay ?_
    refine qbm ?_
    refine qaa ?_
    refine qbe ?_
    refine qab ?_
    refine qac ?_
    refine q_l rfl (above_tri X c.value _ _) ?_
    have hab : -1 ≤ aboveS X c.value ∧ aboveS X c.value ≤ 1 := by rw [aboveS]; (repeat' split) <;> omega
    refine qcq ?_
    refine ybtab ?_
    refine LJ_g0 (gives_store1_ow tb ((⟨.own b w.l.length [], vs⟩ : OwL Int)) (-(aboveS X c.value)) rfl rfl rfl rfl (by repeat (first | apply OSeg.cons | exact OSeg.here | exact OSeg.last | exact OSeg.at (by assumption) | apply OSeg.app)) (by assumption) (fun _ => rfl) (by assumption) (by decide) (by rfl) (by rfl)) ?_
    rintro v L' R' ⟨rfl, rfl⟩
    refine LJ_nil (blockK_normal (blockK_normal (seqK_normal (CJ_region ?_))))
    refine qar ?_
    refine qaa ?_
    refine qav ?_
    exact q_k ⟨(k + 1, vs.set k (-(aboveS X c.value)), ws), hpk, hVn _ (by rw [if_neg (by omega), if_pos hc6]), hWk⟩
   refine qae ?_
   refine qbn ?_
   refine qaz ?_
   refine qaf ?_
   refine q_c (fun hc7 => ?_) (fun hc7 => ?_)
   ·
    refine qay ?_
    refine qbm ?_
    refine qaa ?_
    refine qbe ?_
    refine q_l rfl (stopped_tri X _ _) ?_
    refine ybtab ?_
    refine LJ_g0 (gives_store1_ow tb ((⟨.own b w.l.length [], vs⟩ : OwL Int)) (stoppedS X) rfl rfl rfl rfl (by repeat (first | apply OSeg.cons | exact OSeg.here | exact OSeg.last | exact OSeg.at (by assumption) | apply OSeg.app)) (by assumption) (fun _ => rfl) (by assumption) (by decide) (by rfl) (by rfl)) ?_
    rintro v L' R' ⟨rfl, rfl⟩
    refine LJ_nil (blockK_normal (blockK_normal (seqK_normal (CJ_region ?_))))
    refine qar ?_
    refine qaa ?_
    refine qav ?_
    exact q_k ⟨(k + 1, vs.set k (stoppedS X), ws), hpk, hVn _ (by rw [if_neg (by omega), if_neg (by omega), if_pos hc7]), hWk⟩
   refine qae ?_
   refine qbn ?_
   refine qaz ?_
   refine qaf ?_
   refine q_c (fun hc8 => ?_) (fun hc8 => ?_)
   ·
    refine qae ?_
    refine qbm ?_
    refine qaa ?_
    refine ybtab ?_
    refine LJ_g0 (gives_store1_ow tb ((⟨.own b w.l.length [], vs⟩ : OwL Int)) (-1) rfl rfl rfl rfl (by repeat (first | apply OSeg.cons | exact OSeg.here | exact OSeg.last | exact OSeg.at (by assumption) | apply OSeg.app)) (by assumption) (fun _ => rfl) (by assumption) (by decide) (by rfl) (by rfl)) ?_
    rintro v L' R' ⟨rfl, rfl⟩
    refine qa4 ?_
    refine CJ_drawn tb [0, 1, 2] ([Blk.mk b18 _ _]) mixed (by kernel_rfl) (by repeat (first | exact zs0 _ | exact zs1 _ | apply zs2 | apply zs3 | apply zs4 | apply zs5)) ?_
    refine qbd ?_
    refine q_d rfl (sensNothing_tri _ _) ?_
    refine DJ_q (yv_eql_span spanEq rfl rfl) rfl rfl rfl ?_
    refine qbu ?_
    refine q_c (fun hc9 => ?_) (fun hc9 => ?_)
    ·
     have hvk2 := OwL.set_ok (p := (⟨.own b w.l.length [], vs⟩ : OwL Int)) (i := k) (x := -1) icell_len hvk
     have hvg2 : (vs.set k (-1))[k]? = some (-1) := List.getElem?_set_self (by omega)
     refine qay ?_
     refine qbm ?_
     refine qaa ?_
     refine LJ_q (yv_index_ow tb ((⟨.own b w.l.length [], vs.set k (-1)⟩ : OwL Int)) _ rfl rfl ((show _ = Value.slice _ _ _ from rfl).trans (own_val (by rw [List.length_set]; exact hvl))) rfl (by assumption) (i := k) (by first | rfl | omega | (simp; omega)) (by first | omega | (dsimp only; omega) | (dsimp only; rw [List.length_set]; omega) | (dsimp only; simp only [List.length_set]; omega))) rfl ?_
     refine LJ_g0 (gives_store1_ow tb ((⟨.own b w.l.length [], vs.set k (-1)⟩ : OwL Int)) (1) rfl rfl rfl rfl (by repeat (first | apply OSeg.cons | exact OSeg.here | exact OSeg.last | exact OSeg.at (by assumption) | apply OSeg.app)) (by assumption) (fun _ => rfl) (by assumption) (by decide) (by rfl) (by rfl)) ?_
     rintro v L' R' ⟨rfl, rfl⟩
     refine LJ_nil (blockK_normal (blockK_normal (seqK_normal (CJ_region ?_))))
     refine qar ?_
     refine qaa ?_
     refine qav ?_
     exact q_k ⟨(k + 1, (vs.set k (-1)).set k 1, ws), hpk, by dsimp only; rw [List.set_set]; exact hVn _ (by rw [if_neg (by omega), if_neg (by omega), if_neg (by omega), if_pos hc8, if_pos (span_eq.2 (by omega))]), hWk⟩
    refine CJ_skip (blockK_normal (blockK_normal (seqK_normal (CJ_region ?_))))
    refine qar ?_
    refine qaa ?_
    refine qav ?_
    exact q_k ⟨(k + 1, vs.set k (-1), ws), hpk, hVn _ (by rw [if_neg (by omega), if_neg (by omega), if_neg (by omega), if_pos hc8, if_neg (fun e => by rw [span_eq] at e; omega)]), hWk⟩
   refine qae ?_
   refine qbn ?_
   refine qaz ?_
   refine qaf ?_
   refine q_c (fun hc10 => ?_) (fun hc10 => ?_)
   ·
    refine qay ?_
    refine qbm ?_
    refine qaa ?_
    refine qbm ?_
    refine qab ?_
    refine qac ?_
    refine qab ?_
    refine qac ?_
    refine qcd ?_
    refine LJ_g (gives_buildSlice (qs := [(0, (Value.agg _).cells.toList)]) (out := [_, _]) tb rfl rfl rfl rfl rfl rfl rfl) rfl ?_
    rintro v L' R' ⟨b143, rfl, rfl, hR143⟩
    replace hR143 := hR143.symm; subst hR143
    refine LJ_frz (wd := 2) (len := 1) (cap := 1) (rows := [XFace.cells ⟨c.target, c.value⟩]) (subs := []) rfl (by decide) (by decide) (fun r hr => by rw [List.mem_singleton.1 hr]; rfl) (by decide) rfl (fun s hs => by cases hs) ?_
    refine LJ_call rfl (fedL_tri fl ⟨some ⟨b143, 0, none⟩, 1, [⟨c.target, c.value⟩]⟩ _ _ (hfl.mono fun r h => inR_self (by simp [h])) (inR_self (.head _)) (fun f hf => by rw [List.mem_singleton.1 hf]; dsimp only; omega) (show 1 ≤ 1000 by decide) (by omega)) rfl ?_
    rintro v L' R' ⟨p, rfl, hpk1, hpl, rfl, rfl⟩
    rw [fed_one] at hpl
    have hp0 : p.l[0]? = some (fedAt fl.l ⟨c.target, c.value⟩) := by rw [hpl]; rfl
    have hpn1 : p.l.length = 1 := by rw [hpl]; rfl
    have hfb : -1 ≤ fedAt fl.l ⟨c.target, c.value⟩ ∧ fedAt fl.l ⟨c.target, c.value⟩ ≤ 1 := by rw [fedAt, fedS]; (repeat' split) <;> omega
    refine LJ_q (yv_index_ow tb (p) _ rfl rfl rfl rfl (by assumption) (i := 0) (by first | rfl | omega | (simp; omega)) (by first | omega | (dsimp only; omega) | (dsimp only; rw [List.length_set]; omega) | (dsimp only; simp only [List.length_set]; omega))) rfl ?_
    refine LJ_q (yv_load1_ow tb (p) rfl rfl rfl (by repeat (first | apply OSeg.cons | exact OSeg.here | exact OSeg.last | exact OSeg.at (by assumption) | apply OSeg.app)) (by assumption) (fun _ => rfl) (by assumption) (by rfl)) rfl ?_
    refine qcq ?_
    refine ybtab ?_
    refine LJ_g0 (gives_store1_ow tb ((⟨.own b w.l.length [], vs⟩ : OwL Int)) (-(fedAt fl.l ⟨c.target, c.value⟩)) rfl rfl rfl rfl (by repeat (first | apply OSeg.cons | exact OSeg.here | exact OSeg.last | exact OSeg.at (by assumption) | apply OSeg.app)) (by assumption) (fun _ => rfl) (by assumption) (by decide) (by rfl) (by rfl)) ?_
    rintro v L' R' ⟨rfl, rfl⟩
    refine LJ_nil (blockK_normal (blockK_normal (seqK_normal (CJ_region ?_))))
    refine qar ?_
    refine qaa ?_
    refine qav ?_
    exact loopK_mk ⟨(k + 1, vs.set k (-(fedAt fl.l ⟨c.target, c.value⟩)), ws), hpk, hVn _ (by rw [if_pos hc10]), hWk⟩ (by repeat (first | exact Off.refl | apply Off.upd rfl | apply Off.havoc rfl | apply Off.updL rfl | apply Off.left rfl)) (by repeat' (first | exact trivial | refine And.intro rfl ?_)) (by repeat (first | exact zs0 _ | exact zs1 _ | apply zs2 | apply zs3 | apply zs4 | apply zs5)) (fun r h => inR_self (by simp [h])) (by dsimp only; omega)
   (exfalso; omega)
  obtain rfl : k = w.l.length := by omega
  have hn := FSR_none (f := errF s w.l t) hp (Nat.le_refl _)
  have he : valuesErr s m.l w.l fl.l t = 0 := by rw [hve, hn]; rfl
  refine qbk ?_
  refine qbm ?_
  refine qbm ?_
  refine qc4 ?_
  refine qc4 ?_
  refine qad ?_
  refine qa0 ?_
  refine q_r (L' := (⟨.own b w.l.length [], vs⟩ : OwL Int).L 3 icell ++ ((⟨o, ws⟩ : OwL XWatch).L 116 XWatch.cells ++ L)) (R' := R) (res3 rfl (rv_tmp (show _ = Value.slice _ _ _ from rfl)) (rv_tmp (show _ = Value.slice _ _ _ from rfl)) (rv_tmp (show _ = Value.int _ _ from rfl))) ?_
  exact ⟨(⟨.own b w.l.length [], vs⟩ : OwL Int), (⟨o, ws⟩ : OwL XWatch), by rw [he, OwL.val, OwL.val, hvl, hwl]; try rfl, ⟨hvk, hwk⟩, by rw [valuesV, if_neg (by omega)]; exact hV.done, by rw [valuesW, if_neg (by omega)]; exact hW.done, rfl, rfl⟩
end Go.Proofs.Ytkpfjmibipblhaa
end
section
/-
  The value of a rule: rule.Eval. By an AI agent; no person has read it.
-/
set_option linter.unusedSimpArgs false
set_option linter.unusedVariables false
namespace Go.Proofs.Ytkpfjmibipblhaa
open Go.Aw Go
set_option maxRecDepth 20000
attribute [local irreducible] CJ LJ DJ Tri YV Gives seqK blockK loopK retK RV mergeK OwL.L
section
variable {A9 B9 : Prop}
theorem ybuaa (a : A9) (h : A9 → B9 := by exact DJ3_q (yv_load1_ow tb ((⟨.own b13 l.l.length [], vs⟩ : OwL Int)) rfl rfl rfl (by repeat (first | apply OSeg.cons | exact OSeg.here | exact OSeg.last | exact OSeg.at (by assumption) | apply OSeg.app)) (by assumption) (fun _ => rfl) (by assumption) (by rfl)) rfl rfl rfl rfl) : B9 := h a
theorem ybuab (a : A9) (h : A9 → B9 := by exact LJ_q (by first | exact yv_index_ro tb rfl rfl rfl rfl (by first | assumption | exact zr (by simp)) (i := x.cond.toNat) (by first | rfl | omega | (simp; omega)) (by omega) | exact yv_index tb rfl rfl rfl rfl (i := x.cond.toNat) (by first | rfl | omega | (simp; omega)) (by omega)) rfl) : B9 := h a
theorem ybuac (a : A9) (h : A9 → B9 := by exact LJ_q (yv_index_ow tb ((⟨.own b13 l.l.length [], vs⟩ : OwL Int)) _ rfl rfl ((show _ = Value.slice _ _ _ from rfl).trans (own_val hvl)) rfl (by assumption) (i := k) (by first | rfl | omega | (simp; omega)) (by first | omega | (dsimp only; omega) | (dsimp only; rw [List.length_set]; omega) | (dsimp only; simp only [List.length_set]; omega))) rfl) : B9 := h a
theorem ybuad (a : A9) (h : A9 → B9 := by exact LJ_q (yv_load1_ow tb ((⟨.own b13 l.l.length [], vs⟩ : OwL Int)) rfl rfl rfl (by repeat (first | apply OSeg.cons | exact OSeg.here | exact OSeg.last | exact OSeg.at (by assumption) | apply OSeg.app)) (by assumption) (fun _ => rfl) (by assumption) (by rfl)) rfl) : B9 := h a
theorem ybuae (a : A9) (h : A9 → B9 := by exact CJ_drawn2 tb [] [0, 1, 2, 3, 4, 5, 6, 7, 8, 9, 10, 11, 12, 13] [14] ((⟨b7, XNode.cells x, 161⟩ :: ((⟨.own b13 l.l.length [], vs⟩ : OwL Int).L 3 icell ++ []))) _ mixed (by kernel_rfl) (by repeat (first | exact zs0 _ | exact zs1 _ | apply zs2 | apply zs3 | apply zs4 | apply zs5)) (List.nil_sublist _)) : B9 := h a
theorem ybuaf (a : A9) (h : A9 → B9 := by exact DJ3_q (yv_index_ow tb ((⟨.own b13 l.l.length [], vs⟩ : OwL Int)) _ rfl rfl ((show _ = Value.slice _ _ _ from rfl).trans (own_val hvl)) rfl (by assumption) (i := x.left.toNat) (by first | rfl | omega | (simp; omega)) (by first | omega | (dsimp only; omega) | (dsimp only; rw [List.length_set]; omega) | (dsimp only; simp only [List.length_set]; omega))) rfl rfl rfl rfl) : B9 := h a
theorem ybuag (a : A9) (h : A9 → B9 := by exact DJ3_q (yv_index_ow tb ((⟨.own b13 l.l.length [], vs⟩ : OwL Int)) _ rfl rfl ((show _ = Value.slice _ _ _ from rfl).trans (own_val hvl)) rfl (by assumption) (i := x.right.toNat) (by first | rfl | omega | (simp; omega)) (by first | omega | (dsimp only; omega) | (dsimp only; rw [List.length_set]; omega) | (dsimp only; simp only [List.length_set]; omega))) rfl rfl rfl rfl) : B9 := h a
theorem ybuah (a : A9) (h : A9 → B9 := by exact DJ3_q (yv_index_ow tb ((⟨.own b13 l.l.length [], vs⟩ : OwL Int)) _ rfl rfl ((show _ = Value.slice _ _ _ from rfl).trans (own_val hvl)) rfl (by assumption) (i := k) (by first | rfl | omega | (simp; omega)) (by first | omega | (dsimp only; omega) | (dsimp only; rw [List.length_set]; omega) | (dsimp only; simp only [List.length_set]; omega))) rfl rfl rfl rfl) : B9 := h a
end
def evalPad (l : List XNode) (vals : List Int) (k : Nat) : List Int := evalTo l vals k ++ List.replicate (l.length - k) 0
theorem pad_len {l : List XNode} {vals : List Int} {k : Nat} (h : k ≤ l.length) : (evalPad l vals k).length = l.length := by
  rw [evalPad, List.length_append, evalTo_len, List.length_replicate]; omega
theorem pad_set {l : List XNode} {vals : List Int} {k : Nat} {v : Int} (hk : k < l.length) (h : v = nodeV vals (evalTo l vals k) (l.getD k default)) : (evalPad l vals k).set k v = evalPad l vals (k + 1) := by
  have hl := evalTo_len (l := l) (vals := vals) k
  rw [evalPad, evalPad, evalTo, ← h, show l.length - k = (l.length - (k + 1)) + 1 by omega, List.replicate_succ, List.set_append_right k v (by omega), hl, Nat.sub_self, List.set_cons_zero]
  simp
theorem pad_stay {l : List XNode} {vals : List Int} {k : Nat} (hk : k < l.length) (h : nodeV vals (evalTo l vals k) (l.getD k default) = 0) : evalPad l vals k = evalPad l vals (k + 1) := by
  rw [evalPad, evalPad, evalTo, h, show l.length - k = (l.length - (k + 1)) + 1 by omega, List.replicate_succ]
  simp
theorem pad_get {l : List XNode} {vals : List Int} {k j : Nat} (h : j < k) : (evalPad l vals k)[j]? = some ((evalTo l vals k).getD j 0) := by
  have hl := evalTo_len (l := l) (vals := vals) k
  rw [evalPad, List.getElem?_append_left (by omega)]
  exact get_D 0 (by omega)
theorem pad_full {l : List XNode} {vals : List Int} : evalPad l vals l.length = evalTo l vals l.length := by rw [evalPad, Nat.sub_self]; simp
theorem nodeV_1 {vals v : List Int} {x : XNode} (h : x.kind = 1) : nodeV vals v x = condV vals x.cond := by rw [nodeV, if_pos h]
theorem nodeV_2 {vals v : List Int} {x : XNode} (h : x.kind = 2) : nodeV vals v x = -(v.getD x.left.toNat 0) := by rw [nodeV, if_neg (by omega), if_pos h]
theorem nodeV_3 {vals v : List Int} {x : XNode} (h : x.kind = 3) : nodeV vals v x = min (v.getD x.left.toNat 0) (v.getD x.right.toNat 0) := by rw [nodeV, if_neg (by omega), if_neg (by omega), if_pos h]
theorem nodeV_4 {vals v : List Int} {x : XNode} (h1 : ¬ x.kind = 1) (h2 : ¬ x.kind = 2) (h3 : ¬ x.kind = 3) : nodeV vals v x = max (v.getD x.left.toNat 0) (v.getD x.right.toNat 0) := by rw [nodeV, if_neg h1, if_neg h2, if_neg h3]
theorem rlEval_tri (l : Arr XNode) (vals : Arr Int) (L : List Blk) (R : List Sl) (hl : InR (ndsl l) R) (hv : InR (isl vals) R) :
    Tri Try.prog 84 [l.val, vals.val].toArray L R (fun v L' R' => v = .int .i64 (evalS l.l vals.l) ∧ L = L' ∧ R = R') := by
  refine tri_enter 102 Try.call84 Try.func84 rfl rfl rfl ?_
  refine qae ?_
  refine qad ?_
  refine qaw ?_
  refine qbm ?_
  refine q_l rfl (rlRight_tri l _ _ hl) ?_
  refine qb4 ?_
  refine qaf ?_
  refine q_c (fun hc0 => ?_) (fun hc0 => ?_)
  ·
   refine qae ?_
   refine qad ?_
   refine qbh ?_
   refine q_i (L' := L) (R' := R) ?_
   exact ⟨by rw [evalS, if_neg (by simpa using hc0)], rfl, rfl⟩
  have hr : rightR l.l = true := by simpa using hc0
  have hln := (rightR_iff.1 hr).1
  refine qbv ?_
  refine qbm ?_
  refine qag ?_
  refine qc7 ?_
  rintro v L' R' ⟨b13, rfl, rfl, hR13⟩
  replace hR13 := hR13.symm; subst hR13
  refine qc4 ?_
  refine qco ?_
  refine CJ_L (made_ow (f := icell) (x := 0) rfl _) ?_
  refine qay ?_
  refine qbm ?_
  refine qag ?_
  refine qaa ?_
  refine qa2 ?_
  refine CJ_forget [(1, Value.slice _ _ _), (5, Value.slice _ _ _), (14, Value.slice _ _ _), (15, Value.int _ _), (16, Value.int _ _)] (by repeat' (first | exact trivial | refine And.intro rfl ?_)) fun tq0 => ?_
  refine q_p [6, 7, 16, 17, 18, 19, 20, 21, 22, 23, 24, 25, 26, 27, 28, 29, 30, 31, 32, 33, 34, 35, 36, 37, 38, 39, 40, 41, 42, 43, 44, 45, 46, 47, 48, 49, 50, 51, 52, 53, 54, 55, 56, 57, 58, 59, 60, 61, 62, 63, 64, 65, 66, 67, 68, 69, 70, 71, 72, 73, 74, 75, 76, 77, 78, 79, 80, 81, 82, 83, 84, 85, 86, 87, 88, 89, 90, 91, 92, 93, 94, 95] ((⟨fun g => [(16, .int .i64 ((g.1.1 : Nat) : Int))], fun g => (⟨.own b13 l.l.length [], g.1.2⟩ : OwL Int).L 3 icell ++ L, fun _ => R, fun g => l.l.length - g.1.1⟩ : Head {g : Nat × List Int // g.1 ≤ l.l.length ∧ g.2 = evalPad l.l vals.l g.1})) (⟨(0, List.replicate l.l.length 0), by dsimp only; omega, rfl⟩) ?_
  rintro ⟨⟨k, vs⟩, hk, hvs⟩ junk
  try dsimp only
  dsimp only at hk hvs
  have hvl : vs.length = l.l.length := by rw [hvs]; exact pad_len hk
  have hvk : (⟨.own b13 l.l.length [], vs⟩ : OwL Int).ok 1 icell := by have := made_ok (f := icell) (wd := 1) (b := b13) (n := l.l.length) (x := 0) icell_len (by simp only [maxLen]; omega); exact OwL.len_ok icell_len this (by simp; exact hvl)
  refine qae ?_
  refine qaj ?_
  refine qa4 ?_
  refine q_c (fun hc1 => ?_) (fun hc1 => ?_)
  ·
   have hxg := get_D (l := l.l) (k := k) default (by omega)
   have hno := right_nodes hr k (by omega)
   have hvg := get_D (l := vs) (k := k) 0 (by omega)
   have hset := fun (v : Int) => pad_set (l := l.l) (vals := vals.l) (k := k) (v := v) (by omega)
   have hst := pad_stay (l := l.l) (vals := vals.l) (k := k) (by omega)
   rw [← hvs] at hset hst
   rw [NodeOk] at hno
   obtain ⟨x, hx⟩ : ∃ x, x = l.l.getD k default := ⟨_, rfl⟩
   rw [← hx] at hxg hno hset hst
   refine qbb ?_
   refine qaa ?_
   refine LJ_q (by first | exact yv_index_ro tb rfl rfl rfl rfl (by first | assumption | exact zr (by simp)) (i := k) (by first | rfl | omega | (simp; omega)) (by omega) | exact yv_index tb rfl rfl rfl rfl (i := k) (by first | rfl | omega | (simp; omega)) (by omega)) rfl ?_
   refine qdr ?_
   refine qaq ?_
   intro b7
   refine qad ?_
   refine qak ?_
   refine qam ?_
   refine qab ?_
   refine qac ?_
   refine LJ_nil (seqK_normal (CJ_block (CJ_seq (CJ_region ?_))))
   refine qbn ?_
   refine qaz ?_
   refine qaf ?_
   refine q_c (fun hc2 => ?_) (fun hc2 => ?_)
   ·
    refine qae ?_
    refine qab ?_
    refine qac ?_
    refine qbm ?_
    refine qag ?_
    refine qaj ?_
    refine qah ?_
    apply LJ_and (G := [_, _, _, _, _, _]) (j := 5) (cj := 44) rfl rfl (by rfl) rfl (show _ = Value.bool _ from rfl) rfl
    ·
     intro hg6
     replace hg6 := qb hg6
     have hcg := get_D (l := vals.l) (k := x.cond.toNat) 0 (by omega)
     refine qbm ?_
     refine qab ?_
     refine qac ?_
     refine ybuab ?_
     refine qa7 ?_
     refine qbz ?_
     exact qai
    intro junk6
    refine qah ?_
    apply LJ_and (G := [_, _, _, _, _, _]) (j := 13) (cj := 52) rfl rfl (by rfl) rfl (show _ = Value.bool _ from rfl) rfl
    ·
     intro hg14
     replace hg14 := qb hg14
     have hcg := get_D (l := vals.l) (k := x.cond.toNat) 0 (by omega)
     refine qbm ?_
     refine qab ?_
     refine qac ?_
     refine ybuab ?_
     refine qa7 ?_
     refine qbx ?_
     exact qai
    intro junk14
    refine qaf ?_
    refine q_c (fun hc3 => ?_) (fun hc3 => ?_)
    ·
     have hcg := get_D (l := vals.l) (k := x.cond.toNat) 0 (by omega)
     refine qay ?_
     refine qbm ?_
     refine qaa ?_
     refine qbm ?_
     refine qab ?_
     refine qac ?_
     refine ybuab ?_
     refine qa7 ?_
     refine ybuac ?_
     refine LJ_g0 (gives_store1_ow tb ((⟨.own b13 l.l.length [], vs⟩ : OwL Int)) (vals.l.getD x.cond.toNat 0) rfl rfl rfl rfl (by repeat (first | apply OSeg.cons | exact OSeg.here | exact OSeg.last | exact OSeg.at (by assumption) | apply OSeg.app)) (by assumption) (fun _ => rfl) (by assumption) (by decide) (by rfl) (by rfl)) ?_
     rintro v L' R' ⟨rfl, rfl⟩
     refine LJ_nil (blockK_normal (blockK_normal (seqK_normal (CJ_region ?_))))
     refine qar ?_
     refine qaa ?_
     refine qav ?_
     exact q_k ⟨(k + 1, vs.set k (vals.l.getD x.cond.toNat 0)), by dsimp only; omega, hset _ (by rw [nodeV_1 hc2, condV, if_pos (by omega)])⟩
    refine CJ_skip (blockK_normal (blockK_normal (seqK_normal (CJ_region ?_))))
    refine qar ?_
    refine qaa ?_
    refine qav ?_
    exact q_k ⟨(k + 1, vs), by dsimp only; omega, hst (by rw [nodeV_1 hc2, condV, if_neg (by omega)])⟩
   refine qae ?_
   refine qbn ?_
   refine qaz ?_
   refine qaf ?_
   refine q_c (fun hc4 => ?_) (fun hc4 => ?_)
   ·
    have hlt : x.left.toNat < k := by omega
    have hlg := pad_get (l := l.l) (vals := vals.l) hlt
    rw [← hvs] at hlg
    have hlr := evalTo_range (l := l.l) (vals := vals.l) k x.left.toNat
    refine qay ?_
    refine qbm ?_
    refine qaa ?_
    refine qbm ?_
    refine qab ?_
    refine qac ?_
    refine LJ_q (yv_index_ow tb ((⟨.own b13 l.l.length [], vs⟩ : OwL Int)) _ rfl rfl ((show _ = Value.slice _ _ _ from rfl).trans (own_val hvl)) rfl (by assumption) (i := x.left.toNat) (by first | rfl | omega | (simp; omega)) (by first | omega | (dsimp only; omega) | (dsimp only; rw [List.length_set]; omega) | (dsimp only; simp only [List.length_set]; omega))) rfl ?_
    refine ybuad ?_
    refine qcq ?_
    refine ybuac ?_
    refine LJ_g0 (gives_store1_ow tb ((⟨.own b13 l.l.length [], vs⟩ : OwL Int)) (-((evalTo l.l vals.l k).getD x.left.toNat 0)) rfl rfl rfl rfl (by repeat (first | apply OSeg.cons | exact OSeg.here | exact OSeg.last | exact OSeg.at (by assumption) | apply OSeg.app)) (by assumption) (fun _ => rfl) (by assumption) (by decide) (by rfl) (by rfl)) ?_
    rintro v L' R' ⟨rfl, rfl⟩
    refine LJ_nil (blockK_normal (blockK_normal (seqK_normal (CJ_region ?_))))
    refine qar ?_
    refine qaa ?_
    refine qav ?_
    exact q_k ⟨(k + 1, vs.set k (-((evalTo l.l vals.l k).getD x.left.toNat 0))), by dsimp only; omega, hset _ (by rw [nodeV_2 hc4])⟩
   have hlt : x.left.toNat < k := by omega
   have hlg := pad_get (l := l.l) (vals := vals.l) hlt
   have hrt : x.right.toNat < k := by omega
   have hrg := pad_get (l := l.l) (vals := vals.l) hrt
   rw [← hvs] at hlg hrg
   refine qae ?_
   refine qbn ?_
   refine qaz ?_
   refine qaf ?_
   refine q_c (fun hc5 => ?_) (fun hc5 => ?_)
   ·
    refine ybuae ?_
    refine qct ?_
    refine qbf ?_
    refine qct ?_
    refine qan ?_
    refine qau ?_
    refine ybuaf ?_
    refine ybuaa ?_
    refine qct ?_
    refine qan ?_
    refine qau ?_
    refine ybuag ?_
    refine ybuaa ?_
    refine DJ3_q (yv_min2 rfl rfl) rfl rfl rfl rfl ?_
    refine ybuah ?_
    refine qba ?_
    refine DJ_g0 (gives_store1_ow tb ((⟨.own b13 l.l.length [], vs⟩ : OwL Int)) (min ((evalTo l.l vals.l k).getD x.left.toNat 0) ((evalTo l.l vals.l k).getD x.right.toNat 0)) rfl rfl rfl rfl (by repeat (first | apply OSeg.cons | exact OSeg.here | exact OSeg.last | exact OSeg.at (by assumption) | apply OSeg.app)) (by assumption) (fun _ => rfl) (by assumption) (by decide) (by rfl) (by rfl)) rfl rfl ?_
    rintro v L' R' ⟨rfl, rfl⟩
    refine qa1 ?_
    refine DJ_nil (blockK_normal (blockK_normal (seqK_normal (CJ_region ?_))))
    refine qar ?_
    refine qaa ?_
    refine qav ?_
    exact q_k ⟨(k + 1, vs.set k (min ((evalTo l.l vals.l k).getD x.left.toNat 0) ((evalTo l.l vals.l k).getD x.right.toNat 0))), by dsimp only; omega, hset _ (by rw [nodeV_3 hc5])⟩
   refine ybuae ?_
   refine qct ?_
   refine qbf ?_
   refine qct ?_
   refine qan ?_
   refine qau ?_
   refine ybuaf ?_
   refine ybuaa ?_
   refine qct ?_
   refine qan ?_
   refine qau ?_
   refine ybuag ?_
   refine ybuaa ?_
   refine DJ3_q (yv_max2 rfl rfl) rfl rfl rfl rfl ?_
   refine ybuah ?_
   refine qba ?_
   refine DJ_g0 (gives_store1_ow tb ((⟨.own b13 l.l.length [], vs⟩ : OwL Int)) (max ((evalTo l.l vals.l k).getD x.left.toNat 0) ((evalTo l.l vals.l k).getD x.right.toNat 0)) rfl rfl rfl rfl (by repeat (first | apply OSeg.cons | exact OSeg.here | exact OSeg.last | exact OSeg.at (by assumption) | apply OSeg.app)) (by assumption) (fun _ => rfl) (by assumption) (by decide) (by rfl) (by rfl)) rfl rfl ?_
   rintro v L' R' ⟨rfl, rfl⟩
   refine qa1 ?_
   refine DJ_nil (blockK_normal (blockK_normal (seqK_normal (CJ_region ?_))))
   refine qar ?_
   refine qaa ?_
   refine qav ?_
   exact q_k ⟨(k + 1, vs.set k (max ((evalTo l.l vals.l k).getD x.left.toNat 0) ((evalTo l.l vals.l k).getD x.right.toNat 0))), by dsimp only; omega, hset _ (by rw [nodeV_4 hc2 hc4 hc5])⟩
  obtain rfl : k = l.l.length := by omega
  rw [pad_full] at hvs
  have hvg := get_D (l := vs) (k := l.l.length - 1) 0 (by omega)
  have hev : evalS l.l vals.l = vs.getD (l.l.length - 1) 0 := by rw [evalS, if_pos hr, hvs]
  refine qbk ?_
  refine qbm ?_
  refine qbm ?_
  refine qag ?_
  refine qa9 ?_
  refine LJ_q (yv_index_ow tb ((⟨.own b13 l.l.length [], vs⟩ : OwL Int)) _ rfl rfl ((show _ = Value.slice _ _ _ from rfl).trans (own_val hvl)) rfl (by assumption) (i := l.l.length - 1) (by first | rfl | omega | (simp; omega)) (by first | omega | (dsimp only; omega) | (dsimp only; rw [List.length_set]; omega) | (dsimp only; simp only [List.length_set]; omega))) rfl ?_
  refine ybuad ?_
  refine qad ?_
  refine qa0 ?_
  refine q_i (L' := L) (R' := R) ?_
  exact ⟨by rw [hev], rfl, rfl⟩
end Go.Proofs.Ytkpfjmibipblhaa
end
