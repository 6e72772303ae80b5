/-
  ref11.Flows. By an AI agent; no person has read it.
-/
import Derived.Test.YtjjfpglgonpciaaCflow
set_option linter.unusedSimpArgs false
set_option linter.unusedVariables false
namespace Go.Proofs.Ytjjfpglgonpciaa
open Go.Aw Go
set_option maxRecDepth 20000
attribute [local irreducible] CJ LJ DJ Tri YV Gives seqK blockK loopK retK RV mergeK OwL.L

structure CheckOk (a : XAir) (s : XSetting) (b : XBounds) : Prop where
  h0 : airErr a = 0
  hf : fitB a s = true
  hl : b.low.l.length = a.mine.places.l.length
  hh : b.high.l.length = a.mine.places.l.length
  pl : PresOk b.low.l
  ph : PresOk b.high.l
theorem checkS_ok {a : XAir} {s : XSetting} {b : XBounds} {A : List Bool} (h : checkS a s b A = 0) : CheckOk a s b := by
  unfold checkS at h
  split at h
  · rename_i h1; exact absurd h h1
  rename_i h1
  split at h
  · cases h
  rename_i h2
  split at h
  · cases h
  rename_i h3
  split at h
  · cases h
  rename_i h4
  refine ⟨by omega, by simpa using h2, by omega, by omega, presOk_of ?_, presOk_of ?_⟩
  · cases e : b.low.l.findSome? presBad with
    | none => rfl
    | some x => exact absurd (.inl (by rw [e]; rfl)) h4
  · cases e : b.high.l.findSome? presBad with
    | none => rfl
    | some x => exact absurd (.inr (by rw [e]; rfl)) h4

theorem refBflow_tri (a : XAir) (s : XSetting) (b : XBounds) (A : List Bool) (L : List Blk) (R : List Sl) (hm : AirR a R) (hs : SetR s R) (hb : BoundsR b R) (hA : airErr a = 0 → AiryIs a.mine A) :
    Tri Try.prog 74 [a.val, s.val, b.val].toArray L R (fun v L' R' => ∃ p : OwL XSpan, v = p.val ∧ p.ok 2 XSpan.cells ∧ p.l = boundFlows a s b A ∧ p.L 48 XSpan.cells ++ L = L' ∧ R = R') := by
  have hmr := hm.roads
  have hbl := hb.low
  have hbh := hb.high
  refine tri_enter 84 Try.call74 Try.func74 rfl rfl rfl ?_
  refine qae ?_
  refine qax ?_
  intro b3
  refine qax ?_
  intro b4
  refine qax ?_
  intro b5
  refine qc4 ?_
  refine qaw ?_
  refine qa8 ?_
  refine qbe ?_
  refine qbe ?_
  refine q_l rfl (refCert_tri a s b A _ _ hm hs hb hA) ?_
  refine qbq ?_
  refine qaf ?_
  refine q_c (fun hc0 => ?_) (fun hc0 => ?_)
  ·
   refine qae ?_
   refine qc4 ?_
   refine qbh ?_
   refine q_r (L' := L) (R' := R) (res1 rfl (rv_tmp (show _ = Value.slice _ _ _ from rfl))) ?_
   exact ⟨OwL.nil, rfl, OwL.nil_ok, by rw [boundFlows, if_neg hc0], by rw [nil_L, List.nil_append], rfl⟩
  ·
   have hck : checkS a s b A = 0 := by omega
   have hC := checkS_ok hck
   have hok := airOk_of hC.h0
   have hfo := fitOk_of hC.hf
   have hAA := hA hC.h0
   have hnr := hok.mine.roads
   have hln := hC.hl
   have hhn := hC.hh
   refine qbv ?_
   refine qab ?_
   refine qbe ?_
   refine LJ_call rfl (airy_tri a.mine _ _ hm.mineR hok.mine) rfl ?_
   rintro v L' R' ⟨p, rfl, hpk, hA2, rfl, rfl⟩
   have hpA : p.l = A := hA2.unique hAA
   have hAl := hAA.length
   refine qc4 ?_
   refine qa4 ?_
   refine CJ_turn fun c w hst => ⟨_, _, hst.perm List.perm_append_comm, ?_⟩
   refine qay ?_
   refine qc4 ?_
   refine qaw ?_
   refine qad ?_
   refine qa2 ?_
   refine CJ_forget [(3, Value.pointer _), (4, Value.pointer _), (5, Value.pointer _), (7, Value.slice _ _ _), (8, Value.slice _ _ _), (9, Value.int _ _)] (by repeat' (first | exact trivial | refine And.intro rfl ?_)) fun tq0 => ?_
   refine CJ_loop [8, 9, 10, 11, 20, 21, 22, 23, 24, 25, 26, 27, 28, 29, 30, 31, 32, 33, 34, 35, 36, 37, 38, 39, 40, 41, 42, 43, 44, 45, 46, 47, 48, 49, 50, 51, 52, 53, 54, 55, 56, 57, 58, 59, 60, 61, 62, 63, 64, 65, 66, 67, 68, 69, 70, 71, 72, 73, 74, 75, 76, 77, 78, 79, 80, 81, 82] ((⟨fun q => [(9, .int .i64 ((q.1.1 : Nat) : Int)), (8, q.1.2.val)], fun q => q.1.2.L 48 XSpan.cells ++ (p.L 4 blc ++ (⟨b5, b.cells, 41⟩ :: ⟨b4, s.cells, 35⟩ :: ⟨b3, a.cells, 32⟩ :: L)), fun _ => R, fun q => a.mine.roads.l.length - q.1.1⟩ : Head {q : Nat × OwL XSpan // q.1 ≤ a.mine.roads.l.length ∧ q.2.ok 2 XSpan.cells ∧ q.2.l = (List.range q.1).map (roadFlow a s b A)})) (⟨(0, OwL.nil), by dsimp only; omega, OwL.nil_ok, rfl⟩) (by repeat' (first | exact trivial | refine And.intro rfl ?_)) (by dsimp only; rw [nil_L, List.nil_append]; exact List.Sublist.refl _) (allR_self _) ?_
   rintro ⟨⟨k, q⟩, w1, w2, w3⟩ junk
   try dsimp only
   dsimp only at w1 w2 w3
   refine qbi ?_
   refine qaa ?_
   refine qab ?_
   refine qab ?_
   refine qac ?_
   refine qag ?_
   refine qaj ?_
   refine qaf ?_
   refine q_c (fun hc1 => ?_) (fun hc1 => ?_)
   ·
    have hr := get_D (l := a.mine.roads.l) (k := k) default (by omega)
    have hro := hok.mine.road _ _ hr
    have hr1 := hro.fr
    have hr2 := hro.to
    have hql : q.l.length = k := by rw [w3]; simp
    have hpg : p.l[(a.mine.roads.l.getD k default).fr.toNat]? = some (A.getD (a.mine.roads.l.getD k default).fr.toNat false) := by rw [hpA]; exact get_D _ (by omega)
    have hpl : p.l.length = a.mine.places.l.length := by rw [hpA]; exact hAl
    have g1 := get_D (l := b.low.l) (k := (a.mine.roads.l.getD k default).fr.toNat) 0 (by omega)
    have g2 := get_D (l := b.low.l) (k := (a.mine.roads.l.getD k default).to.toNat) 0 (by omega)
    have g3 := get_D (l := b.high.l) (k := (a.mine.roads.l.getD k default).fr.toNat) 0 (by omega)
    have g4 := get_D (l := b.high.l) (k := (a.mine.roads.l.getD k default).to.toNat) 0 (by omega)
    have e1 := hC.pl.get (a.mine.roads.l.getD k default).fr.toNat
    have e2 := hC.pl.get (a.mine.roads.l.getD k default).to.toNat
    have e3 := hC.ph.get (a.mine.roads.l.getD k default).fr.toNat
    have e4 := hC.ph.get (a.mine.roads.l.getD k default).to.toNat
    refine qbb ?_
    refine qab ?_
    refine qab ?_
    refine qac ?_
    refine qaa ?_
    refine LJ_q (by first | exact yv_index_ro tb rfl rfl rfl rfl (by first | assumption | exact zr (by simp)) (i := k) (by first | rfl | omega | (simp; omega)) (by omega) | exact yv_index tb rfl rfl rfl rfl (i := k) (by first | rfl | omega | (simp; omega)) (by omega)) rfl ?_
    refine qc8 ?_
    refine qaq ?_
    intro b10
    refine qak ?_
    refine qam ?_
    refine qck ?_
    refine qaq ?_
    intro b11
    refine qak ?_
    refine qaw ?_
    refine qab ?_
    refine qac ?_
    refine qb4 ?_
    refine qaf ?_
    refine q_c (fun hc2 => ?_) (fun hc2 => ?_)
    ·
     refine qae ?_
     refine q_l rfl (nothing_tri _ _) ?_
     refine qak ?_
     refine qam ?_
     refine qbm ?_
     refine qab ?_
     refine qac ?_
     refine LJ_q (yv_index_ow tb (p) _ rfl rfl rfl rfl (by assumption) (i := (a.mine.roads.l.getD k default).fr.toNat) (by first | rfl | omega | (simp; omega)) (by first | omega | (dsimp only; omega) | (dsimp only; rw [List.length_set]; omega))) rfl ?_
     refine LJ_q (yv_load1_ow tb (p) rfl rfl rfl (by repeat (first | apply OSeg.cons | exact OSeg.here | exact OSeg.last | exact OSeg.at (by assumption) | apply OSeg.app)) (by assumption) (fun _ => rfl) (by assumption) (by rfl)) rfl ?_
     refine qaf ?_
     refine q_c (fun hc3 => ?_) (fun hc3 => ?_)
     ·
      have hrf : roadFlow a s b A k = ⟨flowLow (innerS a s k) (b.low.l.getD (a.mine.roads.l.getD k default).fr.toNat 0 - b.high.l.getD (a.mine.roads.l.getD k default).to.toNat 0), flowHigh (innerS a s k) (b.high.l.getD (a.mine.roads.l.getD k default).fr.toNat 0 - b.low.l.getD (a.mine.roads.l.getD k default).to.toNat 0)⟩ := by rw [roadFlow, if_neg (by simpa using hc2), if_pos (by simpa using hc3)]
      refine CJ_drawn2 tb [] [0, 1, 2, 3, 4, 5, 6, 7, 8, 9, 10, 11, 12, 13, 14, 15, 17, 18, 19, 20, 21, 22, 23, 24, 25, 26, 27, 28, 29, 30, 31, 32, 16, 33, 34] [35] ([Blk.mk b11 _ _, Blk.mk b10 _ _, Blk.mk b5 _ _, Blk.mk b4 _ _, Blk.mk b3 _ _]) _ mixed (by kernel_rfl) (by repeat (first | exact zs0 _ | exact zs1 _ | apply zs2 | apply zs3 | apply zs4 | apply zs5)) (by (repeat (first | apply List.Sublist.cons (a := Blk.mk b11 _ _) | apply List.Sublist.cons_cons)); exact List.Sublist.refl _) ?_
      refine qde ?_
      refine DJ3_q (yv_loadN (row := [_, _]) tb rfl rfl rfl (by repeat (first | exact zi0 | apply zi1 | apply zi2)) (by rfl) (by rfl)) rfl rfl rfl rfl ?_
      refine qbf ?_
      refine qan ?_
      refine qau ?_
      refine qan ?_
      refine qau ?_
      refine DJ3_q (by first | exact yv_index_ro tb rfl rfl rfl rfl (by first | assumption | exact zr (by simp)) (i := (a.mine.roads.l.getD k default).fr.toNat) (by first | rfl | omega | (simp; omega)) (by omega) | exact yv_index tb rfl rfl rfl rfl (i := (a.mine.roads.l.getD k default).fr.toNat) (by first | rfl | omega | (simp; omega)) (by omega)) rfl rfl rfl rfl ?_
      refine qci ?_
      refine qan ?_
      refine qau ?_
      refine qan ?_
      refine qau ?_
      refine DJ3_q (by first | exact yv_index_ro tb rfl rfl rfl rfl (by first | assumption | exact zr (by simp)) (i := (a.mine.roads.l.getD k default).to.toNat) (by first | rfl | omega | (simp; omega)) (by omega) | exact yv_index tb rfl rfl rfl rfl (i := (a.mine.roads.l.getD k default).to.toNat) (by first | rfl | omega | (simp; omega)) (by omega)) rfl rfl rfl rfl ?_
      refine qci ?_
      refine qcc ?_
      refine qde ?_
      refine DJ3_q (yv_loadN (row := [_, _]) tb rfl rfl rfl (by repeat (first | exact zi0 | apply zi1 | apply zi2)) (by rfl) (by rfl)) rfl rfl rfl rfl ?_
      refine qbf ?_
      refine qan ?_
      refine qau ?_
      refine qan ?_
      refine qau ?_
      refine DJ3_q (by first | exact yv_index_ro tb rfl rfl rfl rfl (by first | assumption | exact zr (by simp)) (i := (a.mine.roads.l.getD k default).fr.toNat) (by first | rfl | omega | (simp; omega)) (by omega) | exact yv_index tb rfl rfl rfl rfl (i := (a.mine.roads.l.getD k default).fr.toNat) (by first | rfl | omega | (simp; omega)) (by omega)) rfl rfl rfl rfl ?_
      refine qci ?_
      refine qan ?_
      refine qau ?_
      refine qan ?_
      refine qau ?_
      refine DJ3_q (by first | exact yv_index_ro tb rfl rfl rfl rfl (by first | assumption | exact zr (by simp)) (i := (a.mine.roads.l.getD k default).to.toNat) (by first | rfl | omega | (simp; omega)) (by omega) | exact yv_index tb rfl rfl rfl rfl (i := (a.mine.roads.l.getD k default).to.toNat) (by first | rfl | omega | (simp; omega)) (by omega)) rfl rfl rfl rfl ?_
      refine qci ?_
      refine qcc ?_
      refine DJ3_call rfl (lowest_tri a s _ _ _ _ hm hs hok hfo (by omega)) rfl rfl ?_
      rintro v L' R' ⟨rfl, rfl, rfl⟩
      refine qas ?_
      refine DJ3_call rfl (highest_tri a s _ _ _ _ hm hs hok hfo (by omega)) rfl rfl ?_
      rintro v L' R' ⟨rfl, rfl, rfl⟩
      refine qas ?_
      refine qcw ?_
      refine qba ?_
      refine qbg ?_
      refine DJ_nil (seqK_normal (CJ_region ?_))
      refine qbm ?_
      refine qbe ?_
      refine LJ_g (gives_buildSlice (qs := [(0, (Value.agg _).cells.toList)]) (out := [_, _]) tb rfl rfl rfl rfl rfl rfl rfl) rfl ?_
      rintro v L' R' ⟨b81, rfl, rfl, hR81⟩
      replace hR81 := hR81.symm; subst hR81
      refine LJ_g (gives_append1 (f := XSpan.cells) (a := ⟨_, _⟩) tb rfl rfl rfl rfl (w2) (by repeat (first | apply OSeg.cons | exact OSeg.here | exact OSeg.last | exact OSeg.at (by assumption) | apply OSeg.app)) (shown_own (by repeat (first | exact zi0 | apply zi1 | apply zi2)) rfl rfl) rfl (by first | omega | (simp only [List.length_cons, List.length_nil, List.length_append]; omega))) rfl ?_
      rintro v L' R' ⟨o82, rfl, hok82, rfl, rfl⟩
      refine qc4 ?_
      refine qcs ?_
      refine qaa ?_
      refine qar ?_
      refine qad ?_
      refine qav ?_
      exact q_k ⟨(k + 1, (⟨o82, _⟩ : OwL XSpan)), by dsimp only; omega, hok82, by dsimp only; rw [List.range_succ, List.map_append, w3]; simp only [List.map_cons, List.map_nil, hrf]; try rfl⟩
     ·
      have hrf : roadFlow a s b A k = nothingS := by rw [roadFlow, if_neg (by simpa using hc2), if_neg (by simpa using hc3)]
      refine CJ_skip (seqK_normal (CJ_region ?_))
      refine qbm ?_
      refine qbe ?_
      refine LJ_g (gives_buildSlice (qs := [(0, (Value.agg _).cells.toList)]) (out := [_, _]) tb rfl rfl rfl rfl rfl rfl rfl) rfl ?_
      rintro v L' R' ⟨b81, rfl, rfl, hR81⟩
      replace hR81 := hR81.symm; subst hR81
      refine LJ_g (gives_append1 (f := XSpan.cells) (a := ⟨_, _⟩) tb rfl rfl rfl rfl (w2) (by repeat (first | apply OSeg.cons | exact OSeg.here | exact OSeg.last | exact OSeg.at (by assumption) | apply OSeg.app)) (shown_own (by repeat (first | exact zi0 | apply zi1 | apply zi2)) rfl rfl) rfl (by first | omega | (simp only [List.length_cons, List.length_nil, List.length_append]; omega))) rfl ?_
      rintro v L' R' ⟨o82, rfl, hok82, rfl, rfl⟩
      refine qc4 ?_
      refine qcs ?_
      refine qaa ?_
      refine qar ?_
      refine qad ?_
      refine qav ?_
      exact q_k ⟨(k + 1, (⟨o82, _⟩ : OwL XSpan)), by dsimp only; omega, hok82, by dsimp only; rw [List.range_succ, List.map_append, w3]; simp only [List.map_cons, List.map_nil, hrf]; try rfl⟩
    ·
     have hrf : roadFlow a s b A k = ⟨0, 0⟩ := by rw [roadFlow, if_pos (by simpa using hc2)]
     refine CJ_skip (seqK_normal (CJ_region ?_))
     refine qbm ?_
     refine qbe ?_
     refine LJ_g (gives_buildSlice (qs := [(0, (Value.agg _).cells.toList)]) (out := [_, _]) tb rfl rfl rfl rfl rfl rfl rfl) rfl ?_
     rintro v L' R' ⟨b81, rfl, rfl, hR81⟩
     replace hR81 := hR81.symm; subst hR81
     refine LJ_g (gives_append1 (f := XSpan.cells) (a := ⟨_, _⟩) tb rfl rfl rfl rfl (w2) (by repeat (first | apply OSeg.cons | exact OSeg.here | exact OSeg.last | exact OSeg.at (by assumption) | apply OSeg.app)) (shown_own (by repeat (first | exact zi0 | apply zi1 | apply zi2)) rfl rfl) rfl (by first | omega | (simp only [List.length_cons, List.length_nil, List.length_append]; omega))) rfl ?_
     rintro v L' R' ⟨o82, rfl, hok82, rfl, rfl⟩
     refine qc4 ?_
     refine qcs ?_
     refine qaa ?_
     refine qar ?_
     refine qad ?_
     refine qav ?_
     exact q_k ⟨(k + 1, (⟨o82, _⟩ : OwL XSpan)), by dsimp only; omega, hok82, by dsimp only; rw [List.range_succ, List.map_append, w3]; simp only [List.map_cons, List.map_nil, hrf]; try rfl⟩
   ·
    obtain rfl : k = a.mine.roads.l.length := by omega
    refine qbk ?_
    refine qbm ?_
    refine qc4 ?_
    refine qa0 ?_
    refine q_r (L' := q.L 48 XSpan.cells ++ L) (R' := R) (res1 rfl (rv_tmp (show _ = Value.slice _ _ _ from rfl))) ?_
    exact ⟨q, rfl, w2, by rw [boundFlows, if_pos hck]; exact w3, rfl, rfl⟩
end Go.Proofs.Ytjjfpglgonpciaa
