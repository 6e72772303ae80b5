/-
  Statements about chapter 20: less known, nothing turns. By an AI agent; no person has read it.
-/
import Derived.Test.YtlgjgigciapkfaaDrawV
import Derived.Test.YtlgjgigciapkfaaApp0
set_option linter.unusedSimpArgs false
set_option linter.unusedVariables false
namespace Go.Proofs.Ytlgjgigciapkfaa
open Go.Aw Go
set_option maxRecDepth 20000
attribute [local irreducible] CJ LJ DJ Tri YV Gives seqK blockK loopK retK RV mergeK OwL.L
section
variable {A9 B9 : Prop}
theorem ycmaa (a : A9) (h : A9 → B9 := by exact LJ_q (by first | exact yv_pick_true rfl rfl | exact yv_pick_false rfl rfl | exact yv_pick rfl) rfl) : B9 := h a
theorem ycmab (a : A9) (h : A9 → B9 := by exact LJ_qg (yv_move (show _ = Value.slice _ _ _ from rfl)) rfl rfl) : B9 := h a
theorem ycmac (a : A9) (h : A9 → B9 := by exact LJ_qg (by first | exact yv_index_ro tb rfl rfl rfl rfl (by first | assumption | exact zr (by simp)) (i := e) (by first | rfl | omega | (simp; omega)) (by omega) | exact yv_index tb rfl rfl rfl rfl (i := e) (by first | rfl | omega | (simp; omega)) (by omega)) rfl rfl) : B9 := h a
theorem ycmad (a : A9) (h : A9 → B9 := by exact LJ_qg (by first | exact yv_load1_ro tb rfl rfl rfl (by first | assumption | exact zr (by simp)) (by assumption) (by rfl) | exact yv_load1 tb rfl rfl rfl (by repeat (first | exact zi0 | apply zi1 | apply zi2)) (by rfl) | exact yv_load1 tb rfl rfl rfl (by repeat (first | exact zi0 | apply zi1 | apply zi2)) (icell_get (by assumption)) | exact yv_load1 tb rfl rfl rfl (by repeat (first | exact zi0 | apply zi1 | apply zi2)) (rcell_get (fun _ => rfl) (by assumption) rfl)) rfl rfl) : B9 := h a
theorem ycmae (a : A9) (h : A9 → B9 := by exact LJ_qg (by first | exact yv_pick_true rfl rfl | exact yv_pick_false rfl rfl | exact yv_pick rfl) rfl rfl) : B9 := h a
theorem ycmaf (a : A9) (h : A9 → B9 := by exact DJ_q (yv_assign (show _ = Value.slice _ _ _ from rfl)) rfl rfl rfl) : B9 := h a
theorem ycmag (a : A9) (h : A9 → B9 := by exact DJ3_q (yv_index_ow tb ((⟨o89, l2⟩ : OwL XSpan)) _ rfl rfl ((show _ = Value.slice _ _ _ from rfl).trans (by simp only [OwL.val, hl3])) rfl (by assumption) (i := j) (by first | rfl | omega | (simp; omega)) (by first | omega | (dsimp only; omega) | (dsimp only; rw [List.length_set]; omega) | (dsimp only; simp only [List.length_set]; omega))) rfl rfl rfl rfl) : B9 := h a
theorem ycmah (a : A9) (h : A9 → B9 := by exact DJ_q (yv_loadN (row := [_, _, _, _, _, _, _, _]) tb rfl rfl rfl (by repeat (first | exact zi0 | apply zi1 | apply zi2)) (by rfl) (by rfl)) rfl rfl rfl) : B9 := h a
theorem ycmai (a : A9) (h : A9 → B9 := by exact LJ_q (yv_index_ow tb ((⟨o48, l1⟩ : OwL XMeas)) _ rfl rfl ((show _ = Value.slice _ _ _ from rfl).trans (by simp only [OwL.val, hl1])) rfl (by assumption) (i := i) (by first | rfl | omega | (simp; omega)) (by first | omega | (dsimp only; omega) | (dsimp only; rw [List.length_set]; omega) | (dsimp only; simp only [List.length_set]; omega))) rfl) : B9 := h a
theorem ycmaj (a : A9) (h : A9 → B9 := by exact LJ_q (yv_index_ow tb ((⟨o48, l1.set i ⟨me.sensor, me.time, ⟨me.span.low - by_.tmod 7, me.span.high⟩⟩⟩ : OwL XMeas)) _ rfl rfl ((show _ = Value.slice _ _ _ from rfl).trans (by simp only [OwL.val, hl2])) rfl (by assumption) (i := i) (by first | rfl | omega | (simp; omega)) (by first | omega | (dsimp only; omega) | (dsimp only; rw [List.length_set]; omega) | (dsimp only; simp only [List.length_set]; omega))) rfl) : B9 := h a
theorem ycmak (a : A9) (h : A9 → B9 := by exact DJ3_q (yv_load1_ow tb ((⟨o89, l2⟩ : OwL XSpan)) rfl rfl rfl (by repeat (first | apply OSeg.cons | exact OSeg.here | exact OSeg.last | exact OSeg.at (by assumption) | apply OSeg.app)) (by assumption) (fun _ => rfl) (by assumption) (by rfl)) rfl rfl rfl rfl) : B9 := h a
theorem ycmal (a : A9) (h : A9 → B9 := by exact LJ_q (yv_loadN (row := [_, _, _, _, _, _, _, _]) tb rfl rfl rfl (by repeat (first | exact zi0 | apply zi1 | apply zi2)) (by rfl) (by rfl)) rfl) : B9 := h a
end
theorem span_eq20 {x y : XSpan} (h1 : x.low = y.low) (h2 : x.high = y.high) : x = y := by cases x; cases y; dsimp only at h1 h2; rw [h1, h2]
def looseM (p q : Int) (m : XMeas) : XMeas := if m.span = nothingS then m else ⟨m.sensor, m.time, ⟨m.span.low - p, m.span.high + q⟩⟩
def wideX (p q : Int) (x : XSpan) : XSpan := ⟨x.low - p, x.high + q⟩
theorem saidQ_bound {x : XSens} {i : Nat} {m : XMeas} (h : SaidQ x i m) : m.span.low ≤ m.span.high ∧ (m.span = nothingS ∨ (-100000000 ≤ m.span.low ∧ m.span.high ≤ 100000000)) ∧ 0 ≤ m.time ∧ m.time ≤ 19 ∧ -1125899906842624 ≤ m.span.low ∧ m.span.high ≤ 1125899906842624 := by
  rcases h with rfl | ⟨h1, h2, r, h3⟩
  · dsimp only; omega
  · rw [h3]
    have h4 := valueR_span (s := x) (r := r)
    rcases valueR_bound (s := x) (r := r) with h5 | h5
    · rw [h5] at h4 ⊢; exact ⟨h4, .inl rfl, by omega, by omega, by decide, by decide⟩
    · refine ⟨h4, .inr h5, by omega, by omega, by omega, by omega⟩
theorem looseM_ok {x : XSens} {i : Nat} {m : XMeas} {p q : Int} (h : SaidQ x i m) (hp : 0 ≤ p ∧ p ≤ 20) (hq : 0 ≤ q ∧ q ≤ 20) : MLoose m (looseM p q m) ∧ MeasOk (looseM p q m) := by
  have hb := saidQ_bound h
  rw [looseM]
  split
  · exact ⟨⟨rfl, rfl, .inl rfl⟩, h.ok⟩
  · rename_i hn
    have h2 : -100000000 ≤ m.span.low ∧ m.span.high ≤ 100000000 := hb.2.1.resolve_left hn
    refine ⟨⟨rfl, rfl, .inr ⟨⟨hb.1, ?_, ?_⟩, ?_, ?_⟩⟩, ?_⟩
    · dsimp only; omega
    · dsimp only; omega
    · dsimp only; omega
    · dsimp only; omega
    · rw [MeasOk]; dsimp only; omega

set_option maxHeartbeats 4000000 in
theorem cutoffWider_law (y : Arr Int) (by_ t : Int) (R : List Sl) (hy : CodesR y R) (hby : 0 ≤ by_ ∧ by_ ≤ 255) (ht : 0 ≤ t ∧ t ≤ 255) :
    Tri Try.prog 7 [y.val, .int .u8 by_, .int .u8 t].toArray [] R (fun v L' R' => v = .bool true ∧ [] = L' ∧ R = R') := by
  have r7 : 0 ≤ by_.tmod 7 ∧ by_.tmod 7 ≤ 6 := ⟨Int.tmod_nonneg _ hby.1, by have := Int.tmod_lt_of_pos by_ (show (0 : Int) < 7 by decide); omega⟩
  have r5 : 0 ≤ by_.tmod 5 ∧ by_.tmod 5 ≤ 4 := ⟨Int.tmod_nonneg _ hby.1, by have := Int.tmod_lt_of_pos by_ (show (0 : Int) < 5 by decide); omega⟩
  have r9 : 0 ≤ by_.tmod 9 ∧ by_.tmod 9 ≤ 8 := ⟨Int.tmod_nonneg _ hby.1, by have := Int.tmod_lt_of_pos by_ (show (0 : Int) < 9 by decide); omega⟩
  have r4 : 0 ≤ by_.tmod 4 ∧ by_.tmod 4 ≤ 3 := ⟨Int.tmod_nonneg _ hby.1, by have := Int.tmod_lt_of_pos by_ (show (0 : Int) < 4 by decide); omega⟩
  refine tri_enter 225 Try.call7 Try.func7 rfl rfl rfl ?_
  refine qae ?_
  refine qaz ?_
  refine qam ?_
  refine qbm ?_
  refine LJ_call rfl (new_tri y _ _ hy) rfl ?_
  rintro v L' R' ⟨c, rfl, hx, rfl, rfl⟩
  refine qc1 ?_
  refine qam ?_
  refine qa6 ?_
  refine LJ_call rfl (drawSite_tri c (codes300 y) 0 _ hx (Nat.zero_le _)) rfl ?_
  rintro v L' R' ⟨s, u, z, k1, rfl, hD, hk1, ⟨hs, hu, hz, hR0⟩, rfl⟩
  refine LJ_q (yv_move rfl) rfl ?_
  iterate 3 refine qbs ?_
  refine qaq ?_
  intro b8
  refine qaq ?_
  intro b9
  refine qaq ?_
  intro b10
  iterate 3 refine qak ?_
  refine qa4 ?_
  have hRR : ∀ r ∈ R, InR r R' := fun r hr => hR0 r (.tail _ hr)
  have hx1 := hx.mono hR0
  have hF := hD.air.flows
  have hfn := hF.flen
  have hn0 := hD.nsens
  have hn1 := hD.ncond
  have hn2 := hD.nzone
  have hn3 := hD.air.nroads
  refine CJ_weak (L' := ⟨b10, z.cells, 42⟩ :: ⟨b8, s.cells, 36⟩ :: cblk c (codes300 y) k1 :: []) (R' := R') (.cons_cons _ (.cons _ (List.Sublist.refl _))) (allR_self _) ?_
  refine CJ_drawn tb [0, 1, 3, 4, 6, 7, 8, 2, 5, 9, 10, 11, 12] ([Blk.mk b10 _ _, Blk.mk b8 _ _]) mixed (by kernel_rfl) (by repeat (first | exact zs0 _ | exact zs1 _ | apply zs2 | apply zs3 | apply zs4 | apply zs5)) ?_
  refine qb8 ?_
  refine ycmah ?_
  refine qb8 ?_
  refine ycmah ?_
  refine qb8 ?_
  refine qal ?_
  refine qat ?_
  refine DJ_call rfl (Tri.spl (.consB (.consB (.consL .nil))) (said_tri c (codes300 y) k1 s _ hx1 hk1 hs.sensors (by omega))) rfl rfl ?_
  rintro v L' R' ⟨_, rfl, m, k2, rfl, hmk, hm, hk2, rfl, rfl⟩
  refine qas ?_
  simp only [List.append_assoc, List.cons_append, List.nil_append, List.append_nil]
  refine DJ_call rfl (Tri.spl (.consB (.consB (.appB (.consL .nil)))) (watched_tri c (codes300 y) k2 s _ hx1 hk2 (by omega))) rfl rfl ?_
  rintro v L' R' ⟨_, rfl, w, k3, rfl, hwk, hw, hk3, rfl, rfl⟩
  refine qas ?_
  simp only [List.append_assoc, List.cons_append, List.nil_append, List.append_nil]
  refine DJ_call rfl (Tri.spl (.consB (.consB (.appB (.appB (.consL .nil))))) (drawSpans_tri c (codes300 y) k3 z.flows _ hx1 hk3 hz.flows (fun q hq => by have := hF.flow q hq; omega) (by omega))) rfl rfl ?_
  rintro v L' R' ⟨_, rfl, l, k4, rfl, hlk, hlN, hk4, rfl, rfl⟩
  refine qas ?_
  simp only [List.append_assoc, List.cons_append, List.nil_append, List.append_nil]
  iterate 3 refine ycmaf ?_
  refine qb9 ?_
  refine CJ_frz1 (A := [_, _]) (wd := 4) [] (fun _ => rfl) (by decide) hmk (fun s hs => by cases hs) ?_
  refine qb1 ?_
  refine CJ_frz1 (A := [_, _]) (wd := 3) [] (fun _ => rfl) (by decide) hwk (fun s hs => by cases hs) ?_
  refine qb1 ?_
  refine CJ_frz1 (A := [_, _]) (wd := 2) [] (fun _ => rfl) (by decide) hlk (fun s hs => by cases hs) ?_
  refine qb1 ?_
  obtain ⟨R2, hR2e⟩ : ∃ R2, R2 = spsl l.arr :: wasl w.arr :: mesl m.arr :: R' := ⟨_, rfl⟩
  have hR2 : ∀ r ∈ R', InR r R2 := fun r hr => inR_self (by rw [hR2e]; exact .tail _ (.tail _ (.tail _ hr)))
  have hlR : InR (spsl l.arr) R2 := inR_self (by rw [hR2e]; exact .head _)
  have hwR : InR (wasl w.arr) R2 := inR_self (by rw [hR2e]; exact .tail _ (.head _))
  have hmR : InR (mesl m.arr) R2 := inR_self (by rw [hR2e]; exact .tail _ (.tail _ (.head _)))
  have hs2 := hs.mono hR2
  have hx2 := hx1.mono hR2
  have hzR := hs2.zones
  have hcR := hs2.conds
  have hve := drawn_vals hD (t := 20 + t) hm.len hw (hlN.len.trans hfn) (by omega)
  have hvl := valuesV_len hve
  refine CJ_R (show _ = R2 by rw [hR2e]) ?_
  refine CJ_weak (L' := ⟨b8, s.cells, 36⟩ :: cblk c (codes300 y) k4 :: []) (R' := R2) (.cons _ (List.Sublist.refl _)) (allR_self _) ?_
  refine qay ?_
  refine qaa ?_
  refine qdg ?_
  refine qar ?_
  refine qad ?_
  refine qa4 ?_
  have hmn : m.arr.l.length = s.sensors.l.length := hm.len
  have hln : l.arr.l.length = s.air.mine.roads.l.length := hlN.len.trans hfn
  have hmn' : m.l.length = s.sensors.l.length := hmn
  have hln' : l.l.length = s.air.mine.roads.l.length := hln
  refine qay ?_
  refine qbm ?_
  refine LJ_g (gives_copy (f := XMeas.cells) (xs := m.arr) tb rfl rfl rfl (by decide) rfl rfl (hmR) (fun _ => rfl) (by omega)) rfl ?_
  rintro v L' R' ⟨o48, rfl, hok48, rfl, rfl⟩
  refine qc4 ?_
  refine qaw ?_
  refine qbm ?_
  refine qag ?_
  refine qaa ?_
  refine qa2 ?_
  refine CJ_forget [(1, Value.int _ _), (8, Value.pointer _), (11, Value.slice _ _ _), (12, Value.slice _ _ _), (13, Value.slice _ _ _), (14, Value.int _ _), (15, Value.slice _ _ _), (50, Value.int _ _), (51, Value.int _ _)] (by repeat' (first | exact trivial | refine And.intro rfl ?_)) fun tq0 => ?_
  refine CJ_loop [16, 51, 52, 53, 54, 55, 56, 57, 58, 59, 60, 61, 62, 63, 64, 65, 66, 67, 68, 69, 70, 71, 72, 73, 74, 75, 76, 77, 78, 79, 80, 81, 82, 83, 84, 85, 86, 87] ((⟨fun g => [(51, .int .i64 ((g.1.1 : Nat) : Int))], fun g => (⟨o48, g.1.2⟩ : OwL XMeas).L 88 XMeas.cells ++ (⟨b8, s.cells, 36⟩ :: cblk c (codes300 y) k4 :: []), fun _ => R2, fun g => m.l.length - g.1.1⟩ : Head {g : Nat × List XMeas // g.1 ≤ m.l.length ∧ WrO m.l (fun j => looseM (by_.tmod 7) (by_.tmod 5) (m.l.getD j default)) g.1 g.2})) (⟨(0, m.l), by dsimp only; omega, .zero⟩) (by repeat' (first | exact trivial | refine And.intro rfl ?_)) (List.Sublist.refl _) (allR_self _) ?_
  rintro ⟨⟨i, l1⟩, hi, hW⟩ junk
  try dsimp only
  dsimp only at hi hW
  have hl1 : l1.length = m.l.length := hW.len
  have hk1 : (⟨o48, l1⟩ : OwL XMeas).ok 4 XMeas.cells := OwL.len_ok (fun _ => rfl) hok48 hl1
  refine qae ?_
  refine qaj ?_
  refine qa4 ?_
  refine q_c (fun hc0 => ?_) (fun hc0 => ?_)
  ·
   have hmg := get_D (l := m.l) (k := i) default (by omega)
   have hlg := hW.old i (Nat.le_refl _)
   rw [hmg] at hlg
   have hWn := fun (v : XMeas) => hW.next (x := v) (by omega)
   have hWs := hW.stay
   have hsd := saidQ_bound (hm.at_ i (by have := hm.len; omega))
   obtain ⟨me, hme⟩ : ∃ me, me = m.l.getD i default := ⟨_, rfl⟩
   rw [← hme] at hmg hlg hWn hsd
   refine qbb ?_
   refine qaa ?_
   refine qad ?_
   refine qa4 ?_
   refine CJ_drawn tb [0, 1, 2, 3, 4, 5, 6] _ mixed (by kernel_rfl) (List.Sublist.refl _) ?_
   refine DJ_q (yv_move (show _ = Value.slice _ _ _ from rfl)) rfl rfl rfl ?_
   refine qao ?_
   refine DJ_q (yv_index_ow tb ((⟨o48, l1⟩ : OwL XMeas)) _ rfl rfl ((show _ = Value.slice _ _ _ from rfl).trans (by simp only [OwL.val, hl1])) rfl (by assumption) (i := i) (by first | rfl | omega | (simp; omega)) (by first | omega | (dsimp only; omega) | (dsimp only; rw [List.length_set]; omega) | (dsimp only; simp only [List.length_set]; omega))) rfl rfl rfl ?_
   refine qce ?_
   refine DJ_q (yv_loadN_ow (row := [_, _]) tb ((⟨o48, l1⟩ : OwL XMeas)) rfl rfl rfl (by repeat (first | apply OSeg.cons | exact OSeg.here | exact OSeg.last | exact OSeg.at (by assumption) | apply OSeg.app)) (by assumption) (fun _ => rfl) (by assumption) (by rfl) (by rfl)) rfl rfl rfl ?_
   refine q_d rfl (nothing_tri _ _) ?_
   refine DJ_q (yv_neq_span spanEq rfl rfl) rfl rfl rfl ?_
   refine qbu ?_
   refine q_c (fun hc1 => ?_) (fun hc1 => ?_)
   ·
    have hns : ¬ me.span = nothingS := fun h => hc1.elim (fun e => e (by rw [h])) (fun e => e (by rw [h]))
    have hb2 := hsd.2.1.resolve_left hns
    refine qae ?_
    refine qbm ?_
    refine qaa ?_
    refine ycmai ?_
    refine qb0 ?_
    refine qb0 ?_
    refine LJ_q (yv_load1_ow tb ((⟨o48, l1⟩ : OwL XMeas)) rfl rfl rfl (by repeat (first | apply OSeg.cons | exact OSeg.here | exact OSeg.last | exact OSeg.at (by assumption) | apply OSeg.app)) (by assumption) (fun _ => rfl) (by assumption) (by rfl)) rfl ?_
    refine qaa ?_
    refine qdg ?_
    refine qda ?_
    refine qa9 ?_
    refine ycmai ?_
    refine qb0 ?_
    refine qb0 ?_
    refine LJ_g0 (gives_store1_ow tb ((⟨o48, l1⟩ : OwL XMeas)) (⟨me.sensor, me.time, ⟨me.span.low - by_.tmod 7, me.span.high⟩⟩) rfl rfl rfl rfl (by repeat (first | apply OSeg.cons | exact OSeg.here | exact OSeg.last | exact OSeg.at (by assumption) | apply OSeg.app)) (by assumption) (fun _ => rfl) (by assumption) (by decide) (by rfl) (by rfl)) ?_
    rintro v L' R' ⟨rfl, rfl⟩
    refine qaf ?_
    have hl2 : (l1.set i ⟨me.sensor, me.time, ⟨me.span.low - by_.tmod 7, me.span.high⟩⟩).length = m.l.length := by rw [List.length_set]; exact hl1
    have hk2 : (⟨o48, l1.set i ⟨me.sensor, me.time, ⟨me.span.low - by_.tmod 7, me.span.high⟩⟩⟩ : OwL XMeas).ok 4 XMeas.cells := OwL.len_ok (fun _ => rfl) hok48 hl2
    have hlg2 : (l1.set i ⟨me.sensor, me.time, ⟨me.span.low - by_.tmod 7, me.span.high⟩⟩)[i]? = some ⟨me.sensor, me.time, ⟨me.span.low - by_.tmod 7, me.span.high⟩⟩ := by rw [List.getElem?_set_self (by omega)]
    refine qay ?_
    refine qbm ?_
    refine qaa ?_
    refine ycmaj ?_
    refine qb0 ?_
    refine qb0 ?_
    refine LJ_q (yv_load1_ow tb ((⟨o48, l1.set i ⟨me.sensor, me.time, ⟨me.span.low - by_.tmod 7, me.span.high⟩⟩⟩ : OwL XMeas)) rfl rfl rfl (by repeat (first | apply OSeg.cons | exact OSeg.here | exact OSeg.last | exact OSeg.at (by assumption) | apply OSeg.app)) (by assumption) (fun _ => rfl) (by assumption) (by rfl)) rfl ?_
    refine qaa ?_
    refine qdg ?_
    refine qda ?_
    refine LJ_q (yv_add64 rfl rfl (by dsimp only; omega) (by dsimp only; omega)) rfl ?_
    refine ycmaj ?_
    refine qb0 ?_
    refine qb0 ?_
    refine LJ_g0 (gives_store1_ow tb ((⟨o48, l1.set i ⟨me.sensor, me.time, ⟨me.span.low - by_.tmod 7, me.span.high⟩⟩⟩ : OwL XMeas)) (⟨me.sensor, me.time, ⟨me.span.low - by_.tmod 7, me.span.high + by_.tmod 5⟩⟩) rfl rfl rfl rfl (by repeat (first | apply OSeg.cons | exact OSeg.here | exact OSeg.last | exact OSeg.at (by assumption) | apply OSeg.app)) (by assumption) (fun _ => rfl) (by assumption) (by decide) (by rfl) (by rfl)) ?_
    rintro v L' R' ⟨rfl, rfl⟩
    refine qcs ?_
    refine qar ?_
    refine qaa ?_
    refine qav ?_
    exact q_k ⟨(i + 1, (l1.set i ⟨me.sensor, me.time, ⟨me.span.low - by_.tmod 7, me.span.high⟩⟩).set i ⟨me.sensor, me.time, ⟨me.span.low - by_.tmod 7, me.span.high + by_.tmod 5⟩⟩), by dsimp only; omega, by dsimp only; rw [List.set_set]; exact hWn _ (by rw [looseM, if_neg hns])⟩
   refine qbj ?_
   refine qar ?_
   refine qaa ?_
   refine qav ?_
   exact q_k ⟨(i + 1, l1), by dsimp only; omega, hWs (by rw [hmg]; show some me = some (looseM _ _ (m.l.getD i default)); rw [← hme, looseM, if_pos (span_eq20 hc1.1 hc1.2)])⟩
  refine qbk ?_
  refine qbm ?_
  refine LJ_g (gives_copy (f := XSpan.cells) (xs := l.arr) tb rfl rfl rfl (by decide) rfl rfl (hlR) (fun _ => rfl) (by omega)) rfl ?_
  rintro v L' R' ⟨o89, rfl, hok89, rfl, rfl⟩
  refine qc4 ?_
  refine qaw ?_
  refine qbm ?_
  refine qag ?_
  refine qaa ?_
  refine qa2 ?_
  refine CJ_forget [(1, Value.int _ _), (8, Value.pointer _), (11, Value.slice _ _ _), (12, Value.slice _ _ _), (13, Value.slice _ _ _), (14, Value.int _ _), (15, Value.slice _ _ _), (17, Value.slice _ _ _), (91, Value.int _ _), (92, Value.int _ _)] (by repeat' (first | exact trivial | refine And.intro rfl ?_)) fun tq1 => ?_
  refine CJ_loop [18, 92, 93, 94, 95, 96, 97, 98, 99, 100, 101, 102, 103, 104, 105, 106, 107, 108, 109, 110, 111, 112, 113, 114, 115, 116, 117, 118, 119, 120, 121] ((⟨fun g => [(92, .int .i64 ((g.1.1 : Nat) : Int))], fun g => (⟨o89, g.1.2⟩ : OwL XSpan).L 59 XSpan.cells ++ ((⟨o48, l1⟩ : OwL XMeas).L 88 XMeas.cells ++ (⟨b8, s.cells, 36⟩ :: cblk c (codes300 y) k4 :: [])), fun _ => R2, fun g => l.l.length - g.1.1⟩ : Head {g : Nat × List XSpan // g.1 ≤ l.l.length ∧ WrO l.l (fun j => wideX (by_.tmod 9) (by_.tmod 4) (l.l.getD j default)) g.1 g.2})) (⟨(0, l.l), by dsimp only; omega, .zero⟩) (by repeat' (first | exact trivial | refine And.intro rfl ?_)) (List.Sublist.refl _) (allR_self _) ?_
  rintro ⟨⟨j, l2⟩, hj, hX⟩ junk
  try dsimp only
  dsimp only at hj hX
  have hl3 : l2.length = l.l.length := hX.len
  have hk3 : (⟨o89, l2⟩ : OwL XSpan).ok 2 XSpan.cells := OwL.len_ok (fun _ => rfl) hok89 hl3
  refine qae ?_
  refine qaj ?_
  refine qa4 ?_
  refine q_c (fun hc2 => ?_) (fun hc2 => ?_)
  ·
   have hpg := get_D (l := l.l) (k := j) default (by omega)
   have hqg := hX.old j (Nat.le_refl _)
   rw [hpg] at hqg
   have hXn := fun (v : XSpan) => hX.next (x := v) (by omega)
   have hnb := hlN.at_ j _ hpg
   have hzb := hF.flow (z.flows.l.getD j 0) (List.mem_of_getElem? (get_D (l := z.flows.l) (k := j) 0 (by omega)))
   obtain ⟨sp, hsp⟩ : ∃ sp, sp = l.l.getD j default := ⟨_, rfl⟩
   rw [← hsp] at hpg hqg hXn hnb
   have hk5 : (⟨o89, l2.set j ⟨sp.low - by_.tmod 9, sp.high⟩⟩ : OwL XSpan).ok 2 XSpan.cells := OwL.len_ok (fun _ => rfl) hok89 (by rw [List.length_set]; exact hl3)
   have hqg2 : (l2.set j ⟨sp.low - by_.tmod 9, sp.high⟩)[j]? = some ⟨sp.low - by_.tmod 9, sp.high⟩ := by rw [List.getElem?_set_self (by omega)]
   refine qbb ?_
   refine qaa ?_
   refine qad ?_
   refine qaf ?_
   refine CJ_drawn2 tb [97, 98, 113, 114, 115, 116] [0, 1, 2, 3, 4, 5, 6, 7, 8, 9, 10, 11, 12, 13, 14, 15, 16, 17, 18, 19, 20, 21, 22, 23] [24, 25, 26, 27] (_) _ mixed (by kernel_rfl) (by repeat (first | exact zs0 _ | exact zs1 _ | apply zs2 | apply zs3 | apply zs4 | apply zs5)) (List.nil_sublist _) ?_
   refine qct ?_
   refine qbf ?_
   refine DJ3_ql (yv_move (show _ = Value.slice _ _ _ from rfl)) rfl rfl rfl rfl ?_
   refine DJ3_ql (yv_move (show _ = Value.int _ _ from rfl)) rfl rfl rfl rfl ?_
   refine qct ?_
   refine qbf ?_
   refine ycmag ?_
   refine qcv ?_
   refine ycmak ?_
   refine qbf ?_
   refine DJ3_q (by first | exact yv_convert64 tb rfl rfl rfl (by omega) (by omega) | exact yv_convertU tb rfl rfl rfl (by omega) (by omega) | exact yv_convert tb rfl rfl rfl) rfl rfl rfl rfl ?_
   refine DJ3_q (by first | exact yv_remU rfl rfl (by omega) (by omega) | exact yv_rem rfl rfl (by omega)) rfl rfl rfl rfl ?_
   refine qcc ?_
   refine qct ?_
   refine qbf ?_
   refine ycmag ?_
   refine qcv ?_
   refine ycmak ?_
   refine DJ3_ql (yv_move (show _ = Value.int _ _ from rfl)) rfl rfl rfl rfl ?_
   refine DJ3_ql (by first | exact yv_convert64 tb rfl rfl rfl (by omega) (by omega) | exact yv_convertU tb rfl rfl rfl (by omega) (by omega) | exact yv_convert tb rfl rfl rfl) rfl rfl rfl rfl ?_
   refine DJ3_ql (by first | exact yv_remU rfl rfl (by omega) (by omega) | exact yv_rem rfl rfl (by omega)) rfl rfl rfl rfl ?_
   refine DJ3_ql (by first | exact yv_add64 rfl rfl (by omega) (by omega) | exact yv_addU rfl rfl (by omega) (by omega) | exact yv_add rfl rfl) rfl rfl rfl rfl ?_
   refine ycmag ?_
   refine qcv ?_
   refine qba ?_
   refine DJ_g0 (gives_store1_ow tb ((⟨o89, l2⟩ : OwL XSpan)) (⟨sp.low - by_.tmod 9, sp.high⟩) rfl rfl rfl rfl (by repeat (first | apply OSeg.cons | exact OSeg.here | exact OSeg.last | exact OSeg.at (by assumption) | apply OSeg.app)) (by assumption) (fun _ => rfl) (by assumption) (by decide) (by rfl) (by rfl)) rfl rfl ?_
   rintro v L' R' ⟨rfl, rfl⟩
   refine qa1 ?_
   refine DJ_q (yv_index_ow tb ((⟨o89, l2⟩ : OwL XSpan)) _ rfl rfl ((show _ = Value.slice _ _ _ from rfl).trans (by simp only [OwL.val, hl3])) rfl (by assumption) (i := j) (by first | rfl | omega | (simp; omega)) (by first | omega | (dsimp only; omega) | (dsimp only; rw [List.length_set]; omega) | (dsimp only; simp only [List.length_set]; omega))) rfl rfl rfl ?_
   refine qce ?_
   refine DJ_g0 (gives_store1_ow tb ((⟨o89, l2.set j ⟨sp.low - by_.tmod 9, sp.high⟩⟩ : OwL XSpan)) (⟨sp.low - by_.tmod 9, sp.high + by_.tmod 4⟩) rfl rfl rfl rfl (by repeat (first | apply OSeg.cons | exact OSeg.here | exact OSeg.last | exact OSeg.at (by assumption) | apply OSeg.app)) (by assumption) (fun _ => rfl) (by assumption) (by decide) (by rfl) (by rfl)) rfl rfl ?_
   rintro v L' R' ⟨rfl, rfl⟩
   refine qa1 ?_
   refine qby ?_
   refine qar ?_
   refine qaa ?_
   refine qav ?_
   exact q_k ⟨(j + 1, (l2.set j ⟨sp.low - by_.tmod 9, sp.high⟩).set j ⟨sp.low - by_.tmod 9, sp.high + by_.tmod 4⟩), by dsimp only; omega, by dsimp only; rw [List.set_set]; exact hXn _ rfl⟩
  refine qc3 ?_
  have hk3 : (⟨o89, l2⟩ : OwL XSpan).ok 2 XSpan.cells := OwL.len_ok (fun _ => rfl) hok89 hX.len
  have hk1 : (⟨o48, l1⟩ : OwL XMeas).ok 4 XMeas.cells := OwL.len_ok (fun _ => rfl) hok48 hW.len
  have hl1 : l1.length = m.l.length := hW.len
  have hl3 : l2.length = l.l.length := hX.len
  obtain rfl : i = m.l.length := by omega
  obtain rfl : j = l.l.length := by omega
  refine CJ_frzS (T := 59) (f := XSpan.cells) (wd := 2) (⟨o89, l2⟩ : OwL XSpan) [] (by repeat (first | apply OSeg.cons | exact OSeg.here | exact OSeg.last | exact OSeg.at (by assumption) | apply OSeg.app)) (fun _ => rfl) (by decide) hk3 (fun s hs => by cases hs) ?_
  refine CJ_frzS (T := 88) (f := XMeas.cells) (wd := 4) (⟨o48, l1⟩ : OwL XMeas) [] (by repeat (first | apply OSeg.cons | exact OSeg.here | exact OSeg.last | exact OSeg.at (by assumption) | apply OSeg.app)) (fun _ => rfl) (by decide) hk1 (fun s hs => by cases hs) ?_
  refine CJ_weak (L' := ⟨b8, s.cells, 36⟩ :: []) (by repeat (first | exact zs0 _ | exact zs1 _ | apply zs2 | apply zs3 | apply zs4 | apply zs5)) (allR_self _) ?_
  obtain ⟨R3, hR3e⟩ : ∃ R3, R3 = mesl (⟨o48, l1⟩ : OwL XMeas).arr :: spsl (⟨o89, l2⟩ : OwL XSpan).arr :: R2 := ⟨_, rfl⟩
  have hR3 : ∀ r ∈ R2, InR r R3 := fun r hr => inR_self (by rw [hR3e]; exact .tail _ (.tail _ hr))
  have hm2R : InR (mesl (⟨o48, l1⟩ : OwL XMeas).arr) R3 := inR_self (by rw [hR3e]; exact .head _)
  have hl2R : InR (spsl (⟨o89, l2⟩ : OwL XSpan).arr) R3 := inR_self (by rw [hR3e]; exact .tail _ (.head _))
  have hs3 := hs2.mono hR3
  have hmat : ∀ i : Nat, i < m.l.length → MLoose (m.l.getD i default) (l1.getD i default) ∧ MeasOk (l1.getD i default) := fun i hi => by
    rw [getD_some (hW.don i hi)]
    exact looseM_ok (hm.at_ i (by omega)) (by omega) (by omega)
  have hlat : ∀ i : Nat, i < l.l.length → Wd (l.l.getD i default) (l2.getD i default) := fun i hi => by
    rw [getD_some (hX.don i hi)]
    have := hlN.at_ i _ (get_D (l := l.l) (k := i) default hi)
    rw [wideX]
    refine ⟨by omega, ?_, ?_⟩ <;> dsimp only <;> omega
  have hm1ok : ∀ x ∈ l1, MeasOk x := fun x hx => by
    obtain ⟨i, hi, rfl⟩ := List.mem_iff_getElem.1 hx
    have := (hmat i (by omega)).2
    rwa [List.getD_eq_getElem?_getD, List.getElem?_eq_getElem hi] at this
  have hve2 := drawn_vals hD (m := l1) (w := w.l) (fl := l2) (t := 20 + t) (by omega) hw (by omega) (by omega)
  have hvl2 := valuesV_len hve2
  refine CJ_R (show _ = R3 by rw [hR3e]) ?_
  refine qay ?_
  refine ycmal ?_
  iterate 3 refine qbm ?_
  refine qaa ?_
  refine LJ_call rfl (values_tri s m.arr w.arr l.arr (20 + t) _ _ ⟨hs3, hmR.mono hR3, hwR.mono hR3, hlR.mono hR3, hm.ok⟩) rfl ?_
  rintro v L' R' ⟨p, p', rfl, ⟨hpk, hpk'⟩, hpl, hpl', rfl, rfl⟩
  dsimp only [OwL.arr] at hpl hpl' ⊢
  rw [hve]
  refine LJ_q (yv_move rfl) rfl ?_
  iterate 3 refine qbs ?_
  refine qc4 ?_
  refine qc4 ?_
  refine qad ?_
  refine qa4 ?_
  refine CJ_frz1 (A := []) (wd := 1) [] (fun _ => rfl) (by decide) hpk (fun s hs => by cases hs) ?_
  refine CJ_L (by simp only [List.nil_append]; rfl) ?_
  refine CJ_frz1 (A := []) (wd := 3) [] (fun _ => rfl) (by decide) hpk' (fun s hs => by cases hs) ?_
  refine CJ_L (by simp only [List.nil_append]; rfl) ?_
  obtain ⟨R4, hR4e⟩ : ∃ R4, R4 = wasl p'.arr :: isl p.arr :: R3 := ⟨_, rfl⟩
  have hR4 : ∀ r ∈ R3, InR r R4 := fun r hr => inR_self (by rw [hR4e]; exact .tail _ (.tail _ hr))
  have hs4 := hs3.mono hR4
  have hpR' : InR (wasl p'.arr) R4 := inR_self (by rw [hR4e]; exact .head _)
  have hpR : InR (isl p.arr) R4 := inR_self (by rw [hR4e]; exact .tail _ (.head _))
  refine CJ_R (show _ = R4 by rw [hR4e]) ?_
  refine qay ?_
  refine ycmal ?_
  iterate 3 refine qbm ?_
  refine qaa ?_
  refine LJ_call rfl (Tri.cast (values_tri s (⟨o48, l1⟩ : OwL XMeas).arr w.arr (⟨o89, l2⟩ : OwL XSpan).arr (20 + t) _ _ ⟨hs4, hm2R.mono hR4, (hwR.mono hR3).mono hR4, hl2R.mono hR4, hm1ok⟩) (by dsimp only [OwL.arr, Arr.val, OwL.val]; rw [hl1, hl3]; rfl)) rfl ?_
  rintro v L' R' ⟨q, q', rfl, ⟨hqk, hqk'⟩, hql, hql', rfl, rfl⟩
  dsimp only [OwL.arr] at hql hql' ⊢
  rw [hve2]
  refine LJ_q (yv_move rfl) rfl ?_
  iterate 3 refine qbs ?_
  refine qc4 ?_
  refine qc4 ?_
  refine qad ?_
  refine qco ?_
  refine CJ_frz1 (A := []) (wd := 1) [] (fun _ => rfl) (by decide) hqk (fun s hs => by cases hs) ?_
  refine CJ_L (by simp only [List.nil_append]; rfl) ?_
  refine CJ_frz1 (A := []) (wd := 3) [] (fun _ => rfl) (by decide) hqk' (fun s hs => by cases hs) ?_
  refine CJ_L (by simp only [List.nil_append]; rfl) ?_
  obtain ⟨R5, hR5e⟩ : ∃ R5, R5 = wasl q'.arr :: isl q.arr :: R4 := ⟨_, rfl⟩
  have hR5 : ∀ r ∈ R4, InR r R5 := fun r hr => inR_self (by rw [hR5e]; exact .tail _ (.tail _ hr))
  have hqR' : InR (wasl q'.arr) R5 := inR_self (by rw [hR5e]; exact .head _)
  have hqR : InR (isl q.arr) R5 := inR_self (by rw [hR5e]; exact .tail _ (.head _))
  have hpR5 := hpR.mono hR5
  have hpR5' := hpR'.mono hR5
  have hcR5 := (hs4.mono hR5).conds
  have fin : ∀ r ∈ R, InR r R5 := fun r hr => ((((hRR r hr).mono hR2).mono hR3).mono hR4).mono hR5
  have hpn : p.l.length = s.conds.l.length := by rw [hpl, hvl.1]; exact hw.1
  have hpn' : p'.l.length = s.conds.l.length := by rw [hpl', hvl.2.1]; exact hw.1
  have hqn : q.l.length = s.conds.l.length := by rw [hql, hvl2.1]; exact hw.1
  have hqn' : q'.l.length = s.conds.l.length := by rw [hql', hvl2.2.1]; exact hw.1
  refine CJ_R (show _ = R5 by rw [hR5e]) ?_
  refine qay ?_
  refine qaa ?_
  refine qbq ?_
  refine qah ?_
  apply LJ_or (G := [_, _]) (j := 2) (cj := 144) rfl rfl (by rfl) rfl (show _ = Value.bool _ from rfl) rfl
  ·
   intro hg3
   replace hg3 := qb hg3
   refine qaa ?_
   refine qbq ?_
   exact qai
  intro junk3
  refine qah ?_
  apply LJ_or (G := [_, _, _, _, _, _]) (j := 6) (cj := 148) rfl rfl (by rfl) rfl (show _ = Value.bool _ from rfl) rfl
  ·
   intro hg7
   replace hg7 := qb hg7
   refine qbm ?_
   refine qag ?_
   refine qab ?_
   refine qac ?_
   refine qag ?_
   refine qbq ?_
   exact qai
  intro junk7
  refine qah ?_
  apply LJ_or (G := [_, _, _, _, _]) (j := 14) (cj := 156) rfl rfl (by rfl) rfl (show _ = Value.bool _ from rfl) rfl
  ·
   intro hg15
   replace hg15 := qb hg15
   refine qbm ?_
   refine qag ?_
   refine qbm ?_
   refine qag ?_
   refine qbq ?_
   exact qai
  intro junk15
  refine qah ?_
  apply LJ_or (G := [_, _, _, _, _]) (j := 21) (cj := 163) rfl rfl (by rfl) rfl (show _ = Value.bool _ from rfl) rfl
  ·
   intro hg22
   replace hg22 := qb hg22
   refine qbm ?_
   refine qag ?_
   refine qbm ?_
   refine qag ?_
   refine qbq ?_
   exact qai
  intro junk22
  refine qah ?_
  apply LJ_or (G := [_, _, _, _, _]) (j := 28) (cj := 170) rfl rfl (by rfl) rfl (show _ = Value.bool _ from rfl) rfl
  ·
   intro hg29
   replace hg29 := qb hg29
   refine qbm ?_
   refine qag ?_
   refine qbm ?_
   refine qag ?_
   refine qbq ?_
   exact qai
  intro junk29
  refine qaf ?_
  refine q_c (fun hc3 => ?_) (fun hc3 => ?_)
  ·
   (exfalso; simp at hc3; omega)
  refine qbo ?_
  refine qbm ?_
  refine qag ?_
  refine qaa ?_
  refine qa2 ?_
  refine CJ_forget [(19, Value.slice _ _ _), (20, Value.slice _ _ _), (22, Value.slice _ _ _), (23, Value.slice _ _ _), (178, Value.int _ _), (179, Value.int _ _)] (by repeat' (first | exact trivial | refine And.intro rfl ?_)) fun tq2 => ?_
  refine q_s [6, 25, 179, 180, 181, 182, 183, 184, 185, 186, 187, 188, 189, 190, 191, 192, 193, 194, 195, 196, 197, 198, 199, 200, 201, 202, 203, 204, 205, 206, 207, 208, 209, 210, 211, 212, 213, 214, 215, 216, 217, 218, 219, 220, 221, 222, 223] (fun g : {i : Nat // i ≤ p.l.length} => [(179, .int .i64 ((g.1 : Nat) : Int))]) (fun g => p.l.length - g.1) (⟨0, by omega⟩) ?_
  rintro ⟨e, he⟩ junk
  try dsimp only
  refine qae ?_
  refine qaj ?_
  refine qa4 ?_
  refine q_c (fun hc4 => ?_) (fun hc4 => ?_)
  ·
   have hew : e < w.l.length := by have := hw.1; omega
   have hpg := hvl.2.2.1 e hew
   have hpg' := hvl.2.2.2 e hew
   have hqg := hvl2.2.2.1 e hew
   have hqg' := hvl2.2.2.2 e hew
   rw [← hpl] at hpg
   rw [← hpl'] at hpg'
   rw [← hql] at hqg
   rw [← hql'] at hqg'
   have hV := valueV_loose (S := s.sensors.l) (c := s.conds.l.getD e default) (w := w.l.getD e default) (t := 20 + t) hl1 (fun i hi => (hmat i hi).1) hl3 hlat
   have hO := valueW_loose (S := s.sensors.l) (c := s.conds.l.getD e default) (w := w.l.getD e default) (t := 20 + t) hl1 (fun i hi => (hmat i hi).1)
   dsimp only [valF, watF] at hpg hpg' hqg hqg'
   generalize valueV s.sensors.l m.l l.l (s.conds.l.getD e default) (w.l.getD e default) (20 + t) = v1 at *
   generalize valueV s.sensors.l l1 l2 (s.conds.l.getD e default) (w.l.getD e default) (20 + t) = v2 at *
   generalize valueW s.sensors.l m.l (s.conds.l.getD e default) (w.l.getD e default) (20 + t) = w1 at *
   generalize valueW s.sensors.l l1 (s.conds.l.getD e default) (w.l.getD e default) (20 + t) = w2 at *
   refine qbb ?_
   refine qaa ?_
   refine qad ?_
   refine qam ?_
   refine qbm ?_
   refine qaa ?_
   refine LJ_q (by first | exact yv_index_ro tb rfl rfl rfl rfl (by first | assumption | exact zr (by simp)) (i := e) (by first | rfl | omega | (simp; omega)) (by omega) | exact yv_index tb rfl rfl rfl rfl (i := e) (by first | rfl | omega | (simp; omega)) (by omega)) rfl ?_
   refine qa7 ?_
   refine qbn ?_
   refine qah ?_
   refine LJ_case (k := 187) (show _ = Value.bool _ from rfl) (fun hg6 => ?_) (fun hg6 => ?_)
   ·
    replace hg6 := qb hg6
    refine ycmab ?_
    refine LJ_qg (yv_move (show _ = Value.int _ _ from rfl)) rfl rfl ?_
    refine ycmac ?_
    refine ycmad ?_
    refine LJ_qg (yv_neq rfl rfl) rfl rfl ?_
    refine ycmaa ?_
    refine qah ?_
    refine LJ_case (k := 194) (show _ = Value.bool _ from rfl) (fun hg13 => ?_) (fun hg13 => ?_)
    ·
     replace hg13 := qb hg13
     (exfalso; first | (cases hg13; done) | omega)
    replace hg13 := qb hg13
    refine ycmab ?_
    refine LJ_qg (yv_move (show _ = Value.int _ _ from rfl)) rfl rfl ?_
    refine ycmac ?_
    refine ycmad ?_
    refine LJ_qg (yv_eql rfl rfl) rfl rfl ?_
    refine LJ_qg (yv_move (show _ = Value.bool _ from rfl)) rfl rfl ?_
    refine LJ_case (k := 200) (show _ = Value.bool _ from rfl) (fun hg19 => ?_) (fun hg19 => ?_)
    ·
     replace hg19 := qb hg19
     refine ycmab ?_
     refine LJ_qg (yv_move (show _ = Value.int _ _ from rfl)) rfl rfl ?_
     refine ycmac ?_
     refine ycmad ?_
     refine LJ_qg (yv_neq rfl rfl) rfl rfl ?_
     ·
      skip
      refine ycmae ?_
      refine ycmaa ?_
      refine qah ?_
      refine LJ_case (k := 208) (show _ = Value.bool _ from rfl) (fun hg27 => ?_) (fun hg27 => ?_)
      ·
       replace hg27 := qb hg27
       (exfalso; first | (cases hg27; done) | omega)
      replace hg27 := qb hg27
      refine ycmab ?_
      refine LJ_qg (yv_move (show _ = Value.int _ _ from rfl)) rfl rfl ?_
      refine ycmac ?_
      refine LJ_qg (yv_field_eo tb rfl rfl rfl) rfl rfl ?_
      refine ycmad ?_
      refine LJ_qg (yv_move (show _ = Value.bool _ from rfl)) rfl rfl ?_
      refine LJ_case (k := 214) (show _ = Value.bool _ from rfl) (fun hg33 => ?_) (fun hg33 => ?_)
      ·
       replace hg33 := qb hg33
       refine ycmab ?_
       refine LJ_qg (yv_move (show _ = Value.int _ _ from rfl)) rfl rfl ?_
       refine ycmac ?_
       refine LJ_qg (yv_field_eo tb rfl rfl rfl) rfl rfl ?_
       refine ycmad ?_
       refine LJ_qg (yv_not rfl) rfl rfl ?_
       ·
        skip
        refine ycmae ?_
        refine ycmaa ?_
        refine qaf ?_
        refine q_c (fun hc5 => ?_) (fun hc5 => ?_)
        ·
         (exfalso; first | (cases hc5; done) | (rw [hO hg33] at hc5; cases hc5))
        refine qbj ?_
        refine qar ?_
        refine qaa ?_
        refine qav ?_
        exact q_k (⟨e + 1, by omega⟩)
      replace hg33 := qb hg33
      iterate 6 refine LJ_skg rfl rfl ?_
      ·
       skip
       refine ycmae ?_
       refine ycmaa ?_
       refine qaf ?_
       refine CJ_cond_false rfl ?_
       refine qbj ?_
       refine qar ?_
       refine qaa ?_
       refine qav ?_
       exact q_k (⟨e + 1, by omega⟩)
    replace hg19 := qb hg19
    iterate 5 refine LJ_skg rfl rfl ?_
    ·
     skip
     refine ycmae ?_
     refine ycmaa ?_
     refine qah ?_
     ·
      skip
      refine ycmab ?_
      refine LJ_qg (yv_move (show _ = Value.int _ _ from rfl)) rfl rfl ?_
      refine ycmac ?_
      refine LJ_qg (yv_field_eo tb rfl rfl rfl) rfl rfl ?_
      refine ycmad ?_
      refine LJ_qg (yv_move (show _ = Value.bool _ from rfl)) rfl rfl ?_
      refine LJ_case (k := 214) (show _ = Value.bool _ from rfl) (fun hg33 => ?_) (fun hg33 => ?_)
      ·
       replace hg33 := qb hg33
       refine ycmab ?_
       refine LJ_qg (yv_move (show _ = Value.int _ _ from rfl)) rfl rfl ?_
       refine ycmac ?_
       refine LJ_qg (yv_field_eo tb rfl rfl rfl) rfl rfl ?_
       refine ycmad ?_
       refine LJ_qg (yv_not rfl) rfl rfl ?_
       ·
        skip
        refine ycmae ?_
        refine ycmaa ?_
        refine qaf ?_
        refine q_c (fun hc5 => ?_) (fun hc5 => ?_)
        ·
         (exfalso; first | (cases hc5; done) | (rw [hO hg33] at hc5; cases hc5))
        refine qbj ?_
        refine qar ?_
        refine qaa ?_
        refine qav ?_
        exact q_k (⟨e + 1, by omega⟩)
      replace hg33 := qb hg33
      iterate 6 refine LJ_skg rfl rfl ?_
      ·
       skip
       refine ycmae ?_
       refine ycmaa ?_
       refine qaf ?_
       refine CJ_cond_false rfl ?_
       refine qbj ?_
       refine qar ?_
       refine qaa ?_
       refine qav ?_
       exact q_k (⟨e + 1, by omega⟩)
   replace hg6 := qb hg6
   iterate 5 refine LJ_skg rfl rfl ?_
   refine ycmaa ?_
   refine qah ?_
   ·
    skip
    refine ycmab ?_
    refine LJ_qg (yv_move (show _ = Value.int _ _ from rfl)) rfl rfl ?_
    refine ycmac ?_
    refine ycmad ?_
    refine LJ_qg (yv_eql rfl rfl) rfl rfl ?_
    refine LJ_qg (yv_move (show _ = Value.bool _ from rfl)) rfl rfl ?_
    refine LJ_case (k := 200) (show _ = Value.bool _ from rfl) (fun hg19 => ?_) (fun hg19 => ?_)
    ·
     replace hg19 := qb hg19
     refine ycmab ?_
     refine LJ_qg (yv_move (show _ = Value.int _ _ from rfl)) rfl rfl ?_
     refine ycmac ?_
     refine ycmad ?_
     refine LJ_qg (yv_neq rfl rfl) rfl rfl ?_
     ·
      skip
      refine ycmae ?_
      refine ycmaa ?_
      refine qah ?_
      refine LJ_case (k := 208) (show _ = Value.bool _ from rfl) (fun hg27 => ?_) (fun hg27 => ?_)
      ·
       replace hg27 := qb hg27
       (exfalso; first | (cases hg27; done) | omega)
      replace hg27 := qb hg27
      refine ycmab ?_
      refine LJ_qg (yv_move (show _ = Value.int _ _ from rfl)) rfl rfl ?_
      refine ycmac ?_
      refine LJ_qg (yv_field_eo tb rfl rfl rfl) rfl rfl ?_
      refine ycmad ?_
      refine LJ_qg (yv_move (show _ = Value.bool _ from rfl)) rfl rfl ?_
      refine LJ_case (k := 214) (show _ = Value.bool _ from rfl) (fun hg33 => ?_) (fun hg33 => ?_)
      ·
       replace hg33 := qb hg33
       refine ycmab ?_
       refine LJ_qg (yv_move (show _ = Value.int _ _ from rfl)) rfl rfl ?_
       refine ycmac ?_
       refine LJ_qg (yv_field_eo tb rfl rfl rfl) rfl rfl ?_
       refine ycmad ?_
       refine LJ_qg (yv_not rfl) rfl rfl ?_
       ·
        skip
        refine ycmae ?_
        refine ycmaa ?_
        refine qaf ?_
        refine q_c (fun hc5 => ?_) (fun hc5 => ?_)
        ·
         (exfalso; first | (cases hc5; done) | (rw [hO hg33] at hc5; cases hc5))
        refine qbj ?_
        refine qar ?_
        refine qaa ?_
        refine qav ?_
        exact q_k (⟨e + 1, by omega⟩)
      replace hg33 := qb hg33
      iterate 6 refine LJ_skg rfl rfl ?_
      ·
       skip
       refine ycmae ?_
       refine ycmaa ?_
       refine qaf ?_
       refine CJ_cond_false rfl ?_
       refine qbj ?_
       refine qar ?_
       refine qaa ?_
       refine qav ?_
       exact q_k (⟨e + 1, by omega⟩)
    replace hg19 := qb hg19
    iterate 5 refine LJ_skg rfl rfl ?_
    ·
     skip
     refine ycmae ?_
     refine ycmaa ?_
     refine qah ?_
     ·
      skip
      refine ycmab ?_
      refine LJ_qg (yv_move (show _ = Value.int _ _ from rfl)) rfl rfl ?_
      refine ycmac ?_
      refine LJ_qg (yv_field_eo tb rfl rfl rfl) rfl rfl ?_
      refine ycmad ?_
      refine LJ_qg (yv_move (show _ = Value.bool _ from rfl)) rfl rfl ?_
      refine LJ_case (k := 214) (show _ = Value.bool _ from rfl) (fun hg33 => ?_) (fun hg33 => ?_)
      ·
       replace hg33 := qb hg33
       refine ycmab ?_
       refine LJ_qg (yv_move (show _ = Value.int _ _ from rfl)) rfl rfl ?_
       refine ycmac ?_
       refine LJ_qg (yv_field_eo tb rfl rfl rfl) rfl rfl ?_
       refine ycmad ?_
       refine LJ_qg (yv_not rfl) rfl rfl ?_
       ·
        skip
        refine ycmae ?_
        refine ycmaa ?_
        refine qaf ?_
        refine q_c (fun hc5 => ?_) (fun hc5 => ?_)
        ·
         (exfalso; first | (cases hc5; done) | (rw [hO hg33] at hc5; cases hc5))
        refine qbj ?_
        refine qar ?_
        refine qaa ?_
        refine qav ?_
        exact q_k (⟨e + 1, by omega⟩)
      replace hg33 := qb hg33
      iterate 6 refine LJ_skg rfl rfl ?_
      ·
       skip
       refine ycmae ?_
       refine ycmaa ?_
       refine qaf ?_
       refine CJ_cond_false rfl ?_
       refine qbj ?_
       refine qar ?_
       refine qaa ?_
       refine qav ?_
       exact q_k (⟨e + 1, by omega⟩)
  refine qbk ?_
  refine q_l rfl (awake20_tri _ _) ?_
  refine qaz ?_
  refine qa0 ?_
  refine retK_ret (L' := []) (R' := R) (res1 rfl (rv_tmp (show _ = Value.bool _ from rfl))) ?hp ?hL ?hR
  case hp => exact ⟨rfl, rfl, rfl⟩
  case hL => exact List.nil_sublist _
  case hR => exact fin
end Go.Proofs.Ytlgjgigciapkfaa
