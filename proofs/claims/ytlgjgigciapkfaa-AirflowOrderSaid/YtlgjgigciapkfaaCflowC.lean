/-
  certify.Flows. By an AI agent; no person has read it.
-/
import Derived.Test.YtlgjgigciapkfaaCflowS
set_option linter.unusedSimpArgs false
set_option linter.unusedVariables false
namespace Go.Proofs.Ytlgjgigciapkfaa
open Go.Aw Go
set_option maxRecDepth 20000
attribute [local irreducible] CJ LJ DJ Tri YV Gives seqK blockK loopK retK RV mergeK OwL.L

theorem bflow_tri (a : XAir) (s : XSetting) (b : XBounds) (A : List Bool) (L : List Blk) (R : List Sl) (hm : AirR a R) (hs : SetR s R) (hb : BoundsR b R) (hA : airErr a = 0 → AiryIs a.mine A) :
    Tri Try.prog 101 [a.val, s.val, b.val].toArray L R (fun v L' R' => ∃ (p : OwL XSpan) (S : List Sl), v = p.val ∧ p.ok 2 XSpan.cells ∧ p.l = boundFlows a s b A ∧ p.L 59 XSpan.cells ++ L = L' ∧ S ++ R = R') := by
  have hmr := hm.roads
  have hbl := hb.low
  have hbh := hb.high
  refine tri_enter 85 Try.call101 Try.func101 rfl rfl rfl ?_
  refine qae ?_
  refine qax ?_
  intro b3
  refine qax ?_
  intro b4
  refine qax ?_
  intro b5
  refine qc4 ?_
  refine qaw ?_
  refine qa8 ?_
  refine qbe ?_
  refine qbe ?_
  refine LJ_call rfl (cert_tri a s b A _ _ hm hs hb hA) rfl ?_
  rintro v L' R' ⟨S1, rfl, rfl, rfl⟩
  have hm1 : AirR a (S1 ++ R) := ⟨hm.places.mono fun r h => inR_self (by simp [h]), hm.roads.mono fun r h => inR_self (by simp [h]), hm.fans.mono fun r h => inR_self (by simp [h]), hm.doors.mono fun r h => inR_self (by simp [h])⟩
  have hmr1 := hm1.roads
  refine qbq ?_
  refine qaf ?_
  refine q_c (fun hc0 => ?_) (fun hc0 => ?_)
  ·
   refine qae ?_
   refine qc4 ?_
   refine qbh ?_
   refine q_r (L' := L) (R' := S1 ++ R) (res1 rfl (rv_tmp (show _ = Value.slice _ _ _ from rfl))) ?_
   exact ⟨OwL.nil, S1, rfl, OwL.nil_ok, by rw [boundFlows, if_neg hc0], by rw [nil_L, List.nil_append], rfl⟩
  ·
   have hck : checkS a s b A = 0 := by omega
   have hC := checkS_ok hck
   have hok := airOk_of hC.h0
   have hfo := fitOk_of hC.hf
   have hAA := hA hC.h0
   have hnr := hok.mine.roads
   have hln := hC.hl
   have hhn := hC.hh
   refine qbv ?_
   refine qab ?_
   refine qab ?_
   refine qac ?_
   refine qag ?_
   refine qc7 ?_
   rintro v L' R' ⟨b20, rfl, rfl, hR20⟩
   replace hR20 := hR20.symm; subst hR20
   refine qc4 ?_
   refine qa4 ?_
   refine CJ_L (made_ow (f := XSpan.cells) (x := ⟨0, 0⟩) rfl _) ?_
   refine qay ?_
   refine qab ?_
   refine qbe ?_
   refine LJ_call rfl (lost_tri a.mine _ _ hm1.mineR hok.mine (airErr_mine hC.h0)) rfl ?_
   rintro v L' R' ⟨p, A2, S2, rfl, hpk, hA2, hpl, rfl, rfl⟩
   obtain rfl : A = A2 := hAA.unique hA2
   have hplen : p.l.length = a.mine.places.l.length := by rw [hpl, List.length_map]; exact hAA.length
   have hm2 : AirR a (S2 ++ (S1 ++ R)) := ⟨hm1.places.mono fun r h => inR_self (by simp only [List.mem_append]; exact .inr (List.mem_append.1 h)), hm1.roads.mono fun r h => inR_self (by simp only [List.mem_append]; exact .inr (List.mem_append.1 h)), hm1.fans.mono fun r h => inR_self (by simp only [List.mem_append]; exact .inr (List.mem_append.1 h)), hm1.doors.mono fun r h => inR_self (by simp only [List.mem_append]; exact .inr (List.mem_append.1 h))⟩
   have hs2 : SetR s (S2 ++ (S1 ++ R)) := ⟨hs.fans.mono fun r h => inR_self (by simp [h]), hs.doors.mono fun r h => inR_self (by simp [h])⟩
   refine qc4 ?_
   refine qaw ?_
   refine qa8 ?_
   refine qbe ?_
   refine LJ_call rfl (make_tri a s _ _ hm2 hs2 hok hfo) rfl ?_
   rintro v L' R' ⟨n, rfl, hn, rfl, rfl⟩
   have hpp : InR (ppsl n.pipes) (ppsl n.pipes :: aasl n.at_ :: (S2 ++ (S1 ++ R))) := inR_self (.head _)
   have hbl3 : InR (isl b.low) (ppsl n.pipes :: aasl n.at_ :: (S2 ++ (S1 ++ R))) := hbl.mono fun r h => inR_self (by simp [h])
   have hbh3 : InR (isl b.high) (ppsl n.pipes :: aasl n.at_ :: (S2 ++ (S1 ++ R))) := hbh.mono fun r h => inR_self (by simp [h])
   have hnl := hn.length
   refine LJ_q (yv_fieldv (e := 219) tb rfl (by kernel_rfl) rfl rfl rfl rfl rfl) rfl ?_
   refine qag ?_
   refine qaa ?_
   refine qa2 ?_
   refine CJ_forget [(5, Value.pointer _), (7, Value.slice _ _ _), (8, Value.slice _ _ _), (27, Value.slice _ _ _), (28, Value.int _ _), (29, Value.int _ _)] (by repeat' (first | exact trivial | refine And.intro rfl ?_)) fun tq0 => ?_
   refine q_p [10, 29, 30, 31, 32, 33, 34, 35, 36, 37, 38, 39, 40, 41, 42, 43, 44, 45, 46, 47, 48, 49, 50, 51, 52, 53, 54, 55, 56, 57, 58, 59, 60, 61, 62, 63, 64, 65, 66, 67, 68, 69, 70, 71, 72, 73, 74, 75, 76, 77, 78, 79, 80, 81, 82, 83] ((⟨fun q => [(29, .int .i64 ((q.1.1 : Nat) : Int))], fun q => p.L 4 blc ++ ((⟨.own b20 a.mine.roads.l.length [], q.1.2⟩ : OwL XSpan).L 59 XSpan.cells ++ (⟨b5, b.cells, 164⟩ :: ⟨b4, s.cells, 40⟩ :: ⟨b3, a.cells, 30⟩ :: L)), fun _ => ppsl n.pipes :: aasl n.at_ :: (S2 ++ (S1 ++ R)), fun q => n.pipes.l.length - q.1.1⟩ : Head {q : Nat × List XSpan // q.1 ≤ n.pipes.l.length ∧ FlowTo a s b A n q.1 q.2})) (⟨(0, List.replicate a.mine.roads.l.length ⟨0, 0⟩), by dsimp only; omega, FlowTo.zero a s b A n⟩) ?_
   rintro ⟨⟨k, l⟩, w1, w2⟩ junk
   try dsimp only
   dsimp only at w1 w2
   have hll := w2.len
   have hkq : (⟨.own b20 a.mine.roads.l.length [], l⟩ : OwL XSpan).ok 2 XSpan.cells := by have := made_ok (f := XSpan.cells) (wd := 2) (b := b20) (n := a.mine.roads.l.length) (x := ⟨0, 0⟩) (fun _ => rfl) (by simp only [maxLen]; omega); exact OwL.len_ok (fun _ => rfl) this (by simp; exact hll)
   refine qae ?_
   refine qaj ?_
   refine qa4 ?_
   refine q_c (fun hc1 => ?_) (fun hc1 => ?_)
   ·
    obtain ⟨P, hP⟩ := get_some (l := n.pipes.l) (k := k) (by omega)
    have hPI := InR.pipe hpp hP
    obtain ⟨hPn, hPo⟩ := hn.open (List.mem_of_getElem? hP)
    have hPs := hn.pipe P (List.mem_of_getElem? hP)
    have hPk := pipeOk_of hok hPn hPs
    have hdr : dropP P = innerS a s ((P.num.toNat : Nat) : Int) := funext fun q => by rw [dropP_eq hPs q, Int.toNat_of_nonneg hPn.1]
    have hro := hok.mine.road P.num.toNat _ (get_D default (by omega))
    have hr1 := hro.fr
    have hr2 := hro.to
    have hef : P.road.fr = (a.mine.roads.l.getD P.num.toNat default).fr := by rw [hPs.road]
    have het : P.road.to = (a.mine.roads.l.getD P.num.toNat default).to := by rw [hPs.road]
    have hAl := hAA.length
    have hpg : p.l[P.road.fr.toNat]? = some (!(A.getD P.road.fr.toNat false)) := by rw [hpl, List.getElem?_map, get_D (l := A) (k := P.road.fr.toNat) false (by omega)]; rfl
    have g1 := get_D (l := b.low.l) (k := P.road.fr.toNat) 0 (by omega)
    have g2 := get_D (l := b.low.l) (k := P.road.to.toNat) 0 (by omega)
    have g3 := get_D (l := b.high.l) (k := P.road.fr.toNat) 0 (by omega)
    have g4 := get_D (l := b.high.l) (k := P.road.to.toNat) 0 (by omega)
    have e1 := hC.pl.get P.road.fr.toNat
    have e2 := hC.pl.get P.road.to.toNat
    have e3 := hC.ph.get P.road.fr.toNat
    have e4 := hC.ph.get P.road.to.toNat
    have hlg := get_D (l := l) (k := P.num.toNat) default (by omega)
    refine qbb ?_
    refine LJ_q (by first | exact yv_index_ro tb rfl rfl rfl rfl (by first | assumption | exact zr (by simp)) (i := k) (by first | rfl | omega | (simp; omega)) (by omega) | exact yv_index tb rfl rfl rfl rfl (i := k) (by first | rfl | omega | (simp; omega)) (by omega)) rfl ?_
    refine qdx ?_
    refine qaq ?_
    intro b10
    refine qak ?_
    refine qaw ?_
    refine qbm ?_
    refine qab ?_
    refine qab ?_
    refine qac ?_
    refine LJ_q (yv_index_ow tb (p) _ rfl rfl rfl rfl (by assumption) (i := P.road.fr.toNat) (by first | rfl | omega | (simp; omega)) (by first | omega | (dsimp only; omega) | (dsimp only; rw [List.length_set]; omega))) rfl ?_
    refine LJ_q (yv_load1_ow tb (p) rfl rfl rfl (by repeat (first | apply OSeg.cons | exact OSeg.here | exact OSeg.last | exact OSeg.at (by assumption) | apply OSeg.app)) (by assumption) (fun _ => rfl) (by assumption) (by rfl)) rfl ?_
    refine qaf ?_
    refine q_c (fun hc2 => ?_) (fun hc2 => ?_)
    ·
     have hrf : nothingS = roadFlow a s b A P.num.toNat := by rw [roadFlow, if_neg (by rw [hPo]; decide), ← hef, if_neg (by simpa using hc2)]
     refine qae ?_
     refine qbm ?_
     refine qab ?_
     refine qac ?_
     refine qcd ?_
     refine LJ_q (yv_index_ow tb ((⟨.own b20 a.mine.roads.l.length [], l⟩ : OwL XSpan)) _ rfl rfl ((show _ = Value.slice _ _ _ from rfl).trans (own_val hll)) rfl (by assumption) (i := P.num.toNat) (by first | rfl | omega | (simp; omega)) (by first | omega | (dsimp only; omega) | (dsimp only; rw [List.length_set]; omega))) rfl ?_
     refine LJ_g0 (gives_storeN_ow tb ((⟨.own b20 a.mine.roads.l.length [], l⟩ : OwL XSpan)) (nothingS) rfl rfl rfl rfl (by repeat (first | apply OSeg.cons | exact OSeg.here | exact OSeg.last | exact OSeg.at (by assumption) | apply OSeg.app)) (by assumption) (fun _ => rfl) (by assumption) (Nat.le_of_ble_eq_true rfl) (by rfl) (by rfl)) ?_
     rintro v L' R' ⟨rfl, rfl⟩
     refine LJ_nil (seqK_normal (CJ_exit (seqK_exit (blockK_exit (seqK_normal (CJ_region ?_))))))
     refine qar ?_
     refine qaa ?_
     refine qav ?_
     exact q_k ⟨(k + 1, l.set P.num.toNat _), by dsimp only; omega, w2.next hP (by omega) hrf⟩
    ·
     have hrf : (⟨flowLow (dropP P) (b.low.l.getD P.road.fr.toNat 0 - b.high.l.getD P.road.to.toNat 0), flowHigh (dropP P) (b.high.l.getD P.road.fr.toNat 0 - b.low.l.getD P.road.to.toNat 0)⟩ : XSpan) = roadFlow a s b A P.num.toNat := by rw [roadFlow, if_neg (by rw [hPo]; decide), ← hef, ← het, if_pos (by simpa using hc2), hdr]
     refine CJ_skip (seqK_normal ?_)
     refine CJ_drawn2 tb [] [0, 1, 2, 3, 4, 5, 6, 7, 8, 9, 10, 11, 12, 13, 14, 15, 16, 17, 18, 20, 21, 22, 23, 24, 25, 26, 27, 28, 29, 30, 31, 32, 33, 34, 35, 19, 36, 37, 38] [39] ([Blk.mk b10 _ _, Blk.mk b5 _ _]) _ mixed (by kernel_rfl) (by repeat (first | exact zs0 _ | exact zs1 _ | apply zs2 | apply zs3 | apply zs4 | apply zs5)) (List.Sublist.refl _) ?_
     refine qct ?_
     refine qan ?_
     refine qau ?_
     refine DJ3_q (yv_loadN (row := [_, _, _, _, _, _, _, _, _, _, _, _]) tb rfl rfl rfl (by repeat (first | exact zi0 | apply zi1 | apply zi2)) (by rfl) (by rfl)) rfl rfl rfl rfl ?_
     refine qan ?_
     refine qau ?_
     refine qan ?_
     refine qan ?_
     refine qau ?_
     refine DJ3_q (by first | exact yv_index_ro tb rfl rfl rfl rfl (by first | assumption | exact zr (by simp)) (i := P.road.fr.toNat) (by first | rfl | omega | (simp; omega)) (by omega) | exact yv_index tb rfl rfl rfl rfl (i := P.road.fr.toNat) (by first | rfl | omega | (simp; omega)) (by omega)) rfl rfl rfl rfl ?_
     refine qci ?_
     refine qan ?_
     refine qau ?_
     refine qan ?_
     refine qan ?_
     refine qau ?_
     refine DJ3_q (by first | exact yv_index_ro tb rfl rfl rfl rfl (by first | assumption | exact zr (by simp)) (i := P.road.to.toNat) (by first | rfl | omega | (simp; omega)) (by omega) | exact yv_index tb rfl rfl rfl rfl (i := P.road.to.toNat) (by first | rfl | omega | (simp; omega)) (by omega)) rfl rfl rfl rfl ?_
     refine qci ?_
     refine qcc ?_
     refine DJ3_q (yv_loadN (row := [_, _, _, _, _, _, _, _, _, _, _, _]) tb rfl rfl rfl (by repeat (first | exact zi0 | apply zi1 | apply zi2)) (by rfl) (by rfl)) rfl rfl rfl rfl ?_
     refine qan ?_
     refine qau ?_
     refine qan ?_
     refine qan ?_
     refine qau ?_
     refine DJ3_q (by first | exact yv_index_ro tb rfl rfl rfl rfl (by first | assumption | exact zr (by simp)) (i := P.road.fr.toNat) (by first | rfl | omega | (simp; omega)) (by omega) | exact yv_index tb rfl rfl rfl rfl (i := P.road.fr.toNat) (by first | rfl | omega | (simp; omega)) (by omega)) rfl rfl rfl rfl ?_
     refine qci ?_
     refine qan ?_
     refine qau ?_
     refine qan ?_
     refine qan ?_
     refine qau ?_
     refine DJ3_q (by first | exact yv_index_ro tb rfl rfl rfl rfl (by first | assumption | exact zr (by simp)) (i := P.road.to.toNat) (by first | rfl | omega | (simp; omega)) (by omega) | exact yv_index tb rfl rfl rfl rfl (i := P.road.to.toNat) (by first | rfl | omega | (simp; omega)) (by omega)) rfl rfl rfl rfl ?_
     refine qci ?_
     refine qcc ?_
     refine DJ3_call rfl (flowLow_tri P (b.low.l.getD P.road.fr.toNat 0 - b.high.l.getD P.road.to.toNat 0) _ _ hPI hPk) rfl rfl ?_
     rintro v L' R' ⟨rfl, rfl, rfl⟩
     refine qas ?_
     refine DJ3_call rfl (flowHigh_tri P (b.high.l.getD P.road.fr.toNat 0 - b.low.l.getD P.road.to.toNat 0) _ _ hPI hPk) rfl rfl ?_
     rintro v L' R' ⟨rfl, rfl, rfl⟩
     refine qas ?_
     refine qcw ?_
     refine DJ3_q (yv_index_ow tb ((⟨.own b20 a.mine.roads.l.length [], l⟩ : OwL XSpan)) _ rfl rfl ((show _ = Value.slice _ _ _ from rfl).trans (own_val hll)) rfl (by assumption) (i := P.num.toNat) (by first | rfl | omega | (simp; omega)) (by first | omega | (dsimp only; omega) | (dsimp only; rw [List.length_set]; omega))) rfl rfl rfl rfl ?_
     refine qba ?_
     refine DJ_g0 (gives_storeN_ow tb ((⟨.own b20 a.mine.roads.l.length [], l⟩ : OwL XSpan)) (⟨flowLow (dropP P) (b.low.l.getD P.road.fr.toNat 0 - b.high.l.getD P.road.to.toNat 0), flowHigh (dropP P) (b.high.l.getD P.road.fr.toNat 0 - b.low.l.getD P.road.to.toNat 0)⟩) rfl rfl rfl rfl (by repeat (first | apply OSeg.cons | exact OSeg.here | exact OSeg.last | exact OSeg.at (by assumption) | apply OSeg.app)) (by assumption) (fun _ => rfl) (by assumption) (Nat.le_of_ble_eq_true rfl) (by rfl) (by rfl)) rfl rfl ?_
     rintro v L' R' ⟨rfl, rfl⟩
     refine qa1 ?_
     refine qby ?_
     refine qar ?_
     refine qaa ?_
     refine qav ?_
     exact q_k ⟨(k + 1, l.set P.num.toNat _), by dsimp only; omega, w2.next hP (by omega) hrf⟩
   ·
    obtain rfl : k = n.pipes.l.length := by omega
    refine qbk ?_
    refine qbm ?_
    refine qc4 ?_
    refine qa0 ?_
    refine q_r (L' := (⟨.own b20 a.mine.roads.l.length [], l⟩ : OwL XSpan).L 59 XSpan.cells ++ L) (R' := ppsl n.pipes :: aasl n.at_ :: (S2 ++ (S1 ++ R))) (res1 rfl (rv_tmp (show _ = Value.slice _ _ _ from rfl))) ?_
    exact ⟨(⟨.own b20 a.mine.roads.l.length [], l⟩ : OwL XSpan), ppsl n.pipes :: aasl n.at_ :: (S2 ++ S1), own_val hll, hkq, by rw [boundFlows, if_pos hck]; exact w2.done hn, rfl, by simp [List.append_assoc]⟩
end Go.Proofs.Ytlgjgigciapkfaa
