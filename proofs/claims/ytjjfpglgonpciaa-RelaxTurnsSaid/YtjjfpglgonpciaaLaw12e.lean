/-
  Statements about chapter 12: with all turned round, raising is lowering. By an AI agent; no person has read it.
-/
import Derived.Test.YtjjfpglgonpciaaTurnW
set_option linter.unusedSimpArgs false
set_option linter.unusedVariables false
namespace Go.Proofs.Ytjjfpglgonpciaa
open Go.Aw Go
set_option maxRecDepth 20000
attribute [local irreducible] CJ LJ DJ Tri YV Gives seqK blockK loopK retK RV mergeK OwL.L

theorem perm_back {D Y T : List Blk} {x : Blk} : (D ++ (x :: (Y ++ T))).Perm (Y ++ (D ++ (x :: T))) := by
  have := List.perm_append_comm_assoc (D ++ [x]) Y T
  simpa using this
theorem relaxTurns_law (y : Arr Int) (R : List Sl) (hy : CodesR y R) :
    Tri Try.prog 7 [y.val].toArray [] R (fun v L' R' => v = .bool true ∧ [] = L' ∧ R = R') := by
  refine tri_enter 146 Try.call7 Try.func7 rfl rfl rfl ?_
  refine qae ?_
  refine qaz ?_
  refine qam ?_
  refine qbm ?_
  refine LJ_call rfl (new_tri y _ _ hy) rfl ?_
  rintro v L' R' ⟨c, rfl, hx, rfl, rfl⟩
  refine qc1 ?_
  refine qam ?_
  refine qa6 ?_
  refine LJ_call rfl (made1 (.consL .nil) hx (Nat.zero_le _)) rfl ?_
  rintro v L' R' ⟨m, k1, S, rfl, hm, hMA, hif, hid, hk1, rfl, rfl⟩
  simp only [List.append_assoc, List.cons_append, List.nil_append]
  refine LJ_q (yv_move rfl) rfl ?_
  refine qbs ?_
  refine qbs ?_
  refine qbs ?_
  refine qaq ?_
  intro b4
  refine qaq ?_
  intro b5
  refine qaq ?_
  intro b6
  refine qak ?_
  refine qak ?_
  refine qak ?_
  refine qa4 ?_
  refine CJ_made (A := []) hm hMA (fun f hf => (hif f hf).mono fun r hr => inR_self (by simp [hr])) (fun f hf => (hid f hf).mono fun r hr => inR_self (by simp [hr])) fun a s x R1 hMA hA hT hX hR1 => ?_
  refine qb1 ?_
  obtain ⟨_, hae, hF, hri, hfo⟩ := hMA.b
  have hx1 : CodesR (codes300 y) R1 := hx.mono fun r hr => hR1 r (by simp [hr])
  have hR0 : ∀ r ∈ R, InR r R1 := fun r hr => hR1 r (by simp [hr])
  have hnp := hMA.nplaces
  have hnr := hMA.nroads
  have hnf := hMA.nfans
  have hnd := hMA.ndoors
  have hpn := hF.plen
  have hfn := hF.flen
  obtain ⟨A, hAA⟩ := airy_ex a.mine
  have hAl := hAA.length
  refine qay ?_
  refine qa6 ?_
  refine qa8 ?_
  refine qbe ?_
  refine LJ_call rfl (start1 (.consB (.consB (.consB (.consL .nil)))) hx1 hk1 hA hX hMA hAA) rfl ?_
  rintro v L' R' ⟨l, k2, rfl, hl, hst, hk2, rfl, rfl⟩
  simp only [List.append_assoc, List.cons_append, List.nil_append]
  refine qc4 ?_
  refine qa4 ?_
  refine CJ_frz1 (A := [_, _, _]) (wd := 1) [] (fun _ => rfl) (by decide) hl (fun s hs => by cases hs) ?_
  refine qb1 ?_
  obtain ⟨R2, hR2e⟩ : ∃ R2, R2 = isl l.arr :: R1 := ⟨_, rfl⟩
  have hR2 : ∀ r ∈ R1, InR r R2 := fun r hr => inR_self (by rw [hR2e]; exact .tail _ hr)
  have hlR : InR (isl l.arr) R2 := inR_self (by rw [hR2e]; exact .head _)
  rw [← hR2e]
  have hso := hst.start (s := s) hMA.err hMA.fit
  have hln := hso.hl
  have hA2 := airR_mono hA hR2
  have hT2 := setR_mono hT hR2
  have hfa := hA2.fans
  refine CJ_drawn tb [0, 1, 3, 4, 6, 7, 2, 5, 8, 9, 10] ([Blk.mk b4 _ _]) mixed (by kernel_rfl) (by repeat (first | exact zs0 _ | exact zs1 _ | apply zs2 | apply zs3 | apply zs4 | apply zs5)) ?_
  refine qal ?_
  refine qbd ?_
  refine qal ?_
  refine qat ?_
  refine qal ?_
  refine qat ?_
  refine DJ_call rfl (refCopy_tri a.mine _ _ hA2.mineR hae.mine) rfl rfl ?_
  rintro v L' R' ⟨⟨p0, pl⟩, ⟨q0, ql⟩, rfl, ⟨ok1, ok2⟩, hp, hq, rfl, rfl⟩
  refine qas ?_
  dsimp only at hp hq
  subst hp
  subst hq
  refine DJ_g (gives_copy (f := XFan.cells) (xs := a.fans) tb rfl rfl rfl (by decide) rfl rfl (hfa) (fun _ => rfl) (by omega)) rfl rfl rfl ?_
  rintro v L' R' ⟨o36, rfl, hok36, rfl, rfl⟩
  refine qa1 ?_
  refine DJ_q (yv_build (qs := [(0, (Value.agg _).cells.toList), (1, (Value.slice _ _ _).cells.toList), (2, (Value.slice _ _ _).cells.toList)]) (out := [_, _, _, _]) tb rfl rfl rfl rfl) rfl rfl rfl ?_
  refine qbr ?_
  intro b8
  refine qbg ?_
  refine qc6 ?_
  refine qab ?_
  refine qab ?_
  refine qac ?_
  refine qag ?_
  refine qaa ?_
  refine qa2 ?_
  refine CJ_forget [(4, Value.pointer _), (5, Value.pointer _), (7, Value.slice _ _ _), (8, Value.pointer _), (43, Value.int _ _), (44, Value.int _ _)] (by repeat' (first | exact trivial | refine And.intro rfl ?_)) fun tq0 => ?_
  refine q_p [9, 10, 44, 45, 46, 47, 48, 49, 50, 51, 52, 53, 54, 55, 56, 57, 58, 59, 60, 61, 62, 63, 64, 65, 66, 67, 68] ((⟨fun g => [(44, .int .i64 ((g.1.1 : Nat) : Int))], fun g => ⟨b8, [(⟨p0, a.mine.places.l⟩ : OwL XPlace).val, (⟨q0, a.mine.roads.l⟩ : OwL XRoad).val, (⟨o36, a.fans.l⟩ : OwL XFan).val, a.doors.val], 32⟩ :: ((⟨o36, a.fans.l⟩ : OwL XFan).L 71 XFan.cells ++ ((⟨q0, g.1.2⟩ : OwL XRoad).L 68 XRoad.cells ++ ((⟨p0, a.mine.places.l⟩ : OwL XPlace).L 46 XPlace.cells ++ (⟨b6, x.cells, 37⟩ :: ⟨b5, s.cells, 35⟩ :: ⟨b4, a.cells, 32⟩ :: cblk c (codes300 y) k2 :: [])))), fun _ => R2, fun g => a.mine.roads.l.length - g.1.1⟩ : Head {g : Nat × List XRoad // g.1 ≤ a.mine.roads.l.length ∧ (⟨q0, g.2⟩ : OwL XRoad).ok 10 XRoad.cells ∧ MapTo turnR a.mine.roads.l g.1 g.2})) (⟨(0, a.mine.roads.l), by dsimp only; omega, ok2, .zero⟩) ?_
  rintro ⟨⟨i, rl⟩, w1, w2, w3⟩ junk
  try dsimp only
  dsimp only at w1 w2 w3
  have hrl := w3.len
  refine qae ?_
  refine qaj ?_
  refine qa4 ?_
  refine q_c (fun hc0 => ?_) (fun hc0 => ?_)
  ·
   have hr0 := get_D (l := rl) (k := i) default (by omega)
   rw [w3.get i (by omega), if_neg (by omega)] at hr0
   have hrk := hae.mine.road i _ (get_D default (by omega))
   have hrf := hrk.lift
   have hnx := w3.next (show i < a.mine.roads.l.length by omega)
   obtain ⟨r, hre⟩ : ∃ r, r = a.mine.roads.l.getD i default := ⟨_, rfl⟩
   rw [← hre] at hr0 hrk hrf hnx
   refine qbb ?_
   refine qaa ?_
   refine qad ?_
   refine qam ?_
   refine qab ?_
   refine qab ?_
   refine qac ?_
   refine qaa ?_
   refine LJ_q (yv_index_ow tb ((⟨q0, rl⟩ : OwL XRoad)) _ rfl rfl ((show _ = Value.slice _ _ _ from rfl).trans (by simp only [OwL.val, hrl])) rfl (by assumption) (i := i) (by first | rfl | omega | (simp; omega)) (by first | omega | (dsimp only; omega) | (dsimp only; rw [List.length_set]; omega))) rfl ?_
   refine qc1 ?_
   refine qaf ?_
   refine CJ_drawn2 tb [] [0, 1, 2, 3, 4, 5, 6, 7, 8, 9, 10, 11, 12, 13, 14, 15] [16] (((⟨q0, rl⟩ : OwL XRoad).L 68 XRoad.cells ++ [])) _ mixed (by kernel_rfl) (by repeat (first | exact zs0 _ | exact zs1 _ | apply zs2 | apply zs3 | apply zs4 | apply zs5)) (List.nil_sublist _) ?_
   refine qb3 ?_
   refine qb3 ?_
   refine DJ3_q (yv_nilCheck rfl) rfl rfl rfl rfl ?_
   refine qcv ?_
   refine qcv ?_
   refine DJ3_q (yv_load1_ow tb ((⟨q0, rl⟩ : OwL XRoad)) rfl rfl rfl (by repeat (first | apply OSeg.cons | exact OSeg.here | exact OSeg.last | exact OSeg.at (by assumption) | apply OSeg.app)) (by assumption) (fun _ => rfl) (by assumption) (by rfl)) rfl rfl rfl rfl ?_
   refine DJ3_q (yv_neg64 rfl (by omega) (by omega)) rfl rfl rfl rfl ?_
   refine qb3 ?_
   refine DJ3_q (yv_nilCheck rfl) rfl rfl rfl rfl ?_
   refine qcv ?_
   refine qcv ?_
   refine DJ3_q (yv_load1_ow tb ((⟨q0, rl⟩ : OwL XRoad)) rfl rfl rfl (by repeat (first | apply OSeg.cons | exact OSeg.here | exact OSeg.last | exact OSeg.at (by assumption) | apply OSeg.app)) (by assumption) (fun _ => rfl) (by assumption) (by rfl)) rfl rfl rfl rfl ?_
   refine DJ3_q (yv_neg64 rfl (by omega) (by omega)) rfl rfl rfl rfl ?_
   refine qcw ?_
   refine DJ3_q (yv_nilCheck rfl) rfl rfl rfl rfl ?_
   refine qcv ?_
   refine qba ?_
   refine DJ_g0 (gives_storeN_ow tb ((⟨q0, rl⟩ : OwL XRoad)) (turnR r) rfl rfl rfl rfl (by repeat (first | apply OSeg.cons | exact OSeg.here | exact OSeg.last | exact OSeg.at (by assumption) | apply OSeg.app)) (by assumption) (fun _ => rfl) (by assumption) (Nat.le_of_ble_eq_true rfl) (by rfl) (by rfl)) rfl rfl ?_
   rintro v L' R' ⟨rfl, rfl⟩
   refine qa1 ?_
   refine qby ?_
   refine qar ?_
   refine qaa ?_
   refine qav ?_
   exact q_k ⟨(i + 1, rl.set i (turnR r)), by dsimp only; omega, OwL.len_ok (fun _ => rfl) w2 (by simp), hnx⟩
  ·
   obtain rfl : i = a.mine.roads.l.length := by omega
   refine qcf ?_
   refine qab ?_
   refine qac ?_
   refine qag ?_
   refine qaa ?_
   refine qa2 ?_
   refine CJ_forget [(4, Value.pointer _), (5, Value.pointer _), (7, Value.slice _ _ _), (8, Value.pointer _), (71, Value.int _ _), (72, Value.int _ _)] (by repeat' (first | exact trivial | refine And.intro rfl ?_)) fun tq1 => ?_
   refine q_p [11, 72, 73, 74, 75, 76, 77, 78, 79, 80, 81, 82, 83, 84, 85, 86, 87] ((⟨fun g => [(72, .int .i64 ((g.1.1 : Nat) : Int))], fun g => ⟨b8, [(⟨p0, a.mine.places.l⟩ : OwL XPlace).val, (⟨q0, a.mine.roads.l⟩ : OwL XRoad).val, (⟨o36, a.fans.l⟩ : OwL XFan).val, a.doors.val], 32⟩ :: ((⟨o36, g.1.2⟩ : OwL XFan).L 71 XFan.cells ++ ((⟨q0, rl⟩ : OwL XRoad).L 68 XRoad.cells ++ ((⟨p0, a.mine.places.l⟩ : OwL XPlace).L 46 XPlace.cells ++ (⟨b6, x.cells, 37⟩ :: ⟨b5, s.cells, 35⟩ :: ⟨b4, a.cells, 32⟩ :: cblk c (codes300 y) k2 :: [])))), fun _ => R2, fun g => a.fans.l.length - g.1.1⟩ : Head {g : Nat × List XFan // g.1 ≤ a.fans.l.length ∧ (⟨o36, g.2⟩ : OwL XFan).ok 4 XFan.cells ∧ MapTo turnF a.fans.l g.1 g.2})) (⟨(0, a.fans.l), by dsimp only; omega, hok36, .zero⟩) ?_
   rintro ⟨⟨j, fl⟩, u1, u2, u3⟩ junk
   try dsimp only
   dsimp only at u1 u2 u3
   have hfl := u3.len
   refine qae ?_
   refine qaj ?_
   refine qa4 ?_
   refine q_c (fun hc1 => ?_) (fun hc1 => ?_)
   ·
    have hf0 := get_D (l := fl) (k := j) default (by omega)
    rw [u3.get j (by omega), if_neg (by omega)] at hf0
    have hnx := u3.next (show j < a.fans.l.length by omega)
    obtain ⟨f, hfe⟩ : ∃ f, f = a.fans.l.getD j default := ⟨_, rfl⟩
    rw [← hfe] at hf0 hnx
    refine qbb ?_
    refine qaa ?_
    refine qad ?_
    refine qaf ?_
    refine CJ_drawn2 tb [] [0, 1, 2, 3, 4, 5, 6, 7, 8, 9, 10, 11] [12] ((⟨b8, [(⟨p0, a.mine.places.l⟩ : OwL XPlace).val, (⟨q0, a.mine.roads.l⟩ : OwL XRoad).val, (⟨o36, a.fans.l⟩ : OwL XFan).val, a.doors.val], 32⟩ :: ((⟨o36, fl⟩ : OwL XFan).L 71 XFan.cells ++ []))) _ mixed (by kernel_rfl) (by repeat (first | exact zs0 _ | exact zs1 _ | apply zs2 | apply zs3 | apply zs4 | apply zs5)) (show List.Sublist (⟨b8, [(⟨p0, a.mine.places.l⟩ : OwL XPlace).val, (⟨q0, a.mine.roads.l⟩ : OwL XRoad).val, (⟨o36, a.fans.l⟩ : OwL XFan).val, a.doors.val], 32⟩ :: []) _ from List.Sublist.cons_cons _ (List.nil_sublist _)) ?_
    refine qan ?_
    refine qau ?_
    refine qbf ?_
    refine qan ?_
    refine qau ?_
    refine qbf ?_
    refine DJ3_q (yv_index_ow tb ((⟨o36, fl⟩ : OwL XFan)) _ rfl rfl ((show _ = Value.slice _ _ _ from rfl).trans (by simp only [OwL.val, hfl])) rfl (by assumption) (i := j) (by first | rfl | omega | (simp; omega)) (by first | omega | (dsimp only; omega) | (dsimp only; rw [List.length_set]; omega))) rfl rfl rfl rfl ?_
    refine qcv ?_
    refine DJ3_q (yv_load1_ow tb ((⟨o36, fl⟩ : OwL XFan)) rfl rfl rfl (by repeat (first | apply OSeg.cons | exact OSeg.here | exact OSeg.last | exact OSeg.at (by assumption) | apply OSeg.app)) (by assumption) (fun _ => rfl) (by assumption) (by rfl)) rfl rfl rfl rfl ?_
    refine DJ3_q (yv_not rfl) rfl rfl rfl rfl ?_
    refine DJ3_q (yv_index_ow tb ((⟨o36, fl⟩ : OwL XFan)) _ rfl rfl ((show _ = Value.slice _ _ _ from rfl).trans (by simp only [OwL.val, hfl])) rfl (by assumption) (i := j) (by first | rfl | omega | (simp; omega)) (by first | omega | (dsimp only; omega) | (dsimp only; rw [List.length_set]; omega))) rfl rfl rfl rfl ?_
    refine qcv ?_
    refine qba ?_
    refine DJ_g0 (gives_store1_ow tb ((⟨o36, fl⟩ : OwL XFan)) (turnF f) rfl rfl rfl rfl (by repeat (first | apply OSeg.cons | exact OSeg.here | exact OSeg.last | exact OSeg.at (by assumption) | apply OSeg.app)) (by assumption) (fun _ => rfl) (by assumption) (by decide) (by rfl) (by rfl)) rfl rfl ?_
    rintro v L' R' ⟨rfl, rfl⟩
    refine qa1 ?_
    refine qby ?_
    refine qar ?_
    refine qaa ?_
    refine qav ?_
    exact q_k ⟨(j + 1, fl.set j (turnF f)), by dsimp only; omega, OwL.len_ok (fun _ => rfl) u2 (by simp), hnx⟩
   ·
    obtain rfl : j = a.fans.l.length := by omega
    refine qbk ?_
    refine qbm ?_
    refine qag ?_
    refine qc7 ?_
    rintro v L' R' ⟨b90, rfl, rfl, hR90⟩
    replace hR90 := hR90.symm; subst hR90
    refine qc4 ?_
    refine qco ?_
    refine CJ_L (made_ow (f := icell) (x := 0) rfl _) ?_
    refine qay ?_
    refine qbm ?_
    refine qag ?_
    refine qaa ?_
    refine qa2 ?_
    refine CJ_forget [(4, Value.pointer _), (5, Value.pointer _), (7, Value.slice _ _ _), (8, Value.pointer _), (12, Value.slice _ _ _), (92, Value.int _ _), (93, Value.int _ _)] (by repeat' (first | exact trivial | refine And.intro rfl ?_)) fun tq2 => ?_
    refine q_p [13, 93, 94, 95, 96, 97, 98, 99, 100, 101, 102, 103, 104] ((⟨fun g => [(93, .int .i64 ((g.1.1 : Nat) : Int))], fun g => (⟨.own b90 l.l.length [], g.1.2⟩ : OwL Int).L 3 icell ++ (⟨b8, [(⟨p0, a.mine.places.l⟩ : OwL XPlace).val, (⟨q0, a.mine.roads.l⟩ : OwL XRoad).val, (⟨o36, a.fans.l⟩ : OwL XFan).val, a.doors.val], 32⟩ :: ((⟨o36, fl⟩ : OwL XFan).L 71 XFan.cells ++ ((⟨q0, rl⟩ : OwL XRoad).L 68 XRoad.cells ++ ((⟨p0, a.mine.places.l⟩ : OwL XPlace).L 46 XPlace.cells ++ (⟨b6, x.cells, 37⟩ :: ⟨b5, s.cells, 35⟩ :: ⟨b4, a.cells, 32⟩ :: cblk c (codes300 y) k2 :: []))))), fun _ => R2, fun g => l.l.length - g.1.1⟩ : Head {g : Nat × List Int // g.1 ≤ l.l.length ∧ NegTo l.l g.1 g.2})) (⟨(0, List.replicate l.l.length 0), by dsimp only; omega, ⟨by simp, fun j hj => by omega⟩⟩) ?_
    rintro ⟨⟨k, dl⟩, v1, v2⟩ junk
    try dsimp only
    dsimp only at v1 v2
    have hdl := v2.len
    have hdk : (⟨.own b90 l.l.length [], dl⟩ : OwL Int).ok 1 icell := by have := made_ok (f := icell) (wd := 1) (b := b90) (n := l.l.length) (x := 0) icell_len (by simp only [maxLen]; omega); exact OwL.len_ok icell_len this (by simp; exact hdl)
    have hll : l.arr.l.length = l.l.length := rfl
    refine qae ?_
    refine qaj ?_
    refine qa4 ?_
    refine q_c (fun hc2 => ?_) (fun hc2 => ?_)
    ·
     have g1 := get_D (l := l.l) (k := k) 0 (by omega)
     have g2 := get_D (l := dl) (k := k) 0 (by omega)
     have g3 := hso.hp.get k
     refine qbb ?_
     refine qaa ?_
     refine qad ?_
     refine LJ_nil (seqK_normal (CJ_region ?_))
     refine qbm ?_
     refine qaa ?_
     refine qbm ?_
     refine qaa ?_
     refine LJ_q (by first | exact yv_index_ro tb rfl rfl rfl rfl (by first | assumption | exact zr (by simp)) (i := k) (by first | rfl | omega | (simp; omega)) (by omega) | exact yv_index tb rfl rfl rfl rfl (i := k) (by first | rfl | omega | (simp; omega)) (by omega)) rfl ?_
     refine qa7 ?_
     refine qcq ?_
     refine LJ_q (yv_index_ow tb ((⟨.own b90 l.l.length [], dl⟩ : OwL Int)) _ rfl rfl ((show _ = Value.slice _ _ _ from rfl).trans (own_val hdl)) rfl (by assumption) (i := k) (by first | rfl | omega | (simp; omega)) (by first | omega | (dsimp only; omega) | (dsimp only; rw [List.length_set]; omega))) rfl ?_
     refine LJ_g0 (gives_store1_ow tb ((⟨.own b90 l.l.length [], dl⟩ : OwL Int)) (-(l.l.getD k 0)) rfl rfl rfl rfl (by repeat (first | apply OSeg.cons | exact OSeg.here | exact OSeg.last | exact OSeg.at (by assumption) | apply OSeg.app)) (by assumption) (fun _ => rfl) (by assumption) (by decide) (by rfl) (by rfl)) ?_
     rintro v L' R' ⟨rfl, rfl⟩
     refine qcs ?_
     refine qar ?_
     refine qaa ?_
     refine qav ?_
     exact q_k ⟨(k + 1, dl.set k (-(l.l.getD k 0))), by dsimp only; omega, v2.next (by omega)⟩
    ·
     obtain rfl : k = l.l.length := by omega
     have hde := v2.done
     refine qc3 ?_
     have evq : (⟨q0, a.mine.roads.l⟩ : OwL XRoad).val = (⟨q0, rl⟩ : OwL XRoad).val := by simp only [OwL.val, hrl]
     have evf : (⟨o36, a.fans.l⟩ : OwL XFan).val = (⟨o36, fl⟩ : OwL XFan).val := by simp only [OwL.val, hfl]
     rw [evq, evf]
     refine CJ_L (show _ = (⟨.own b90 l.l.length [], dl⟩ : OwL Int).L 3 icell ++ (⟨b8, [(⟨p0, a.mine.places.l⟩ : OwL XPlace).val, (⟨q0, rl⟩ : OwL XRoad).val, (⟨o36, fl⟩ : OwL XFan).val, a.doors.val], 32⟩ :: (((⟨o36, fl⟩ : OwL XFan).L 71 XFan.cells ++ ((⟨q0, rl⟩ : OwL XRoad).L 68 XRoad.cells ++ (⟨p0, a.mine.places.l⟩ : OwL XPlace).L 46 XPlace.cells)) ++ (⟨b6, x.cells, 37⟩ :: ⟨b5, s.cells, 35⟩ :: ⟨b4, a.cells, 32⟩ :: cblk c (codes300 y) k2 :: []))) by simp only [List.append_assoc]) ?_
     refine CJ_turn fun cc w hst => ⟨_, _, hst.perm perm_back, ?_⟩
     refine CJ_L (by simp only [List.append_assoc]; rfl) ?_
     refine CJ_frz1 (A := []) (wd := 4) (fl.map XFan.sl) (fun _ => rfl) (by decide) u2 (fun s hs => by
       obtain ⟨f, hf, rfl⟩ := List.mem_map.1 hs
       obtain ⟨j, hj⟩ := List.mem_iff_getElem?.1 hf
       have hjl := (List.getElem?_eq_some_iff.1 hj).1
       have e1 : fl.getD j default = f := getD_some hj
       rw [u3.get j (by omega), if_pos (by omega)] at e1
       have hmem := List.mem_of_getElem? (get_D (l := a.fans.l) (k := j) default (by omega))
       rw [← e1]
       exact InR.sub hfa (.deep (List.mem_map.2 ⟨_, hmem, rfl⟩) .here)) ?_
     refine CJ_L (by simp only [List.nil_append]; rfl) ?_
     refine CJ_frz1 (A := []) (wd := 10) [] (fun _ => rfl) (by decide) w2 (fun s hs => by cases hs) ?_
     refine CJ_L (by simp only [List.nil_append]; rfl) ?_
     refine CJ_frz1 (A := []) (wd := 2) [] (fun _ => rfl) (by decide) ok1 (fun s hs => by cases hs) ?_
     refine CJ_L (by simp only [List.nil_append]; rfl) ?_
     obtain ⟨R3, hR3e⟩ : ∃ R3, R3 = psl (⟨p0, a.mine.places.l⟩ : OwL XPlace).arr :: rsl (⟨q0, rl⟩ : OwL XRoad).arr :: fsl (⟨o36, fl⟩ : OwL XFan).arr :: R2 := ⟨_, rfl⟩
     have hR3 : ∀ r ∈ R2, InR r R3 := fun r hr => inR_self (by rw [hR3e]; exact .tail _ (.tail _ (.tail _ hr)))
     obtain ⟨b, hbe⟩ : ∃ b : XAir, b = ⟨⟨(⟨p0, a.mine.places.l⟩ : OwL XPlace).arr, (⟨q0, rl⟩ : OwL XRoad).arr⟩, (⟨o36, fl⟩ : OwL XFan).arr, a.doors⟩ := ⟨_, rfl⟩
     have hB : AirR b R3 := by
       rw [hbe, hR3e]
       exact ⟨inR_self (.head _), inR_self (.tail _ (.head _)), inR_self (.tail _ (.tail _ (.head _))), (hA2.doors).mono fun r hr => inR_self (.tail _ (.tail _ (.tail _ hr)))⟩
     have hTu : Turned a b := by rw [hbe]; exact turned_of rfl w3 u3 rfl
     refine CJ_weak (R' := R3) (List.Sublist.refl _) (fun r hr => inR_self (by rw [hR3e] at hr; exact hr)) ?_
     refine CJ_L (show _ = (⟨.own b90 l.l.length [], dl⟩ : OwL Int).L 3 icell ++ (⟨b8, b.cells, 32⟩ :: (⟨b6, x.cells, 37⟩ :: ⟨b5, s.cells, 35⟩ :: ⟨b4, a.cells, 32⟩ :: cblk c (codes300 y) k2 :: [])) by rw [hbe]; rfl) ?_
     have hbn : b.mine.places.l.length = a.mine.places.l.length := by rw [hTu.places]
     have hberr := hTu.err hMA
     have hbfit : fitB b s = true := hTu.fits.trans hMA.fit
     have hrel := hTu.relax hae (airOk_of hberr) hso hberr hbfit
     refine qay ?_
     refine qa8 ?_
     refine qbe ?_
     refine qbm ?_
     refine LJ_call rfl (relRise0 a s l.arr A _ _ (airR_mono hA2 hR3) (setR_mono hT2 hR3) (hlR.mono hR3) (fun _ => hAA)) rfl ?_
     rintro v L' R' ⟨p1, rfl, o1, e1, rfl, rfl⟩
     refine LJ_q (yv_move rfl) rfl ?_
     refine qbs ?_
     refine qbs ?_
     refine qc4 ?_
     refine qad ?_
     refine qam ?_
     refine qa8 ?_
     refine qbe ?_
     refine qbm ?_
     refine LJ_call rfl (relFallL (q := (⟨.own b90 l.l.length [], dl⟩ : OwL Int)) ((show _ = Value.slice _ _ _ from rfl).trans (own_val hdl)) hB (setR_mono hT2 hR3) (fun _ => hTu.airy hAA) (by repeat (first | exact inB_here | apply inB_cons | apply inB_app)) hdk) rfl ?_
     rintro v L' R' ⟨q1, rfl, o2, e2, rfl, rfl⟩
     replace e1 : p1.l = (relaxS a s A true l.l).2 := e1
     rw [show ((⟨.own b90 l.l.length [], dl⟩ : OwL Int) : OwL Int).l = negL l.l from hde, hrel] at e2
     rw [show (relaxS b s A false ((⟨.own b90 l.l.length [], dl⟩ : OwL Int) : OwL Int).l).1 = (relaxS a s A true l.arr.l).1 by rw [show ((⟨.own b90 l.l.length [], dl⟩ : OwL Int) : OwL Int).l = negL l.l from hde, hrel]]
     replace e2 : q1.l = negL p1.l := by rw [e1]; exact e2
     have hlq : q1.l.length = p1.l.length := by rw [e2]; simp
     have hp1p : PresOk p1.l := by rw [e1]; exact relaxS_pres _ _ _ _ _
     have hp1l : p1.l.length ≤ 64 := by
       rw [e1]
       rcases Int.decEq (relaxS a s A true l.l).1 0 with h | h
       · rw [relaxS_fail h]; simp
       · have := (relaxS_len h).1; omega
     refine LJ_q (yv_move rfl) rfl ?_
     refine qbs ?_
     refine qbs ?_
     refine qc4 ?_
     refine qad ?_
     refine qaw ?_
     refine qaa ?_
     refine qaa ?_
     refine qbq ?_
     refine qah ?_
     apply LJ_or (G := [_, _, _, _, _]) (j := 3) (cj := 122) rfl rfl (by rfl) rfl (show _ = Value.bool _ from rfl) rfl
     ·
      intro hg4
      replace hg4 := qb hg4
      refine qbm ?_
      refine qag ?_
      refine qbm ?_
      refine qag ?_
      refine qbq ?_
      exact qai
     intro junk4
     refine qaf ?_
     refine q_c (fun hc3 => ?_) (fun hc3 => ?_)
     ·
      (exfalso; rcases hc3 with h | h; exact h trivial; omega)
     ·
      refine qbo ?_
      refine qbm ?_
      refine qag ?_
      refine qaa ?_
      refine qa2 ?_
      refine CJ_forget [(14, Value.slice _ _ _), (16, Value.slice _ _ _), (130, Value.int _ _), (131, Value.int _ _)] (by repeat' (first | exact trivial | refine And.intro rfl ?_)) fun tq3 => ?_
      refine q_s [2, 18, 131, 132, 133, 134, 135, 136, 137, 138, 139, 140, 141, 142, 143, 144] (fun g : {k : Nat // k ≤ p1.l.length} => [(131, .int .i64 ((g.1 : Nat) : Int))]) (fun g => p1.l.length - g.1) (⟨0, by omega⟩) ?_
      rintro ⟨kk, hkk⟩ junk
      try dsimp only
      refine qae ?_
      refine qaj ?_
      refine qa4 ?_
      refine q_c (fun hc4 => ?_) (fun hc4 => ?_)
      ·
       have g1 := get_D (l := p1.l) (k := kk) 0 (by omega)
       have g2 := get_D (l := q1.l) (k := kk) 0 (by omega)
       have g3 : q1.l.getD kk 0 = -(p1.l.getD kk 0) := by rw [e2, negL_getD]
       have g4 := hp1p.get kk
       refine qbb ?_
       refine qaa ?_
       refine qad ?_
       refine qa4 ?_
       refine CJ_drawn tb [0, 1, 2, 3, 4, 5, 6, 7, 8, 9] ((q1.L 3 icell ++ (p1.L 3 icell ++ []))) mixed (by kernel_rfl) (by repeat (first | exact zs0 _ | exact zs1 _ | apply zs2 | apply zs3 | apply zs4 | apply zs5)) ?_
       refine DJ_q (yv_move (show _ = Value.slice _ _ _ from rfl)) rfl rfl rfl ?_
       refine qao ?_
       refine DJ_q (yv_index_ow tb (p1) _ rfl rfl rfl rfl (by assumption) (i := kk) (by first | rfl | omega | (simp; omega)) (by first | omega | (dsimp only; omega) | (dsimp only; rw [List.length_set]; omega))) rfl rfl rfl ?_
       refine DJ_q (yv_load1_ow tb (p1) rfl rfl rfl (by repeat (first | apply OSeg.cons | exact OSeg.here | exact OSeg.last | exact OSeg.at (by assumption) | apply OSeg.app)) (by assumption) (fun _ => rfl) (by assumption) (by rfl)) rfl rfl rfl ?_
       refine DJ_q (yv_move (show _ = Value.slice _ _ _ from rfl)) rfl rfl rfl ?_
       refine qao ?_
       refine DJ_q (yv_index_ow tb (q1) _ rfl rfl rfl rfl (by assumption) (i := kk) (by first | rfl | omega | (simp; omega)) (by first | omega | (dsimp only; omega) | (dsimp only; rw [List.length_set]; omega))) rfl rfl rfl ?_
       refine DJ_q (yv_load1_ow tb (q1) rfl rfl rfl (by repeat (first | apply OSeg.cons | exact OSeg.here | exact OSeg.last | exact OSeg.at (by assumption) | apply OSeg.app)) (by assumption) (fun _ => rfl) (by assumption) (by rfl)) rfl rfl rfl ?_
       refine DJ_q (yv_neg64 rfl (by omega) (by omega)) rfl rfl rfl ?_
       refine DJ_q (yv_neq rfl rfl) rfl rfl rfl ?_
       refine qbu ?_
       refine q_c (fun hc5 => ?_) (fun hc5 => ?_)
       ·
        exact absurd hc5 (by omega)
       ·
        refine qbj ?_
        refine qar ?_
        refine qaa ?_
        refine qav ?_
        exact q_k (⟨kk + 1, by omega⟩)
      ·
       refine qbk ?_
       refine q_l rfl (awake12_tri _ _) ?_
       refine qaz ?_
       refine qa0 ?_
       refine retK_ret (L' := []) (R' := R) (res1 rfl (rv_tmp (show _ = Value.bool _ from rfl))) ?hp ?hL ?hR
       case hp => exact ⟨rfl, rfl, rfl⟩
       case hL => exact List.nil_sublist _
       case hR => exact fun r hr => ((hR0 r hr).mono hR2).mono hR3
end Go.Proofs.Ytjjfpglgonpciaa
