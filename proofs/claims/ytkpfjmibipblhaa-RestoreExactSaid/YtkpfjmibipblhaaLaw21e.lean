/-
  Statements about chapter 21: to the second. By an AI agent; no person has read it.
-/
import Derived.Test.YtkpfjmibipblhaaLaw21d
set_option linter.unusedSimpArgs false
set_option linter.unusedVariables false
namespace Go.Proofs.Ytkpfjmibipblhaa
open Go.Aw Go
set_option maxRecDepth 20000
attribute [local irreducible] CJ LJ DJ Tri YV Gives seqK blockK loopK retK RV mergeK OwL.L
section
variable {A9 B9 : Prop}
theorem ycxaa (a : A9) (h : A9 → B9 := by exact LJ_q (by first | exact yv_pick_true rfl rfl | exact yv_pick_false rfl rfl | exact yv_pick rfl) rfl) : B9 := h a
theorem ycxab (a : A9) (h : A9 → B9 := by exact LJ_q (yv_loadN (row := [_, _, _, _, _, _, _, _]) tb rfl rfl rfl (by repeat (first | exact zi0 | apply zi1 | apply zi2)) (by rfl) (by rfl)) rfl) : B9 := h a
theorem ycxac (a : A9) (h : A9 → B9 := by exact LJ_qg (yv_move (show _ = Value.slice _ _ _ from rfl)) rfl rfl) : B9 := h a
theorem ycxad (a : A9) (h : A9 → B9 := by exact LJ_qg (yv_load1 tb rfl rfl rfl (by repeat (first | exact zi0 | apply zi1 | apply zi2)) (by rfl)) rfl rfl) : B9 := h a
theorem ycxae (a : A9) (h : A9 → B9 := by exact LJ_q (yv_loadN (row := [_, _, _, _, _]) tb rfl rfl rfl (by repeat (first | exact zi0 | apply zi1 | apply zi2)) (by rfl) (by rfl)) rfl) : B9 := h a
theorem ycxaf (a : A9) (h : A9 → B9 := by exact LJ_qg (yv_loadN (row := [_, _, _, _, _, _, _, _]) tb rfl rfl rfl (by repeat (first | exact zi0 | apply zi1 | apply zi2)) (by rfl) (by rfl)) rfl rfl) : B9 := h a
theorem ycxag (a : A9) (h : A9 → B9 := by exact LJ_q (yv_loadN (row := [_, _, _]) tb rfl rfl rfl (by repeat (first | exact zi0 | apply zi1 | apply zi2)) (by rfl) (by rfl)) rfl) : B9 := h a
theorem ycxah (a : A9) (h : A9 → B9 := by exact CJ_weak (L' := ⟨b23, (confirmR s [⟨true, cl, 0⟩] [⟨q, q + 5⟩] ⟨0, 0, -1, 1, tt⟩ 1 (tt + 600 + 1)).cells, 78⟩ :: ⟨b21, XRest.cells ⟨0, 0, 1, 2, tt + 600⟩, 78⟩ :: ⟨b19, XRest.cells ⟨0, 0, -1, 1, tt⟩, 78⟩ :: ⟨b8, f.cells, 71⟩ :: ⟨b7, s.cells, 36⟩ :: []) (.cons _ (.cons _ ((((List.Sublist.refl _).trans (List.sublist_append_right _ _)).trans (List.sublist_append_right _ _)).trans (List.sublist_append_right _ _)))) (allR_self _)) : B9 := h a
theorem ycxai (a : A9) (h : A9 → B9 := by exact LJ_g (gives_buildSlice (qs := [(0, (Value.agg _).cells.toList)]) (out := [_, _]) tb rfl rfl rfl rfl rfl rfl rfl) rfl) : B9 := h a
end
theorem sure_fwd {q : Int} (hq : 1 ≤ q) : sureS ⟨q, q + 5⟩ = q := by
  have e : dirS ⟨q, q + 5⟩ = 1 := by unfold dirS; dsimp only; rw [if_neg (by omega), if_pos (by omega)]
  rw [sureS, if_pos e]
theorem sure_bck {q : Int} (hq : 1 ≤ q) : sureS ⟨-q - 3, -q⟩ = q := by
  have e : dirS ⟨-q - 3, -q⟩ = -1 := by unfold dirS; dsimp only; rw [if_neg (by omega), if_neg (by omega), if_pos (by omega)]
  rw [sureS, if_neg (by omega), if_pos e, Int.neg_neg]
section
variable {s : XSite} {len dl ho : Int} (h : EasyD s len dl ho)
include h
theorem exact_ready {q cl tt nd : Int} {x : XSpan} (hq : 1 ≤ q) (hx : sureS x = q) (hc : 0 ≤ cl) (hn : nd = 4000 * len) (htt : tt = cl + max ho ((nd + q - 1).tdiv q)) (t : Int) : readyE s [⟨true, cl, 0⟩] [x] 0 t = if tt ≤ t then 0 else 20 := by
  have hr := h.rng
  have hce := fun l => ceil_iff (n := nd) (s := q) (l := l) (by omega) (by omega)
  rw [easy_ready h hc, hx, ← hn]
  by_cases h1 : t < cl ∨ t - cl < ho
  · rw [if_pos h1, if_neg (by omega)]
  · rw [if_neg h1]
    have h2 := hce (t - cl)
    rw [Int.mul_comm] at h2
    by_cases h3 : 0 < q ∧ nd ≤ q * (t - cl)
    · rw [if_pos h3, if_pos]
      have := h2.2 h3.2
      omega
    · rw [if_neg h3, if_neg]
      intro h4
      exact h3 ⟨by omega, h2.1 (by omega)⟩
theorem exact_readyF {c : List XCut} {fl : List XSpan} {t : Int} (hc : c.length = 1) (hf : fl.length = 1) (ht : 0 ≤ t ∧ t ≤ 2147483648) : readyF s c fl 0 t = readyE s c fl 0 t := by
  rw [readyF, hc, hf, easy_shared h ht, if_neg (by decide)]
end
theorem restoreExact_law (y : Arr Int) (flow cl : Int) (R : List Sl) (hy : CodesR y R) (hw : 0 ≤ flow ∧ flow ≤ 65535) (he : 0 ≤ cl ∧ cl ≤ 255) :
    Tri Try.prog 9 [y.val, .int .u16 flow, .int .u8 cl].toArray [] R (fun v L' R' => v = .bool true ∧ [] = L' ∧ R = R') := by
  refine tri_enter 273 Try.call9 Try.func9 rfl rfl rfl ?_
  refine qae ?_
  refine qaz ?_
  refine qam ?_
  refine qbm ?_
  refine LJ_call rfl (new_tri y _ _ hy) rfl ?_
  rintro v L' R' ⟨c, rfl, hx, rfl, rfl⟩
  refine LJ_call rfl (drawEasy_tri c _ 0 _ hx (Nat.zero_le _)) rfl ?_
  rintro v L' R' ⟨s, len, dl, ho, sw, zn, n, k1, rfl, hE, ⟨hsk, hzk⟩, hn, hsl, hzl, ⟨hk1, _⟩, ⟨hs, hR0⟩, rfl⟩
  refine LJ_q (yv_move rfl) rfl ?_
  refine qbs ?_
  refine qbs ?_
  refine qaq ?_
  intro b7
  refine qaq ?_
  intro b8
  refine qak ?_
  refine qak ?_
  refine qco ?_
  obtain ⟨so, sl⟩ := sw
  obtain ⟨zo, zl⟩ := zn
  obtain rfl : sl = chainS n := hsl
  obtain rfl : zl = [(n : Int) - 1] := hzl
  have hRR : ∀ r ∈ R, InR r R' := fun r hr => hR0 r (.tail _ hr)
  have hcn := chainS_len (n := n)
  refine qay ?_
  refine qab ?_
  refine qac ?_
  refine qag ?_
  refine qaa ?_
  refine qa2 ?_
  refine CJ_forget [(1, Value.int _ _), (2, Value.int _ _), (7, Value.pointer _), (8, Value.pointer _), (45, Value.int _ _), (46, Value.int _ _)] (by repeat' (first | exact trivial | refine And.intro rfl ?_)) fun tq0 => ?_
  refine q_p [9, 46, 47, 48, 49, 50, 51, 52, 53, 54, 55, 56, 57, 58, 59] ((⟨fun g => [(46, .int .i64 ((g.1.1 : Nat) : Int))], fun g => ⟨b8, [(⟨so, chainS n⟩ : OwL XSwitch).val, (⟨zo, [(n : Int) - 1]⟩ : OwL Int).val, .int .i64 3], 71⟩ :: ⟨b7, s.cells, 36⟩ :: ((⟨so, g.1.2⟩ : OwL XSwitch).L 98 XSwitch.cells ++ ((⟨zo, [(n : Int) - 1]⟩ : OwL Int).L 3 icell ++ (cblk c (codes300 y) k1 :: []))), fun _ => R', fun g => n - g.1.1⟩ : Head {g : Nat × List XSwitch // g.1 ≤ n ∧ WrO (chainS n) (fun j : Nat => (⟨(j : Int) - 1, 0, -1, false, false⟩ : XSwitch)) g.1 g.2})) (⟨(0, chainS n), by dsimp only; omega, WrO.zero⟩) ?_
  rintro ⟨⟨i, l⟩, hi, hW⟩ junk
  try dsimp only
  dsimp only at hi hW
  have hll : l.length = n := hW.len.trans hcn
  have hlk : (⟨so, l⟩ : OwL XSwitch).ok 5 XSwitch.cells := OwL.len_ok (fun _ => rfl) hsk (by rw [hll, hcn])
  refine qae ?_
  refine qaj ?_
  refine qa4 ?_
  refine q_c (fun hc0 => ?_) (fun hc0 => ?_)
  ·
   have hlg : l[i]? = some ⟨(i : Int) - 1, 0, 0, true, false⟩ := (hW.old i (Nat.le_refl _)).trans (chain_get (by omega))
   have hlk1 : (⟨so, l.set i ⟨(i : Int) - 1, 0, 0, false, false⟩⟩ : OwL XSwitch).ok 5 XSwitch.cells := OwL.set_ok (f := XSwitch.cells) (wd := 5) (p := (⟨so, l⟩ : OwL XSwitch)) (i := i) (x := ⟨(i : Int) - 1, 0, 0, false, false⟩) (fun _ => rfl) hlk
   have hlg1 : (l.set i ⟨(i : Int) - 1, 0, 0, false, false⟩)[i]? = some ⟨(i : Int) - 1, 0, 0, false, false⟩ := List.getElem?_set_self (by omega)
   have hll1 : (l.set i ⟨(i : Int) - 1, 0, 0, false, false⟩).length = l.length := List.length_set
   refine qbb ?_
   refine qaa ?_
   refine qad ?_
   refine qaf ?_
   refine CJ_drawn2 tb [52, 53, 54] [0, 1, 2, 3, 4, 5, 6, 7] [8, 9, 10, 11] ([Blk.mk b8 _ _]) _ mixed (by kernel_rfl) (by repeat (first | exact zs0 _ | exact zs1 _ | apply zs2 | apply zs3 | apply zs4 | apply zs5)) (by (repeat (first | apply List.Sublist.cons (a := Blk.mk b50 _ _) | apply List.Sublist.cons (a := Blk.mk b53 _ _) | apply List.Sublist.cons_cons)); exact List.Sublist.refl _) ?_
   refine qan ?_
   refine qau ?_
   refine qbf ?_
   refine qcp ?_
   refine qcu ?_
   refine DJ3_ql (yv_move (show _ = Value.int _ _ from rfl)) rfl rfl rfl rfl ?_
   refine DJ3_q (yv_index_ow tb ((⟨so, l⟩ : OwL XSwitch)) _ rfl rfl ((show _ = Value.slice _ _ _ from rfl).trans (by simp only [OwL.val, hll, hcn])) rfl (by assumption) (i := i) (by first | rfl | omega | (simp; omega)) (by first | omega | (dsimp only; omega) | (dsimp only; rw [List.length_set]; omega) | (dsimp only; simp only [List.length_set]; omega))) rfl rfl rfl rfl ?_
   refine qcv ?_
   refine qba ?_
   refine DJ_g0 (gives_store1_ow tb ((⟨so, l⟩ : OwL XSwitch)) (⟨(i : Int) - 1, 0, 0, false, false⟩) rfl rfl rfl rfl (by repeat (first | apply OSeg.cons | exact OSeg.here | exact OSeg.last | exact OSeg.at (by assumption) | apply OSeg.app)) (by assumption) (fun _ => rfl) (by assumption) (by decide) (by rfl) (by rfl)) rfl rfl ?_
   rintro v L' R' ⟨rfl, rfl⟩
   refine qa1 ?_
   refine DJ_q (yv_index_ow tb ((⟨so, l.set i ⟨(i : Int) - 1, 0, 0, false, false⟩⟩ : OwL XSwitch)) _ rfl rfl ((show _ = Value.slice _ _ _ from rfl).trans (by simp only [OwL.val, hll1, hll, hcn])) rfl (by assumption) (i := i) (by first | rfl | omega | (simp; omega)) (by first | omega | (dsimp only; omega) | (dsimp only; rw [List.length_set]; omega) | (dsimp only; simp only [List.length_set]; omega))) rfl rfl rfl ?_
   refine qce ?_
   refine DJ_g0 (gives_store1_ow tb ((⟨so, l.set i ⟨(i : Int) - 1, 0, 0, false, false⟩⟩ : OwL XSwitch)) (⟨(i : Int) - 1, 0, -1, false, false⟩) rfl rfl rfl rfl (by repeat (first | apply OSeg.cons | exact OSeg.here | exact OSeg.last | exact OSeg.at (by assumption) | apply OSeg.app)) (by assumption) (fun _ => rfl) (by assumption) (by decide) (by rfl) (by rfl)) rfl rfl ?_
   rintro v L' R' ⟨rfl, rfl⟩
   refine qa1 ?_
   refine qby ?_
   refine qar ?_
   refine qaa ?_
   refine qav ?_
   exact q_k ⟨(i + 1, (l.set i ⟨(i : Int) - 1, 0, 0, false, false⟩).set i ⟨(i : Int) - 1, 0, -1, false, false⟩), by dsimp only; omega, by dsimp only; rw [List.set_set]; exact hW.next (by omega) rfl⟩
  obtain rfl : i = n := by omega
  obtain rfl : l = openS i := (show WrO (chainS i) _ (chainS i).length l by rw [hcn]; exact hW).done.trans (by rw [hcn]; rfl)
  refine qc3 ?_
  have htb : 0 ≤ flow.tmod 9000 ∧ flow.tmod 9000 < 9000 := by rw [Int.tmod_eq_emod_of_nonneg (by omega)]; omega
  have hv : (⟨so, chainS i⟩ : OwL XSwitch).val = (⟨so, openS i⟩ : OwL XSwitch).val := by simp only [OwL.val, hll, hcn]
  rw [hv]
  refine CJ_frz1 (A := (⟨b8, [(⟨so, openS i⟩ : OwL XSwitch).val, (⟨zo, [(i : Int) - 1]⟩ : OwL Int).val, .int .i64 3], 71⟩ :: ⟨b7, s.cells, 36⟩ :: [])) (p := (⟨so, openS i⟩ : OwL XSwitch)) (wd := 5) [] (fun _ => rfl) (by decide) hlk (fun s hs => by cases hs) ?_
  refine CJ_frz1 (A := (⟨b8, [(⟨so, openS i⟩ : OwL XSwitch).val, (⟨zo, [(i : Int) - 1]⟩ : OwL Int).val, .int .i64 3], 71⟩ :: ⟨b7, s.cells, 36⟩ :: [])) (p := (⟨zo, [(i : Int) - 1]⟩ : OwL Int)) (wd := 1) [] (fun _ => rfl) (by decide) hzk (fun s hs => by cases hs) ?_
  refine CJ_weak (L' := (⟨b8, [(⟨so, openS i⟩ : OwL XSwitch).val, (⟨zo, [(i : Int) - 1]⟩ : OwL Int).val, .int .i64 3], 71⟩ :: ⟨b7, s.cells, 36⟩ :: [])) (List.sublist_append_left _ _) (allR_self _) ?_
  obtain ⟨f, hfe⟩ : ∃ f : XFeeder, f = ⟨(⟨so, openS i⟩ : OwL XSwitch).arr, (⟨zo, [(i : Int) - 1]⟩ : OwL Int).arr, 3⟩ := ⟨_, rfl⟩
  obtain ⟨R2, hR2e⟩ : ∃ R2, R2 = isl f.zones :: swsl f.switches :: R' := ⟨_, rfl⟩
  have hR2 : ∀ r ∈ R', InR r R2 := fun r hr => inR_self (by rw [hR2e]; exact .tail _ (.tail _ hr))
  have hf2 : FeederR f R2 := ⟨inR_self (by rw [hR2e]; exact .tail _ (.head _)), inR_self (by rw [hR2e]; exact .head _)⟩
  have hs2 := hs.mono hR2
  have hfs : f.switches.l = openS i := by rw [hfe]
  have hfz : f.zones.l = [(i : Int) - 1] := by rw [hfe]
  have hfr : f.reply = 3 := by rw [hfe]
  refine CJ_R (show _ = R2 by rw [hR2e, hfe]) ?_
  refine CJ_L (show _ = ⟨b8, f.cells, 71⟩ :: ⟨b7, s.cells, 36⟩ :: [] by rw [hfe]; rfl) ?_
  refine qay ?_
  refine qaa ?_
  refine qdg ?_
  refine qda ?_
  refine qar ?_
  refine qad ?_
  refine qa4 ?_
  obtain ⟨q, hqe⟩ : ∃ q, q = 1 + flow.tmod 9000 := ⟨_, rfl⟩
  have hq : 1 ≤ q ∧ q ≤ 9000 := by omega
  rw [← hqe]
  obtain ⟨z, h7, z1, z2, z3, z4⟩ := hE.zone
  have hrg0 := hE.rng
  have hzg : s.zones.l[0]? = some z := by rw [h7]; rfl
  have hzl : s.zones.l.length = 1 := by rw [h7]; rfl
  obtain ⟨r, hr⟩ : ∃ r, r = easyRoad len := ⟨_, rfl⟩
  have hrg : s.air.mine.roads.l[0]? = some r := by rw [hE.roads, hr]; rfl
  have hrl : s.air.mine.roads.l.length = 1 := by rw [hE.roads]; rfl
  have hr1 : r.len = len := by rw [hr]; rfl
  have hr2 : r.area = 4 := by rw [hr]; rfl
  have hN := need_rng (r := r) (fr := z.fresh) (by omega) (by omega) (by omega)
  have hN2 : 1000 * r.len * r.area * z.fresh = 4000 * len := by rw [hr1, hr2, z4]; omega
  have hzoR := hs2.zones
  have hroR := hs2.air.roads
  refine CJ_drawn tb [0, 1, 2, 3, 4, 5, 6, 7, 8, 9, 10, 11, 12, 13] ([Blk.mk b7 _ _]) mixed (by kernel_rfl) (by repeat (first | exact zs0 _ | exact zs1 _ | apply zs2 | apply zs3 | apply zs4 | apply zs5)) ?_
  refine qal ?_
  refine qat ?_
  refine qdu ?_
  refine qdp ?_
  iterate 3 refine qal ?_
  refine qat ?_
  refine qdu ?_
  refine DJ_q (by first | exact yv_loadN_ro (row := [_, _, _, _, _, _, _, _, _, _]) tb rfl rfl rfl (by first | assumption | exact zr (by simp)) (by assumption) (by rfl) (by rfl) | exact yv_loadN (row := [_, _, _, _, _, _, _, _, _, _]) tb rfl rfl rfl (by repeat (first | exact zi0 | apply zi1 | apply zi2)) (by rfl) (by rfl)) rfl rfl rfl ?_
  refine qbr ?_
  intro b11
  refine qbr ?_
  intro b12
  refine qbg ?_
  refine qbg ?_
  refine DJ_nil (seqK_normal (CJ_seq (CJ_region ?_)))
  refine qab ?_
  refine qac ?_
  refine qcm ?_
  refine qab ?_
  refine qac ?_
  refine qcm ?_
  refine qab ?_
  refine qac ?_
  refine qcm ?_
  refine qad ?_
  refine qa4 ?_
  obtain ⟨nd, hnd⟩ : ∃ nd, nd = 1000 * r.len * r.area * z.fresh := ⟨_, rfl⟩
  rw [← hnd]
  have hnd2 : nd = 4000 * len := by omega
  have hce0 : 0 ≤ (nd + q - 1).tdiv q := Int.tdiv_nonneg (by omega) (by omega)
  have hce1 : (nd + q - 1).tdiv q ≤ nd := (ceil_iff (by omega) (by omega)).2 (by have := Int.mul_le_mul_of_nonneg_left (show 1 ≤ q by omega) (show 0 ≤ nd by omega); omega)
  refine CJ_drawn tb [0, 1, 2, 3, 4, 5, 6, 7, 8, 9] ([Blk.mk b11 _ _]) mixed (by kernel_rfl) (by repeat (first | exact zs0 _ | exact zs1 _ | apply zs2 | apply zs3 | apply zs4 | apply zs5)) ?_
  refine qal ?_
  refine qat ?_
  refine qao ?_
  refine qao ?_
  refine qc2 ?_
  refine qb7 ?_
  refine qao ?_
  refine DJ_q (by first | exact yv_quo64 rfl rfl (by omega) (by omega) (by omega) | exact yv_quoU rfl rfl (by omega) (by omega) (by omega) | exact yv_quo rfl rfl (by omega)) rfl rfl rfl ?_
  refine DJ_q (yv_max2 rfl rfl) rfl rfl rfl ?_
  refine qcg ?_
  refine qb9 ?_
  have hrgn : 1 ≤ len ∧ len ≤ 4 := hrg0.1
  have hho : 1 ≤ ho ∧ ho ≤ 5 := hrg0.2.2
  have hmx : max z.hold ((nd + q - 1).tdiv q) = max ho ((nd + q - 1).tdiv q) := by rw [z2]
  rw [hmx]
  have hmb : 1 ≤ max ho ((nd + q - 1).tdiv q) ∧ max ho ((nd + q - 1).tdiv q) ≤ 16000 := by omega
  refine qay ?_
  refine qaa ?_
  refine qdg ?_
  refine qaa ?_
  refine qar ?_
  refine qad ?_
  refine qa4 ?_
  obtain ⟨tt, htt⟩ : ∃ tt, tt = cl + max ho ((nd + q - 1).tdiv q) := ⟨_, rfl⟩
  have htr : 1 ≤ tt ∧ tt ≤ 16300 := by omega
  rw [← htt]
  have hr1 := exact_ready hE (x := ⟨q, q + 5⟩) hq.1 (sure_fwd hq.1) he.1 hnd2 htt
  have hr2 := exact_ready hE (x := ⟨-q - 3, -q⟩) hq.1 (sure_bck hq.1) he.1 hnd2 htt
  have hF := fun (x : XSpan) (t : Int) (ht : 0 ≤ t ∧ t ≤ 2147483648) => exact_readyF hE (c := [⟨true, cl, 0⟩]) (fl := [x]) rfl rfl ht
  have f1 : readyF s [⟨true, cl, 0⟩] [⟨q, q + 5⟩] 0 tt = 0 := by rw [hF _ _ (by omega), hr1, if_pos (by omega)]
  have f2 : readyF s [⟨true, cl, 0⟩] [⟨q, q + 5⟩] 0 (tt - 1) = 20 := by rw [hF _ _ (by omega), hr1, if_neg (by omega)]
  have f3 : readyF s [⟨true, cl, 0⟩] [⟨-q - 3, -q⟩] 0 tt = 0 := by rw [hF _ _ (by omega), hr2, if_pos (by omega)]
  have f4 : readyF s [⟨true, cl, 0⟩] [⟨-q - 3, -q⟩] 0 (tt - 1) = 20 := by rw [hF _ _ (by omega), hr2, if_neg (by omega)]
  refine qay ?_
  refine qaa ?_
  refine qdg ?_
  refine LJ_q (yv_build (qs := [(0, (Value.bool _).cells.toList), (1, (Value.int _ _).cells.toList)]) (out := [_, _, _]) tb rfl rfl rfl rfl) rfl ?_
  refine LJ_g (gives_buildSlice (qs := [(0, (Value.agg _).cells.toList)]) (out := [_, _, _]) tb rfl rfl rfl rfl rfl rfl rfl) rfl ?_
  rintro v L' R' ⟨b99, rfl, rfl, hR99⟩
  replace hR99 := hR99.symm; subst hR99
  refine LJ_frz (wd := 3) (len := 1) (cap := 1) (rows := [XCut.cells ⟨true, cl, 0⟩]) (subs := []) rfl (by decide) (by decide) (fun r hr => by rw [List.mem_singleton.1 hr]; rfl) (by decide) rfl (fun s hs => by cases hs) ?_
  refine qaa ?_
  refine qaa ?_
  refine qar ?_
  refine qcd ?_
  refine ycxai ?_
  rintro v L' R' ⟨b104, rfl, rfl, hR104⟩
  replace hR104 := hR104.symm; subst hR104
  refine LJ_frz (wd := 2) (len := 1) (cap := 1) (rows := [XSpan.cells ⟨q, q + 5⟩]) (subs := []) rfl (by decide) (by decide) (fun r hr => by rw [List.mem_singleton.1 hr]; rfl) (by decide) rfl (fun s hs => by cases hs) ?_
  refine qc4 ?_
  refine qc4 ?_
  refine qam ?_
  refine qaa ?_
  refine qcq ?_
  refine qa9 ?_
  refine qaa ?_
  refine qcq ?_
  refine qcd ?_
  refine ycxai ?_
  rintro v L' R' ⟨b111, rfl, rfl, hR111⟩
  replace hR111 := hR111.symm; subst hR111
  refine LJ_frz (wd := 2) (len := 1) (cap := 1) (rows := [XSpan.cells ⟨-q - 3, -q⟩]) (subs := []) rfl (by decide) (by decide) (fun r hr => by rw [List.mem_singleton.1 hr]; rfl) (by decide) rfl (fun s hs => by cases hs) ?_
  refine qc4 ?_
  refine qco ?_
  obtain ⟨R3, hR3e⟩ : ∃ R3, R3 = spsl (⟨some ⟨b111, 0, none⟩, 1, [⟨-q - 3, -q⟩]⟩ : Arr XSpan) :: spsl (⟨some ⟨b104, 0, none⟩, 1, [⟨q, q + 5⟩]⟩ : Arr XSpan) :: cusl (⟨some ⟨b99, 0, none⟩, 1, [⟨true, cl, 0⟩]⟩ : Arr XCut) :: R2 := ⟨_, rfl⟩
  have hR3 : ∀ r ∈ R2, InR r R3 := fun r hr => inR_self (by rw [hR3e]; exact .tail _ (.tail _ (.tail _ hr)))
  have hcR : InR (cusl (⟨some ⟨b99, 0, none⟩, 1, [⟨true, cl, 0⟩]⟩ : Arr XCut)) R3 := inR_self (by rw [hR3e]; exact .tail _ (.tail _ (.head _)))
  have hA : RestA s (⟨some ⟨b99, 0, none⟩, 1, [⟨true, cl, 0⟩]⟩ : Arr XCut) (⟨some ⟨b104, 0, none⟩, 1, [⟨q, q + 5⟩]⟩ : Arr XSpan) R3 := ⟨hs2.mono hR3, hcR, inR_self (by rw [hR3e]; exact .tail _ (.head _))⟩
  have hB : RestA s (⟨some ⟨b99, 0, none⟩, 1, [⟨true, cl, 0⟩]⟩ : Arr XCut) (⟨some ⟨b111, 0, none⟩, 1, [⟨-q - 3, -q⟩]⟩ : Arr XSpan) R3 := ⟨hs2.mono hR3, hcR, inR_self (by rw [hR3e]; exact .head _)⟩
  have hf3 := hf2.mono hR3
  have up3 : ∀ r ∈ R, InR r R3 := fun r hr => ((hRR r hr).mono hR2).mono hR3
  refine CJ_R (show _ = R3 by rw [hR3e]; rfl) ?_
  refine CJ_weak (L' := ⟨b8, f.cells, 71⟩ :: ⟨b7, s.cells, 36⟩ :: []) (.cons _ (.cons _ (List.Sublist.refl _))) (allR_self _) ?_
  refine qay ?_
  refine ycxab ?_
  refine qbm ?_
  refine qbm ?_
  refine qaa ?_
  refine q_l rfl (Ready_tri s (⟨some ⟨b99, 0, none⟩, 1, [⟨true, cl, 0⟩]⟩ : Arr XCut) (⟨some ⟨b104, 0, none⟩, 1, [⟨q, q + 5⟩]⟩ : Arr XSpan) 0 tt _ _ hA) ?_
  dsimp only
  rw [f1]
  refine qbq ?_
  refine qah ?_
  refine LJ_case (k := 118) (show _ = Value.bool _ from rfl) (fun hg7 => ?_) (fun hg7 => ?_)
  ·
   replace hg7 := qb hg7
   simp at hg7
  replace hg7 := qb hg7
  refine ycxaf ?_
  refine ycxac ?_
  refine ycxac ?_
  refine LJ_qg (yv_move (show _ = Value.int _ _ from rfl)) rfl rfl ?_
  refine LJ_qg (by first | exact yv_sub64 rfl rfl (by omega) (by omega) | exact yv_sub rfl rfl) rfl rfl ?_
  refine LJ_callg rfl (Ready_tri s (⟨some ⟨b99, 0, none⟩, 1, [⟨true, cl, 0⟩]⟩ : Arr XCut) (⟨some ⟨b104, 0, none⟩, 1, [⟨q, q + 5⟩]⟩ : Arr XSpan) 0 (tt - 1) _ _ hA) rfl rfl ?_
  rintro v L' R' ⟨rfl, rfl, rfl⟩
  dsimp only
  rw [f2]
  refine LJ_qg (yv_neq rfl rfl) rfl rfl ?_
  refine ycxaa ?_
  refine qah ?_
  refine LJ_case (k := 127) (show _ = Value.bool _ from rfl) (fun hg16 => ?_) (fun hg16 => ?_)
  ·
   replace hg16 := qb hg16
   simp at hg16
  replace hg16 := qb hg16
  refine ycxaf ?_
  refine ycxac ?_
  refine ycxac ?_
  refine LJ_qg (yv_move (show _ = Value.int _ _ from rfl)) rfl rfl ?_
  refine LJ_callg rfl (Ready_tri s (⟨some ⟨b99, 0, none⟩, 1, [⟨true, cl, 0⟩]⟩ : Arr XCut) (⟨some ⟨b111, 0, none⟩, 1, [⟨-q - 3, -q⟩]⟩ : Arr XSpan) 0 tt _ _ hB) rfl rfl ?_
  rintro v L' R' ⟨rfl, rfl, rfl⟩
  dsimp only
  rw [f3]
  refine LJ_qg (yv_neq rfl rfl) rfl rfl ?_
  refine ycxaa ?_
  refine qah ?_
  refine LJ_case (k := 135) (show _ = Value.bool _ from rfl) (fun hg24 => ?_) (fun hg24 => ?_)
  ·
   replace hg24 := qb hg24
   simp at hg24
  replace hg24 := qb hg24
  refine ycxaf ?_
  refine ycxac ?_
  refine ycxac ?_
  refine LJ_qg (yv_move (show _ = Value.int _ _ from rfl)) rfl rfl ?_
  refine LJ_qg (by first | exact yv_sub64 rfl rfl (by omega) (by omega) | exact yv_sub rfl rfl) rfl rfl ?_
  refine LJ_callg rfl (Ready_tri s (⟨some ⟨b99, 0, none⟩, 1, [⟨true, cl, 0⟩]⟩ : Arr XCut) (⟨some ⟨b111, 0, none⟩, 1, [⟨-q - 3, -q⟩]⟩ : Arr XSpan) 0 (tt - 1) _ _ hB) rfl rfl ?_
  rintro v L' R' ⟨rfl, rfl, rfl⟩
  dsimp only
  rw [f4]
  refine LJ_qg (yv_neq rfl rfl) rfl rfl ?_
  refine ycxaa ?_
  refine qaf ?_
  refine q_c (fun hc1 => ?_) (fun hc1 => ?_)
  ·
   (exfalso; simp at hc1)
  refine qcl ?_
  have rdy : ∀ t, tt ≤ t → readyE s [⟨true, cl, 0⟩] [⟨q, q + 5⟩] 0 t = 0 := fun t ht => by rw [hr1, if_pos ht]
  have hask : askE s [⟨true, cl, 0⟩] [⟨q, q + 5⟩] noRest 0 0 tt = 0 := by rw [easy_ask hE rfl rfl (by omega), rdy _ (by omega)]
  have haskr : askR s [⟨true, cl, 0⟩] [⟨q, q + 5⟩] noRest 0 0 tt = ⟨0, 0, -1, 1, tt⟩ := by rw [askR, if_pos hask]
  have hcon : confirmE s [⟨true, cl, 0⟩] [⟨q, q + 5⟩] ⟨0, 0, -1, 1, tt⟩ 1 (tt + 600) = 0 := by rw [easy_confirm hE rfl rfl (by omega), if_neg (by omega), rdy _ (by omega)]
  have hconr : confirmR s [⟨true, cl, 0⟩] [⟨q, q + 5⟩] ⟨0, 0, -1, 1, tt⟩ 1 (tt + 600) = ⟨0, 0, 1, 2, tt + 600⟩ := by rw [confirmR, if_pos hcon]
  have hcon2 : confirmE s [⟨true, cl, 0⟩] [⟨q, q + 5⟩] ⟨0, 0, -1, 1, tt⟩ 1 (tt + 600 + 1) = 8 := by rw [easy_confirm hE rfl rfl (by omega), if_pos (by omega)]
  have hfe0 := (open_facts hn hfs hfz hfr).1
  have hat := (open_facts hn hfs hfz hfr).2
  have hcan := easy_can hE (c := [⟨true, cl, 0⟩]) (fl := [⟨q, q + 5⟩]) (t0 := tt + 600) (t := tt + 1200) (f := f) rfl rfl (by omega) (by omega) (rdy _ (by omega)) hfe0 (by rw [hfz]; rfl)
  have hcl1 : rcloseE s [⟨true, cl, 0⟩] [⟨q, q + 5⟩] ⟨0, 0, 1, 2, tt + 600⟩ f (tt + 1200) = 0 := by
    rw [rcloseE, hcan, if_neg (by decide)]
    show closeE _ _ _ (atR f 0) _ = 0
    rw [hat]; exact open_close hn hfs hfz hfr (by omega)
  have hcl2 : rcloseE s [⟨true, cl, 0⟩] [⟨q, q + 5⟩] ⟨0, 0, 1, 2, tt + 600⟩ f (tt + 1200 + 1) = 8 := by rw [rcloseE, easy_canlate hE rfl rfl (by omega) (by omega), if_pos (by decide)]
  have hcl3 : rcloseE s [⟨true, cl, 0⟩] [⟨q, q + 5⟩] ⟨0, 0, 1, 2, tt + 600⟩ f (tt + 600 - 1) = 8 := by rw [rcloseE, easy_canlate hE rfl rfl (by omega) (by omega), if_pos (by decide)]
  have hbn : [(⟨true, cl, 0⟩ : XCut)].length ≤ 1000 ∧ f.switches.l.length ≤ 1000 ∧ f.zones.l.length ≤ 1000 := by rw [hfs, hfz, openS_len]; simp; omega
  refine CJ_drawn tb [0, 1, 2, 4, 3, 5, 6, 7, 8, 9, 10, 11] ([Blk.mk b7 _ _]) mixed (by kernel_rfl) (by repeat (first | exact zs0 _ | exact zs1 _ | apply zs2 | apply zs3 | apply zs4 | apply zs5)) ?_
  refine DJ_q (yv_loadN (row := [_, _, _, _, _, _, _, _]) tb rfl rfl rfl (by repeat (first | exact zi0 | apply zi1 | apply zi2)) (by rfl) (by rfl)) rfl rfl rfl ?_
  refine DJ_q (yv_move (show _ = Value.slice _ _ _ from rfl)) rfl rfl rfl ?_
  refine DJ_q (yv_move (show _ = Value.slice _ _ _ from rfl)) rfl rfl rfl ?_
  refine qao ?_
  refine q_d rfl (None_tri _ _) ?_
  refine q_d rfl (Ask_tri s (⟨some ⟨b99, 0, none⟩, 1, [⟨true, cl, 0⟩]⟩ : Arr XCut) (⟨some ⟨b104, 0, none⟩, 1, [⟨q, q + 5⟩]⟩ : Arr XSpan) noRest 0 0 tt _ _ hA) ?_
  dsimp only
  rw [hask, haskr]
  refine DJ_q (yv_move rfl) rfl rfl rfl ?_
  refine DJ_q (yv_extract rfl rfl) rfl rfl rfl ?_
  refine DJ_q (yv_extract rfl rfl) rfl rfl rfl ?_
  refine qbr ?_
  intro b19
  refine qbg ?_
  refine qcg ?_
  refine DJ_nil (seqK_normal (CJ_seq (CJ_region ?_)))
  refine ycxab ?_
  refine qbm ?_
  refine qbm ?_
  refine ycxae ?_
  refine qaa ?_
  refine qar ?_
  refine q_l rfl (Confirm_tri s (⟨some ⟨b99, 0, none⟩, 1, [⟨true, cl, 0⟩]⟩ : Arr XCut) (⟨some ⟨b104, 0, none⟩, 1, [⟨q, q + 5⟩]⟩ : Arr XSpan) ⟨0, 0, -1, 1, tt⟩ 1 (tt + 600) _ _ hA) ?_
  dsimp only
  rw [hcon, hconr]
  refine LJ_q (yv_move rfl) rfl ?_
  refine qbs ?_
  refine qbs ?_
  refine qaq ?_
  intro b21
  refine qak ?_
  refine qad ?_
  refine qam ?_
  refine ycxab ?_
  refine qbm ?_
  refine qbm ?_
  refine ycxae ?_
  refine qaa ?_
  refine qar ?_
  refine qar ?_
  refine q_l rfl (Confirm_tri s (⟨some ⟨b99, 0, none⟩, 1, [⟨true, cl, 0⟩]⟩ : Arr XCut) (⟨some ⟨b104, 0, none⟩, 1, [⟨q, q + 5⟩]⟩ : Arr XSpan) ⟨0, 0, -1, 1, tt⟩ 1 (tt + 600 + 1) _ _ hA) ?_
  dsimp only
  rw [hcon2]
  refine LJ_q (yv_move rfl) rfl ?_
  refine qbs ?_
  refine qbs ?_
  refine qaq ?_
  intro b23
  refine qak ?_
  refine qad ?_
  refine qam ?_
  refine ycxab ?_
  refine qbm ?_
  refine qbm ?_
  refine ycxae ?_
  refine ycxag ?_
  refine qaa ?_
  refine qar ?_
  refine LJ_call rfl (Close_tri s (⟨some ⟨b99, 0, none⟩, 1, [⟨true, cl, 0⟩]⟩ : Arr XCut) (⟨some ⟨b104, 0, none⟩, 1, [⟨q, q + 5⟩]⟩ : Arr XSpan) ⟨0, 0, 1, 2, tt + 600⟩ f (tt + 1200) _ _ hA hf3 hbn) rfl ?_
  rintro v L' R' ⟨g1, pc1, ps1, pz1, rp1, rfl, _, _, rfl, hR4⟩
  dsimp only
  rw [hcl1]
  refine LJ_q (yv_move rfl) rfl ?_
  iterate 4 refine qbs ?_
  refine qaq ?_
  intro b25
  refine qaq ?_
  intro b27
  refine qak ?_
  refine qc4 ?_
  refine qak ?_
  refine qad ?_
  refine qa4 ?_
  have hA4 := hA.mono hR4
  have hf4 := hf3.mono hR4
  have up4 : ∀ r ∈ R, InR r R' := fun r hr => (up3 r hr).mono hR4
  refine ycxah ?_
  refine qay ?_
  refine ycxab ?_
  refine qbm ?_
  refine qbm ?_
  refine ycxae ?_
  refine ycxag ?_
  refine qaa ?_
  refine qar ?_
  refine qar ?_
  refine LJ_call rfl (Close_tri s (⟨some ⟨b99, 0, none⟩, 1, [⟨true, cl, 0⟩]⟩ : Arr XCut) (⟨some ⟨b104, 0, none⟩, 1, [⟨q, q + 5⟩]⟩ : Arr XSpan) ⟨0, 0, 1, 2, tt + 600⟩ f (tt + 1200 + 1) _ _ hA4 hf4 hbn) rfl ?_
  rintro v L' R' ⟨g2, pc2, ps2, pz2, rp2, rfl, _, _, rfl, hR5⟩
  dsimp only
  rw [hcl2]
  refine LJ_q (yv_move rfl) rfl ?_
  iterate 4 refine qbs ?_
  refine qaq ?_
  intro b29
  refine qaq ?_
  intro b31
  refine qak ?_
  refine qc4 ?_
  refine qak ?_
  refine qad ?_
  refine qa4 ?_
  have hA5 := hA4.mono hR5
  have hf5 := hf4.mono hR5
  have up5 : ∀ r ∈ R, InR r R' := fun r hr => (up4 r hr).mono hR5
  refine ycxah ?_
  refine qay ?_
  refine ycxab ?_
  refine qbm ?_
  refine qbm ?_
  refine ycxae ?_
  refine ycxag ?_
  refine qaa ?_
  refine qar ?_
  refine qa9 ?_
  refine LJ_call rfl (Close_tri s (⟨some ⟨b99, 0, none⟩, 1, [⟨true, cl, 0⟩]⟩ : Arr XCut) (⟨some ⟨b104, 0, none⟩, 1, [⟨q, q + 5⟩]⟩ : Arr XSpan) ⟨0, 0, 1, 2, tt + 600⟩ f (tt + 600 - 1) _ _ hA5 hf5 hbn) rfl ?_
  rintro v L' R' ⟨g3, pc3, ps3, pz3, rp3, rfl, _, _, rfl, hR6⟩
  dsimp only
  rw [hcl3]
  refine LJ_q (yv_move rfl) rfl ?_
  iterate 4 refine qbs ?_
  refine qaq ?_
  intro b33
  refine qaq ?_
  intro b35
  refine qak ?_
  refine qc4 ?_
  refine qak ?_
  refine qad ?_
  refine qa4 ?_
  have up6 : ∀ r ∈ R, InR r R' := fun r hr => (up5 r hr).mono hR6
  refine ycxah ?_
  refine qay ?_
  refine qaa ?_
  refine qbn ?_
  refine qah ?_
  refine LJ_case (k := 217) (show _ = Value.bool _ from rfl) (fun hg3 => ?_) (fun hg3 => ?_)
  ·
   replace hg3 := qb hg3
   refine LJ_qg (yv_field tb rfl rfl rfl) rfl rfl ?_
   refine ycxad ?_
   refine LJ_qg (yv_move (show _ = Value.int _ _ from rfl)) rfl rfl ?_
   refine LJ_qg (yv_eql rfl rfl) rfl rfl ?_
   refine ycxaa ?_
   refine qah ?_
   refine LJ_case (k := 223) (show _ = Value.bool _ from rfl) (fun hg9 => ?_) (fun hg9 => ?_)
   ·
    replace hg9 := qb hg9
    refine LJ_qg (yv_field tb rfl rfl rfl) rfl rfl ?_
    refine ycxad ?_
    refine LJ_qg (yv_eql rfl rfl) rfl rfl ?_
    refine ycxaa ?_
    refine qah ?_
    refine LJ_case (k := 228) (show _ = Value.bool _ from rfl) (fun hg14 => ?_) (fun hg14 => ?_)
    ·
     replace hg14 := qb hg14
     refine LJ_qg (yv_move (show _ = Value.int _ _ from rfl)) rfl rfl ?_
     refine LJ_qg (yv_eql rfl rfl) rfl rfl ?_
     refine ycxaa ?_
     refine qah ?_
     refine LJ_case (k := 232) (show _ = Value.bool _ from rfl) (fun hg18 => ?_) (fun hg18 => ?_)
     ·
      replace hg18 := qb hg18
      refine LJ_qg (yv_field tb rfl rfl rfl) rfl rfl ?_
      refine ycxad ?_
      refine LJ_qg (yv_move (show _ = Value.int _ _ from rfl)) rfl rfl ?_
      refine LJ_qg (by first | exact yv_add64 rfl rfl (by omega) (by omega) | exact yv_addU rfl rfl (by omega) (by omega) | exact yv_add rfl rfl) rfl rfl ?_
      refine LJ_qg (yv_eql rfl rfl) rfl rfl ?_
      refine ycxaa ?_
      refine qah ?_
      refine LJ_case (k := 239) (show _ = Value.bool _ from rfl) (fun hg25 => ?_) (fun hg25 => ?_)
      ·
       replace hg25 := qb hg25
       refine LJ_qg (yv_field tb rfl rfl rfl) rfl rfl ?_
       refine ycxad ?_
       refine LJ_qg (yv_eql rfl rfl) rfl rfl ?_
       refine ycxaa ?_
       refine qah ?_
       refine LJ_case (k := 244) (show _ = Value.bool _ from rfl) (fun hg30 => ?_) (fun hg30 => ?_)
       ·
        replace hg30 := qb hg30
        refine LJ_qg (yv_field tb rfl rfl rfl) rfl rfl ?_
        refine ycxad ?_
        refine LJ_qg (yv_eql rfl rfl) rfl rfl ?_
        refine ycxaa ?_
        refine qah ?_
        refine LJ_case (k := 249) (show _ = Value.bool _ from rfl) (fun hg35 => ?_) (fun hg35 => ?_)
        ·
         replace hg35 := qb hg35
         refine LJ_qg (yv_field tb rfl rfl rfl) rfl rfl ?_
         refine ycxad ?_
         refine LJ_qg (yv_eql rfl rfl) rfl rfl ?_
         refine ycxaa ?_
         refine qah ?_
         refine LJ_case (k := 254) (show _ = Value.bool _ from rfl) (fun hg40 => ?_) (fun hg40 => ?_)
         ·
          replace hg40 := qb hg40
          refine LJ_qg (yv_move (show _ = Value.int _ _ from rfl)) rfl rfl ?_
          refine LJ_qg (yv_eql rfl rfl) rfl rfl ?_
          refine ycxaa ?_
          refine qah ?_
          refine LJ_case (k := 258) (show _ = Value.bool _ from rfl) (fun hg44 => ?_) (fun hg44 => ?_)
          ·
           replace hg44 := qb hg44
           refine LJ_qg (yv_move (show _ = Value.int _ _ from rfl)) rfl rfl ?_
           refine LJ_qg (yv_eql rfl rfl) rfl rfl ?_
           refine ycxaa ?_
           refine qah ?_
           refine LJ_case (k := 262) (show _ = Value.bool _ from rfl) (fun hg48 => ?_) (fun hg48 => ?_)
           ·
            replace hg48 := qb hg48
            refine LJ_qg (yv_move (show _ = Value.int _ _ from rfl)) rfl rfl ?_
            refine LJ_qg (yv_eql rfl rfl) rfl rfl ?_
            refine ycxaa ?_
            refine qah ?_
            refine LJ_case (k := 266) (show _ = Value.bool _ from rfl) (fun hg52 => ?_) (fun hg52 => ?_)
            ·
             replace hg52 := qb hg52
             refine LJ_qg (yv_move (show _ = Value.int _ _ from rfl)) rfl rfl ?_
             refine LJ_qg (yv_eql rfl rfl) rfl rfl ?_
             refine ycxaa ?_
             refine qah ?_
             refine LJ_case (k := 270) (show _ = Value.bool _ from rfl) (fun hg56 => ?_) (fun hg56 => ?_)
             ·
              replace hg56 := qb hg56
              refine LJ_callg rfl (awake21_tri _ _) rfl rfl ?_
              rintro v L' R' ⟨rfl, rfl, rfl⟩
              refine ycxaa ?_
              refine qaz ?_
              refine qa0 ?_
              refine retK_ret (L' := []) (R' := R) (res1 rfl (rv_tmp (show _ = Value.bool _ from rfl))) ?hp ?hL ?hR
              case hp => exact ⟨rfl, rfl, rfl⟩
              case hL => exact List.nil_sublist _
              case hR => exact up6
             replace hg56 := qb hg56
             simp at hg56
            replace hg52 := qb hg52
            simp at hg52
           replace hg48 := qb hg48
           simp at hg48
          replace hg44 := qb hg44
          simp at hg44
         replace hg40 := qb hg40
         exact absurd trivial hg40
        replace hg35 := qb hg35
        exact absurd trivial hg35
       replace hg30 := qb hg30
       exact absurd trivial hg30
      replace hg25 := qb hg25
      exact absurd trivial hg25
     replace hg18 := qb hg18
     simp at hg18
    replace hg14 := qb hg14
    exact absurd trivial hg14
   replace hg9 := qb hg9
   exact absurd trivial hg9
  replace hg3 := qb hg3
  simp at hg3
end Go.Proofs.Ytkpfjmibipblhaa
