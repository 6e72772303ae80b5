/-
  Statements about chapter 21: from the top down. By an AI agent; no person has read it.
-/
import Derived.Test.YtkpfjmibipblhaaLaw20b
set_option linter.unusedSimpArgs false
set_option linter.unusedVariables false
namespace Go.Proofs.Ytkpfjmibipblhaa
open Go.Aw Go
section
variable {A9 B9 : Prop}
theorem yctaa (a : A9) (h : A9 → B9 := by exact LJ_q (by first | exact yv_pick_true rfl rfl | exact yv_pick_false rfl rfl | exact yv_pick rfl) rfl) : B9 := h a
theorem yctab (a : A9) (h : A9 → B9 := by exact LJ_qg (yv_load1 tb rfl rfl rfl (by repeat (first | exact zi0 | apply zi1 | apply zi2)) (by rfl)) rfl rfl) : B9 := h a
theorem yctac (a : A9) (h : A9 → B9 := by exact LJ_q (yv_loadN (row := [_, _, _, _, _, _, _, _]) tb rfl rfl rfl (by repeat (first | exact zi0 | apply zi1 | apply zi2)) (by rfl) (by rfl)) rfl) : B9 := h a
theorem yctad (a : A9) (h : A9 → B9 := by exact LJ_q (yv_loadN (row := [_, _, _, _, _]) tb rfl rfl rfl (by repeat (first | exact zi0 | apply zi1 | apply zi2)) (by rfl) (by rfl)) rfl) : B9 := h a
theorem yctae (a : A9) (h : A9 → B9 := by exact LJ_q (yv_loadN (row := [_, _, _]) tb rfl rfl rfl (by repeat (first | exact zi0 | apply zi1 | apply zi2)) (by rfl) (by rfl)) rfl) : B9 := h a
theorem yctaf (a : A9) (h : A9 → B9 := by exact LJ_qg (by first | exact yv_load1_ro tb rfl rfl rfl (by first | assumption | exact zr (by simp)) (by assumption) (by rfl) | exact yv_load1 tb rfl rfl rfl (by repeat (first | exact zi0 | apply zi1 | apply zi2)) (by rfl) | exact yv_load1 tb rfl rfl rfl (by repeat (first | exact zi0 | apply zi1 | apply zi2)) (icell_get (by assumption)) | exact yv_load1 tb rfl rfl rfl (by repeat (first | exact zi0 | apply zi1 | apply zi2)) (rcell_get (fun _ => rfl) (by assumption) rfl)) rfl rfl) : B9 := h a
end
def downS (n k : Nat) : List XSwitch := (List.range n).map fun (j : Nat) => if j < k then ⟨(j : Int) - 1, 102 + (j : Int), 1, true, false⟩ else ⟨(j : Int) - 1, 0, -1, false, false⟩
def downR (n k : Nat) : XRest := if k < n then ⟨0, 0, 1, 2, 101 + (k : Int)⟩ else noRest
def downC (n k : Nat) : List XCut := [⟨decide (k < n), 0, 0⟩]
theorem downS_zero {n : Nat} : downS n 0 = openS n := by
  refine List.map_congr_left fun j _ => ?_
  rw [if_neg (by omega)]
theorem downS_len {n k : Nat} : (downS n k).length = n := by simp [downS]
theorem nk_cases {n k : Nat} (hn : 1 ≤ n ∧ n ≤ 3) (hk : k < n) : (n = 1 ∧ k = 0) ∨ (n = 2 ∧ k = 0) ∨ (n = 2 ∧ k = 1) ∨ (n = 3 ∧ k = 0) ∨ (n = 3 ∧ k = 1) ∨ (n = 3 ∧ k = 2) := by omega
theorem down_facts {n k : Nat} (hn : 1 ≤ n ∧ n ≤ 3) (hk : k < n) : feedE (downS n k) [(n : Int) - 1] 3 = 0 ∧ nxtAt (downS n k) (pathL (downS n k) [(n : Int) - 1] 3 ((n : Int) - 1)) = k ∧ closeE (downS n k) [(n : Int) - 1] 3 k (102 + k) = 0 ∧
    answerE (closeSw (downS n k) k (102 + k)) [(n : Int) - 1] 3 k 1 = 0 ∧ answerSw (closeSw (downS n k) k (102 + k)) k 1 = downS n (k + 1) ∧ (closeSw (downS n k) k (102 + k))[k]? = some ⟨(k : Int) - 1, 102 + (k : Int), 0, true, false⟩ := by
  rcases nk_cases hn hk with ⟨rfl, rfl⟩ | ⟨rfl, rfl⟩ | ⟨rfl, rfl⟩ | ⟨rfl, rfl⟩ | ⟨rfl, rfl⟩ | ⟨rfl, rfl⟩ <;> decide
theorem down_end {n : Nat} (hn : 1 ≤ n ∧ n ≤ 3) : liveS (downS n n) [(n : Int) - 1] 3 0 = 1 := by
  rcases n_cases hn with rfl | rfl | rfl <;> decide
theorem down_can {s : XSite} {len dl ho : Int} (h : EasyD s len dl ho) {n k : Nat} (hn : 1 ≤ n ∧ n ≤ 3) (hk : k < n) {f : XFeeder} (h1 : f.switches.l = downS n k) (h2 : f.zones.l = [(n : Int) - 1]) (h3 : f.reply = 3) :
    canRE s [⟨true, 0, 0⟩] [⟨300, 300⟩] ⟨0, 0, 1, 2, 101 + (k : Int)⟩ f (102 + (k : Int)) = 0 ∧ atR f 0 = k ∧ rcloseE s [⟨true, 0, 0⟩] [⟨300, 300⟩] ⟨0, 0, 1, 2, 101 + (k : Int)⟩ f (102 + (k : Int)) = 0 := by
  obtain ⟨e1, e2, e3, _⟩ := down_facts hn hk
  have hat : atR f 0 = k := by rw [atR, h1, h2, h3]; exact e2
  have hc := easy_can h (c := [⟨true, 0, 0⟩]) (fl := [⟨300, 300⟩]) (t0 := 101 + (k : Int)) (t := 102 + (k : Int)) (f := f) rfl rfl (by omega) (by omega) (easy_ready0 h (by omega)) (by rw [h1, h2, h3]; exact e1) (by rw [h2]; rfl)
  refine ⟨hc, hat, ?_⟩
  rw [rcloseE, hc, if_neg (by decide)]
  show closeE _ _ _ (atR f 0) _ = 0
  rw [hat, h1, h2, h3]; exact e3
theorem one_ok {b : Nat} {x : Int} : (⟨.own b 1 [], [x]⟩ : OwL Int).ok 1 icell := ⟨by simp [icell], by simp, by simp [maxLen], by simp [icell]⟩
theorem has_one {A : List Blk} {R : List Sl} {b : Nat} {x n : Int} {T : TypeId} (hin : (⟨b, [.int .i64 x], T⟩ : Blk) ∈ A) :
    Tri Try.prog 40 [.slice (some ⟨b, 0, none⟩) 1 1, .int .i64 n].toArray A R (fun v L' R' => v = .bool (decide (n ∈ [x])) ∧ A = L' ∧ R = R') :=
  Tri.lendU (S := [isl (⟨.own b 1 [], [x]⟩ : OwL Int).arr]) (fun w G hh s hs => by
    rw [List.mem_singleton.1 hs]
    exact lend_rep (T := T) hh (fun e he => by
      have he' : e ∈ [(⟨b, [.int .i64 x], T⟩ : Blk)] := he
      rw [List.mem_singleton.1 he']; exact hin) one_ok (fun _ => rfl) (by decide) (fun s hs => by cases hs)) (has01_tri (⟨.own b 1 [], [x]⟩ : OwL Int).arr n [] _ (inR_self (.head _)))
set_option maxRecDepth 20000
attribute [local irreducible] CJ LJ DJ Tri YV Gives seqK blockK loopK retK RV mergeK OwL.L
theorem restoreTopDown_law (y : Arr Int) (R : List Sl) (hy : CodesR y R) :
    Tri Try.prog 7 [y.val].toArray [] R (fun v L' R' => v = .bool true ∧ [] = L' ∧ R = R') := by
  refine tri_enter 154 Try.call7 Try.func7 rfl rfl rfl ?_
  refine qae ?_
  refine qaz ?_
  refine qam ?_
  refine qbm ?_
  refine LJ_call rfl (new_tri y _ _ hy) rfl ?_
  rintro v L' R' ⟨c, rfl, hx, rfl, rfl⟩
  refine LJ_call rfl (drawEasy_tri c _ 0 _ hx (Nat.zero_le _)) rfl ?_
  rintro v L' R' ⟨s, len, dl, ho, sw, zn, n, k1, rfl, hE, ⟨hsk, hzk⟩, hn, hsl, hzl, ⟨hk1, _⟩, ⟨hs, hR0⟩, rfl⟩
  refine LJ_q (yv_move rfl) rfl ?_
  refine qbs ?_
  refine qbs ?_
  refine qaq ?_
  intro b3
  refine qaq ?_
  intro b4
  refine qak ?_
  refine qak ?_
  refine qco ?_
  obtain ⟨so, sl⟩ := sw
  obtain ⟨zo, zl⟩ := zn
  obtain rfl : sl = chainS n := hsl
  obtain rfl : zl = [(n : Int) - 1] := hzl
  have hRR : ∀ r ∈ R, InR r R' := fun r hr => hR0 r (.tail _ hr)
  have hcn := chainS_len (n := n)
  refine qay ?_
  refine qab ?_
  refine qac ?_
  refine qag ?_
  refine qaa ?_
  refine qa2 ?_
  refine CJ_forget [(3, Value.pointer _), (4, Value.pointer _), (22, Value.int _ _), (23, Value.int _ _)] (by repeat' (first | exact trivial | refine And.intro rfl ?_)) fun tq0 => ?_
  refine q_p [5, 23, 24, 25, 26, 27, 28, 29, 30, 31, 32, 33, 34, 35, 36] ((⟨fun g => [(23, .int .i64 ((g.1.1 : Nat) : Int))], fun g => ⟨b4, [(⟨so, chainS n⟩ : OwL XSwitch).val, (⟨zo, [(n : Int) - 1]⟩ : OwL Int).val, .int .i64 3], 71⟩ :: ⟨b3, s.cells, 36⟩ :: ((⟨so, g.1.2⟩ : OwL XSwitch).L 98 XSwitch.cells ++ ((⟨zo, [(n : Int) - 1]⟩ : OwL Int).L 3 icell ++ (cblk c (codes300 y) k1 :: []))), fun _ => R', fun g => n - g.1.1⟩ : Head {g : Nat × List XSwitch // g.1 ≤ n ∧ WrO (chainS n) (fun j : Nat => (⟨(j : Int) - 1, 0, -1, false, false⟩ : XSwitch)) g.1 g.2})) (⟨(0, chainS n), by dsimp only; omega, WrO.zero⟩) ?_
  rintro ⟨⟨i, l⟩, hi, hW⟩ junk
  try dsimp only
  dsimp only at hi hW
  have hll : l.length = n := hW.len.trans hcn
  have hlk : (⟨so, l⟩ : OwL XSwitch).ok 5 XSwitch.cells := OwL.len_ok (fun _ => rfl) hsk (by rw [hll, hcn])
  refine qae ?_
  refine qaj ?_
  refine qa4 ?_
  refine q_c (fun hc0 => ?_) (fun hc0 => ?_)
  ·
   have hlg : l[i]? = some ⟨(i : Int) - 1, 0, 0, true, false⟩ := (hW.old i (Nat.le_refl _)).trans (chain_get (by omega))
   have hlk1 : (⟨so, l.set i ⟨(i : Int) - 1, 0, 0, false, false⟩⟩ : OwL XSwitch).ok 5 XSwitch.cells := OwL.set_ok (f := XSwitch.cells) (wd := 5) (p := (⟨so, l⟩ : OwL XSwitch)) (i := i) (x := ⟨(i : Int) - 1, 0, 0, false, false⟩) (fun _ => rfl) hlk
   have hlg1 : (l.set i ⟨(i : Int) - 1, 0, 0, false, false⟩)[i]? = some ⟨(i : Int) - 1, 0, 0, false, false⟩ := List.getElem?_set_self (by omega)
   have hll1 : (l.set i ⟨(i : Int) - 1, 0, 0, false, false⟩).length = l.length := List.length_set
   refine qbb ?_
   refine qaa ?_
   refine qad ?_
   refine qaf ?_
   refine CJ_drawn2 tb [29, 30, 31] [0, 1, 2, 3, 4, 5, 6, 7] [8, 9, 10, 11] ([Blk.mk b4 _ _]) _ mixed (by kernel_rfl) (by repeat (first | exact zs0 _ | exact zs1 _ | apply zs2 | apply zs3 | apply zs4 | apply zs5)) (by (repeat (first | apply List.Sublist.cons (a := Blk.mk b27 _ _) | apply List.Sublist.cons (a := Blk.mk b30 _ _) | apply List.Sublist.cons_cons)); exact List.Sublist.refl _) ?_
   refine qan ?_
   refine qau ?_
   refine qbf ?_
   refine qcp ?_
   refine qcu ?_
   refine DJ3_ql (yv_move (show _ = Value.int _ _ from rfl)) rfl rfl rfl rfl ?_
   refine DJ3_q (yv_index_ow tb ((⟨so, l⟩ : OwL XSwitch)) _ rfl rfl ((show _ = Value.slice _ _ _ from rfl).trans (by simp only [OwL.val, hll, hcn])) rfl (by assumption) (i := i) (by first | rfl | omega | (simp; omega)) (by first | omega | (dsimp only; omega) | (dsimp only; rw [List.length_set]; omega) | (dsimp only; simp only [List.length_set]; omega))) rfl rfl rfl rfl ?_
   refine qcv ?_
   refine qba ?_
   refine DJ_g0 (gives_store1_ow tb ((⟨so, l⟩ : OwL XSwitch)) (⟨(i : Int) - 1, 0, 0, false, false⟩) rfl rfl rfl rfl (by repeat (first | apply OSeg.cons | exact OSeg.here | exact OSeg.last | exact OSeg.at (by assumption) | apply OSeg.app)) (by assumption) (fun _ => rfl) (by assumption) (by decide) (by rfl) (by rfl)) rfl rfl ?_
   rintro v L' R' ⟨rfl, rfl⟩
   refine qa1 ?_
   refine DJ_q (yv_index_ow tb ((⟨so, l.set i ⟨(i : Int) - 1, 0, 0, false, false⟩⟩ : OwL XSwitch)) _ rfl rfl ((show _ = Value.slice _ _ _ from rfl).trans (by simp only [OwL.val, hll1, hll, hcn])) rfl (by assumption) (i := i) (by first | rfl | omega | (simp; omega)) (by first | omega | (dsimp only; omega) | (dsimp only; rw [List.length_set]; omega) | (dsimp only; simp only [List.length_set]; omega))) rfl rfl rfl ?_
   refine qce ?_
   refine DJ_g0 (gives_store1_ow tb ((⟨so, l.set i ⟨(i : Int) - 1, 0, 0, false, false⟩⟩ : OwL XSwitch)) (⟨(i : Int) - 1, 0, -1, false, false⟩) rfl rfl rfl rfl (by repeat (first | apply OSeg.cons | exact OSeg.here | exact OSeg.last | exact OSeg.at (by assumption) | apply OSeg.app)) (by assumption) (fun _ => rfl) (by assumption) (by decide) (by rfl) (by rfl)) rfl rfl ?_
   rintro v L' R' ⟨rfl, rfl⟩
   refine qa1 ?_
   refine qby ?_
   refine qar ?_
   refine qaa ?_
   refine qav ?_
   exact q_k ⟨(i + 1, (l.set i ⟨(i : Int) - 1, 0, 0, false, false⟩).set i ⟨(i : Int) - 1, 0, -1, false, false⟩), by dsimp only; omega, by dsimp only; rw [List.set_set]; exact hW.next (by omega) rfl⟩
  obtain rfl : i = n := by omega
  obtain rfl : l = openS i := (show WrO (chainS i) _ (chainS i).length l by rw [hcn]; exact hW).done.trans (by rw [hcn]; rfl)
  refine qc3 ?_
  have hv : (⟨so, chainS i⟩ : OwL XSwitch).val = (⟨so, openS i⟩ : OwL XSwitch).val := by simp only [OwL.val, hll, hcn]
  rw [hv]
  refine CJ_frz1 (A := (⟨b4, [(⟨so, openS i⟩ : OwL XSwitch).val, (⟨zo, [(i : Int) - 1]⟩ : OwL Int).val, .int .i64 3], 71⟩ :: ⟨b3, s.cells, 36⟩ :: [])) (p := (⟨so, openS i⟩ : OwL XSwitch)) (wd := 5) [] (fun _ => rfl) (by decide) hlk (fun s hs => by cases hs) ?_
  refine CJ_frz1 (A := (⟨b4, [(⟨so, openS i⟩ : OwL XSwitch).val, (⟨zo, [(i : Int) - 1]⟩ : OwL Int).val, .int .i64 3], 71⟩ :: ⟨b3, s.cells, 36⟩ :: [])) (p := (⟨zo, [(i : Int) - 1]⟩ : OwL Int)) (wd := 1) [] (fun _ => rfl) (by decide) hzk (fun s hs => by cases hs) ?_
  refine CJ_weak (L' := (⟨b4, [(⟨so, openS i⟩ : OwL XSwitch).val, (⟨zo, [(i : Int) - 1]⟩ : OwL Int).val, .int .i64 3], 71⟩ :: ⟨b3, s.cells, 36⟩ :: [])) (List.sublist_append_left _ _) (allR_self _) ?_
  obtain ⟨f, hfe⟩ : ∃ f : XFeeder, f = ⟨(⟨so, openS i⟩ : OwL XSwitch).arr, (⟨zo, [(i : Int) - 1]⟩ : OwL Int).arr, 3⟩ := ⟨_, rfl⟩
  obtain ⟨R2, hR2e⟩ : ∃ R2, R2 = isl f.zones :: swsl f.switches :: R' := ⟨_, rfl⟩
  have hR2 : ∀ r ∈ R', InR r R2 := fun r hr => inR_self (by rw [hR2e]; exact .tail _ (.tail _ hr))
  have hf2 : FeederR f R2 := ⟨inR_self (by rw [hR2e]; exact .tail _ (.head _)), inR_self (by rw [hR2e]; exact .head _)⟩
  have hs2 := hs.mono hR2
  have hfs : f.switches.l = openS i := by rw [hfe]
  have hfz : f.zones.l = [(i : Int) - 1] := by rw [hfe]
  have hfr : f.reply = 3 := by rw [hfe]
  refine CJ_R (show _ = R2 by rw [hR2e, hfe]) ?_
  refine CJ_L (show _ = ⟨b4, f.cells, 71⟩ :: ⟨b3, s.cells, 36⟩ :: [] by rw [hfe]; rfl) ?_
  refine qay ?_
  refine LJ_q (yv_build (qs := [(0, (Value.bool _).cells.toList)]) (out := [_, _, _]) tb rfl rfl rfl rfl) rfl ?_
  refine LJ_g (gives_buildSlice (qs := [(0, (Value.agg _).cells.toList)]) (out := [_, _, _]) tb rfl rfl rfl rfl rfl rfl rfl) rfl ?_
  rintro v L' R' ⟨b38, rfl, rfl, hR38⟩
  replace hR38 := hR38.symm; subst hR38
  refine LJ_frz (wd := 3) (len := 1) (cap := 1) (rows := [XCut.cells ⟨true, 0, 0⟩]) (subs := []) rfl (by decide) (by decide) (fun r hr => by rw [List.mem_singleton.1 hr]; rfl) (by decide) rfl (fun s hs => by cases hs) ?_
  refine qcd ?_
  refine LJ_g (gives_buildSlice (qs := [(0, (Value.agg _).cells.toList)]) (out := [_, _]) tb rfl rfl rfl rfl rfl rfl rfl) rfl ?_
  rintro v L' R' ⟨b40, rfl, rfl, hR40⟩
  replace hR40 := hR40.symm; subst hR40
  refine LJ_frz (wd := 2) (len := 1) (cap := 1) (rows := [XSpan.cells ⟨300, 300⟩]) (subs := []) rfl (by decide) (by decide) (fun r hr => by rw [List.mem_singleton.1 hr]; rfl) (by decide) rfl (fun s hs => by cases hs) ?_
  refine qc4 ?_
  refine qc4 ?_
  refine qa4 ?_
  obtain ⟨R3, hR3e⟩ : ∃ R3, R3 = spsl (⟨some ⟨b40, 0, none⟩, 1, [⟨300, 300⟩]⟩ : Arr XSpan) :: cusl (⟨some ⟨b38, 0, none⟩, 1, [⟨true, 0, 0⟩]⟩ : Arr XCut) :: R2 := ⟨_, rfl⟩
  have hR3 : ∀ r ∈ R2, InR r R3 := fun r hr => inR_self (by rw [hR3e]; exact .tail _ (.tail _ hr))
  have hA : RestA s (⟨some ⟨b38, 0, none⟩, 1, [⟨true, 0, 0⟩]⟩ : Arr XCut) (⟨some ⟨b40, 0, none⟩, 1, [⟨300, 300⟩]⟩ : Arr XSpan) R3 := ⟨hs2.mono hR3, inR_self (by rw [hR3e]; exact .tail _ (.head _)), inR_self (by rw [hR3e]; exact .head _)⟩
  have hf3 := hf2.mono hR3
  have hfl : f.switches.l.length = i := by rw [hfs, openS_len]
  have up3 : ∀ r ∈ R, InR r R3 := fun r hr => ((hRR r hr).mono hR2).mono hR3
  have hask : askE s [⟨true, 0, 0⟩] [⟨300, 300⟩] noRest 0 0 100 = 0 := by rw [easy_ask hE rfl rfl (by omega), easy_ready0 hE (by omega)]
  have haskr : askR s [⟨true, 0, 0⟩] [⟨300, 300⟩] noRest 0 0 100 = ⟨0, 0, -1, 1, 100⟩ := by rw [askR, if_pos hask]
  have hcon : confirmE s [⟨true, 0, 0⟩] [⟨300, 300⟩] ⟨0, 0, -1, 1, 100⟩ 1 101 = 0 := by rw [easy_confirm hE rfl rfl (by omega), if_neg (by omega), easy_ready0 hE (by omega)]
  have hconr : confirmR s [⟨true, 0, 0⟩] [⟨300, 300⟩] ⟨0, 0, -1, 1, 100⟩ 1 101 = ⟨0, 0, 1, 2, 101⟩ := by rw [confirmR, if_pos hcon]
  refine CJ_R (show _ = R3 by rw [hR3e]; rfl) ?_
  refine CJ_drawn tb [0, 1, 2, 3, 4, 5, 6, 7, 8, 9, 10] ([Blk.mk b3 _ _]) mixed (by kernel_rfl) (by repeat (first | exact zs0 _ | exact zs1 _ | apply zs2 | apply zs3 | apply zs4 | apply zs5)) ?_
  refine DJ_q (yv_loadN (row := [_, _, _, _, _, _, _, _]) tb rfl rfl rfl (by repeat (first | exact zi0 | apply zi1 | apply zi2)) (by rfl) (by rfl)) rfl rfl rfl ?_
  refine DJ_q (yv_move (show _ = Value.slice _ _ _ from rfl)) rfl rfl rfl ?_
  refine DJ_q (yv_move (show _ = Value.slice _ _ _ from rfl)) rfl rfl rfl ?_
  refine q_d rfl (None_tri _ _) ?_
  refine q_d rfl (Ask_tri s (⟨some ⟨b38, 0, none⟩, 1, [⟨true, 0, 0⟩]⟩ : Arr XCut) (⟨some ⟨b40, 0, none⟩, 1, [⟨300, 300⟩]⟩ : Arr XSpan) noRest 0 0 100 _ _ hA) ?_
  dsimp only
  rw [hask, haskr]
  refine DJ_q (yv_move rfl) rfl rfl rfl ?_
  refine DJ_q (yv_extract rfl rfl) rfl rfl rfl ?_
  refine DJ_q (yv_extract rfl rfl) rfl rfl rfl ?_
  refine qbr ?_
  intro b8
  refine qbg ?_
  refine qcg ?_
  refine DJ_nil (seqK_normal (CJ_seq (CJ_region ?_)))
  refine yctac ?_
  refine qbm ?_
  refine qbm ?_
  refine yctad ?_
  refine q_l rfl (Confirm_tri s (⟨some ⟨b38, 0, none⟩, 1, [⟨true, 0, 0⟩]⟩ : Arr XCut) (⟨some ⟨b40, 0, none⟩, 1, [⟨300, 300⟩]⟩ : Arr XSpan) ⟨0, 0, -1, 1, 100⟩ 1 101 _ _ hA) ?_
  dsimp only
  rw [hcon, hconr]
  refine LJ_q (yv_move rfl) rfl ?_
  refine qbs ?_
  refine qbs ?_
  refine qak ?_
  refine qad ?_
  refine qaw ?_
  refine qaa ?_
  refine qbq ?_
  refine qah ?_
  apply LJ_or (G := [_, _]) (j := 2) (cj := 59) rfl rfl (by rfl) rfl (show _ = Value.bool _ from rfl) rfl
  ·
   intro hg3
   replace hg3 := qb hg3
   refine qaa ?_
   refine qbq ?_
   exact qai
  intro junk3
  refine qaf ?_
  refine q_c (fun hc1 => ?_) (fun hc1 => ?_)
  ·
   (exfalso; simp at hc1)
  refine qbo ?_
  refine qab ?_
  refine qac ?_
  refine qag ?_
  refine qaa ?_
  refine qa2 ?_
  refine CJ_forget [(3, Value.pointer _), (4, Value.pointer _), (6, Value.slice _ _ _), (7, Value.slice _ _ _), (8, Value.pointer _), (65, Value.int _ _), (66, Value.int _ _)] (by repeat' (first | exact trivial | refine And.intro rfl ?_)) fun tq1 => ?_
  refine CJ_loop [2, 6, 11, 12, 13, 66, 67, 68, 69, 70, 71, 72, 73, 74, 75, 76, 77, 78, 79, 80, 81, 82, 83, 84, 85, 86, 87, 88, 89, 90, 91, 92, 93, 94, 95, 96, 97, 98, 99, 100, 101, 102, 103, 104, 105, 106, 107, 108, 109, 110, 111, 112, 113, 114, 115, 116, 117, 118, 119, 120, 121, 122, 123, 124, 125, 126, 127, 128, 129, 130, 131, 132, 133, 134] ((⟨fun g => [(66, .int .i64 ((g.1.1 : Nat) : Int)), (6, g.1.2.1.val)], fun g => ⟨b8, (downR i g.1.1).cells, 78⟩ :: ⟨b4, g.1.2.2.1.cells, 71⟩ :: ⟨b3, s.cells, 36⟩ :: [], fun g => g.1.2.2.2, fun g => i - g.1.1⟩ : Head {g : Nat × Arr XCut × XFeeder × List Sl // g.1 ≤ i ∧ (g.2.1.l = downC i g.1 ∧ g.2.2.1.switches.l = downS i g.1 ∧ g.2.2.1.zones.l = [(i : Int) - 1] ∧ g.2.2.1.reply = 3) ∧ InR (cusl g.2.1) g.2.2.2 ∧ FeederR g.2.2.1 g.2.2.2 ∧ ∀ r ∈ R3, InR r g.2.2.2})) (⟨(0, (⟨some ⟨b38, 0, none⟩, 1, [⟨true, 0, 0⟩]⟩ : Arr XCut), f, R3), by dsimp only; omega, ⟨by dsimp only; rw [downC, decide_eq_true (by omega)], hfs.trans downS_zero.symm, hfz, hfr⟩, hA.cuts, hf3, allR_self _⟩) (by repeat' (first | exact trivial | refine And.intro rfl ?_)) (by dsimp only; rw [downR, if_pos (by omega)]; exact List.Sublist.refl _) (allR_self _) ?_
  rintro ⟨⟨k, ca, fk, RK⟩, hk, ⟨hcl, hks, hkz, hkr⟩, hcR, hfR, hRK⟩ junk
  try dsimp only
  dsimp only at hk hcl hks hkz hkr hcR hfR hRK
  have hkl : fk.switches.l.length = i := by rw [hks, downS_len]
  refine qae ?_
  refine qaj ?_
  refine qa4 ?_
  refine q_c (fun hc2 => ?_) (fun hc2 => ?_)
  ·
   have hki : k < i := by omega
   have hca : ca.l = [⟨true, 0, 0⟩] := by rw [hcl, downC, decide_eq_true hki]
   have hdr : downR i k = ⟨0, 0, 1, 2, 101 + (k : Int)⟩ := by rw [downR, if_pos hki]
   rw [hdr]
   obtain ⟨hcan, hat, hrc⟩ := down_can hE hn hki hks hkz hkr
   obtain ⟨_, _, _, hae, has, hcg⟩ := down_facts hn hki
   have hAk : RestA s ca (⟨some ⟨b40, 0, none⟩, 1, [⟨300, 300⟩]⟩ : Arr XSpan) RK := ⟨(hs2.mono hR3).mono hRK, hcR, hA.flows.mono hRK⟩
   have hbn : ca.l.length ≤ 1000 ∧ fk.switches.l.length ≤ 1000 ∧ fk.zones.l.length ≤ 1000 := by rw [hca, hkl, hkz]; simp; omega
   refine qbb ?_
   refine qaa ?_
   refine qad ?_
   refine qam ?_
   refine qad ?_
   refine qam ?_
   refine qaa ?_
   refine qab ?_
   refine qac ?_
   refine qag ?_
   refine qa9 ?_
   refine qbn ?_
   refine qaz ?_
   refine qam ?_
   refine yctac ?_
   refine qbm ?_
   refine qbm ?_
   refine yctad ?_
   refine yctae ?_
   refine qaa ?_
   refine qar ?_
   refine LJ_call rfl (Close_tri s ca (⟨some ⟨b40, 0, none⟩, 1, [⟨300, 300⟩]⟩ : Arr XSpan) ⟨0, 0, 1, 2, 101 + (k : Int)⟩ fk (102 + (k : Int)) _ _ hAk hfR hbn) rfl ?_
   rintro v L' R' ⟨q2, pc, psw, pz, rp, rfl, ⟨k2, k3, k4⟩, hC, rfl, hR4⟩
   dsimp only
   rw [hca] at hC ⊢
   rw [hrc]
   refine LJ_q (yv_move rfl) rfl ?_
   iterate 4 refine qbs ?_
   refine qak ?_
   refine qc4 ?_
   refine qak ?_
   refine qad ?_
   refine qco ?_
   refine CJ_frz1 (A := []) (p := pz) (wd := 1) [] (fun _ => rfl) (by decide) k4 (fun s hs => by cases hs) ?_
   refine CJ_frz1 (A := []) (p := psw) (wd := 5) [] (fun _ => rfl) (by decide) k3 (fun s hs => by cases hs) ?_
   refine CJ_frz1 (A := []) (p := pc) (wd := 3) [] (fun _ => rfl) (by decide) k2 (fun s hs => by cases hs) ?_
   obtain ⟨f2, hf2e⟩ : ∃ f2 : XFeeder, f2 = ⟨psw.arr, pz.arr, rp⟩ := ⟨_, rfl⟩
   obtain ⟨R5, hR5e⟩ : ∃ R5, R5 = cusl pc.arr :: swsl psw.arr :: isl pz.arr :: R' := ⟨_, rfl⟩
   have hR5 : ∀ r ∈ R', InR r R5 := fun r hr => inR_self (by rw [hR5e]; exact .tail _ (.tail _ (.tail _ hr)))
   have hpcR : InR (cusl pc.arr) R5 := inR_self (by rw [hR5e]; exact .head _)
   have hf2R : FeederR f2 R5 := by rw [hf2e]; exact ⟨inR_self (by rw [hR5e]; exact .tail _ (.head _)), inR_self (by rw [hR5e]; exact .tail _ (.tail _ (.head _)))⟩
   have hR35 : ∀ r ∈ R3, InR r R5 := fun r hr => ((hRK r hr).mono hR4).mono hR5
   have hown : ownR fk ⟨0, 0, 1, 2, 101 + (k : Int)⟩ ↔ k + 1 = i := by
     show atR fk 0 = fk.zones.l.getD 0 0 ↔ _
     rw [hat, hkz]
     show (k : Int) = (i : Int) - 1 ↔ _
     omega
   have eq : q2 = downR i (k + 1) := hC.rest.trans (by
     rw [rcloseR]; dsimp only; rw [hrc, if_neg (by decide), downR]
     by_cases hl : k + 1 = i
     · rw [if_pos (hown.2 hl), if_neg (by omega)]
     · rw [if_neg (fun h => hl (hown.1 h)), if_pos (by omega), show 101 + (((k + 1 : Nat)) : Int) = 102 + (k : Int) by omega])
   have ec : pc.l = downC i (k + 1) := hC.cuts.trans (by
     rw [rcloseC]; dsimp only; rw [hrc, if_neg (by decide), downC]
     by_cases hl : k + 1 = i
     · rw [if_pos (hown.2 hl), decide_eq_false (by omega)]; rfl
     · rw [if_neg (fun h => hl (hown.1 h)), decide_eq_true (by omega)])
   have es : psw.l = closeSw (downS i k) k (102 + k) := hC.sw.trans (by rw [rcloseSw]; dsimp only; rw [hrc, if_neg (by decide), hks]; show closeSw _ (atR fk 0) _ = _; rw [hat])
   have es2 : f2.switches.l = closeSw (downS i k) k (102 + k) := by rw [hf2e]; exact es
   have ez : f2.zones.l = [(i : Int) - 1] := by rw [hf2e]; exact hC.zn.trans hkz
   have er : f2.reply = 3 := by rw [hf2e]; exact hC.rp.trans hkr
   have hsl2 : f2.switches.l.length = i := by rw [es2, closeSw, List.length_set, downS_len]
   have hsg : f2.switches.l[k]? = some ⟨(k : Int) - 1, 102 + (k : Int), 0, true, false⟩ := by rw [es2]; exact hcg
   have hpl : pc.arr.l.length = 1 := by show pc.l.length = 1; rw [ec]; rfl
   have hpg : pc.arr.l[0]? = some ⟨decide (k + 1 < i), 0, 0⟩ := by show pc.l[0]? = _; rw [ec]; rfl
   have hpl2 : pc.l.length = 1 := by rw [ec]; rfl
   have hsl3 : psw.l.length = i := by rw [es, closeSw, List.length_set, downS_len]
   have hqz : q2.zone = -1 ↔ k + 1 = i := by
     rw [eq, downR]
     split
     · exact ⟨fun h => (by cases h), fun h => (by omega)⟩
     · exact ⟨fun _ => (by omega), fun _ => rfl⟩
   have hf2sR := hf2R.sw
   refine CJ_R (show _ = R5 by rw [hR5e]) ?_
   refine CJ_L (show _ = ⟨b8, q2.cells, 78⟩ :: ⟨b4, f2.cells, 71⟩ :: ⟨b3, s.cells, 36⟩ :: [] by rw [hf2e]; rfl) ?_
   refine qay ?_
   refine qaa ?_
   refine qbq ?_
   refine qah ?_
   refine LJ_case (k := 90) (show _ = Value.bool _ from rfl) (fun hg3 => ?_) (fun hg3 => ?_)
   ·
    replace hg3 := qb hg3
    simp at hg3
   replace hg3 := qb hg3
   refine LJ_qg (yv_move (show _ = Value.slice _ _ _ from rfl)) rfl rfl ?_
   refine LJ_qg (yv_len tb rfl rfl rfl) rfl rfl ?_
   refine LJ_qg (yv_neq rfl rfl) rfl rfl ?_
   refine yctaa ?_
   refine qah ?_
   refine LJ_case (k := 95) (show _ = Value.bool _ from rfl) (fun hg8 => ?_) (fun hg8 => ?_)
   ·
    replace hg8 := qb hg8
    (exfalso; omega)
   replace hg8 := qb hg8
   refine LJ_qg (yv_field tb rfl rfl rfl) rfl rfl ?_
   refine yctab ?_
   refine LJ_qg (yv_len tb rfl rfl rfl) rfl rfl ?_
   refine LJ_qg (yv_move (show _ = Value.int _ _ from rfl)) rfl rfl ?_
   refine LJ_qg (yv_leq rfl rfl) rfl rfl ?_
   refine yctaa ?_
   refine qah ?_
   refine LJ_case (k := 102) (show _ = Value.bool _ from rfl) (fun hg15 => ?_) (fun hg15 => ?_)
   ·
    replace hg15 := qb hg15
    (exfalso; omega)
   replace hg15 := qb hg15
   refine LJ_qg (yv_field tb rfl rfl rfl) rfl rfl ?_
   refine yctab ?_
   refine LJ_qg (yv_move (show _ = Value.int _ _ from rfl)) rfl rfl ?_
   refine LJ_qg (by first | exact yv_index_ro tb rfl rfl rfl rfl (by first | assumption | exact zr (by simp)) (i := k) (by first | rfl | omega | (simp; omega)) (by omega) | exact yv_index tb rfl rfl rfl rfl (i := k) (by first | rfl | omega | (simp; omega)) (by omega)) rfl rfl ?_
   refine LJ_qg (yv_field_eo tb rfl rfl rfl) rfl rfl ?_
   refine yctaf ?_
   refine LJ_qg (yv_not rfl) rfl rfl ?_
   refine yctaa ?_
   refine qah ?_
   refine LJ_case (k := 111) (show _ = Value.bool _ from rfl) (fun hg24 => ?_) (fun hg24 => ?_)
   ·
    replace hg24 := qb hg24
    simp at hg24
   replace hg24 := qb hg24
   refine LJ_qg (yv_move (show _ = Value.slice _ _ _ from rfl)) rfl rfl ?_
   refine LJ_qg (by first | exact yv_index_ro tb rfl rfl rfl rfl (by first | assumption | exact zr (by simp)) (i := 0) (by first | rfl | omega | (simp; omega)) (by omega) | exact yv_index tb rfl rfl rfl rfl (i := 0) (by first | rfl | omega | (simp; omega)) (by omega)) rfl rfl ?_
   refine LJ_qg (yv_field_eo tb rfl rfl rfl) rfl rfl ?_
   refine yctaf ?_
   refine LJ_qg (yv_move (show _ = Value.bool _ from rfl)) rfl rfl ?_
   refine LJ_qg (yv_eql_bool tb rfl rfl rfl) rfl rfl ?_
   refine yctaa ?_
   refine qah ?_
   refine LJ_case (k := 119) (show _ = Value.bool _ from rfl) (fun hg32 => ?_) (fun hg32 => ?_)
   ·
    replace hg32 := qb hg32
    (exfalso; have hh := decide_eq_decide.1 hg32; omega)
   replace hg32 := qb hg32
   refine LJ_qg (yv_field tb rfl rfl rfl) rfl rfl ?_
   refine yctab ?_
   refine LJ_qg (yv_eql rfl rfl) rfl rfl ?_
   refine LJ_qg (yv_move (show _ = Value.bool _ from rfl)) rfl rfl ?_
   refine LJ_qg (yv_neq_bool tb rfl rfl rfl) rfl rfl ?_
   refine yctaa ?_
   refine qaf ?_
   refine q_c (fun hc3 => ?_) (fun hc3 => ?_)
   ·
    exact absurd (decide_eq_decide.2 (by rw [hqz]; omega)) hc3
   refine qbv ?_
   refine yctae ?_
   refine qaa ?_
   refine LJ_call rfl (refAnswer_tri f2 k 1 _ _ hf2R) rfl ?_
   rintro v L' R' ⟨p6, q6, r6, rfl, ⟨hp6, hq6⟩, hA6, rfl, rfl⟩
   have hae2 : answerE f2.switches.l f2.zones.l f2.reply k 1 = 0 := by rw [es2, ez, er]; exact hae
   obtain ⟨hp6l, hq6l, hr6⟩ := hA6 hae2
   rw [hae2]
   refine LJ_q (yv_move rfl) rfl ?_
   refine qbs ?_
   refine qbs ?_
   refine qak ?_
   refine qad ?_
   refine qa4 ?_
   refine CJ_frz1 (A := []) (p := q6) (wd := 1) [] (fun _ => rfl) (by decide) hq6 (fun s hs => by cases hs) ?_
   refine CJ_frz1 (A := []) (p := p6) (wd := 5) [] (fun _ => rfl) (by decide) hp6 (fun s hs => by cases hs) ?_
   obtain ⟨f6, hf6e⟩ : ∃ f6 : XFeeder, f6 = ⟨p6.arr, q6.arr, r6⟩ := ⟨_, rfl⟩
   obtain ⟨R6, hR6e⟩ : ∃ R6, R6 = swsl p6.arr :: isl q6.arr :: R5 := ⟨_, rfl⟩
   have hR6 : ∀ r ∈ R5, InR r R6 := fun r hr => inR_self (by rw [hR6e]; exact .tail _ (.tail _ hr))
   have hf6R : FeederR f6 R6 := by rw [hf6e]; exact ⟨inR_self (by rw [hR6e]; exact .head _), inR_self (by rw [hR6e]; exact .tail _ (.head _))⟩
   have e6s : f6.switches.l = downS i (k + 1) := by rw [hf6e]; exact hp6l.trans (by rw [es2]; exact has)
   have e6z : f6.zones.l = [(i : Int) - 1] := by rw [hf6e]; exact hq6l.trans ez
   have e6r : f6.reply = 3 := by rw [hf6e]; exact hr6.trans er
   refine CJ_R (show _ = R6 by rw [hR6e]) ?_
   refine CJ_L (show _ = ⟨b8, (downR i (k + 1)).cells, 78⟩ :: ⟨b4, f6.cells, 71⟩ :: ⟨b3, s.cells, 36⟩ :: [] by rw [hf6e, ← eq]; rfl) ?_
   refine qay ?_
   refine qaa ?_
   refine qbq ?_
   refine qaf ?_
   refine q_c (fun hc4 => ?_) (fun hc4 => ?_)
   ·
    (exfalso; simp at hc4)
   refine qbj ?_
   refine qar ?_
   refine qaa ?_
   refine qav ?_
   exact q_k ⟨(k + 1, pc.arr, f6, R6), by dsimp only; omega, ⟨ec, e6s, e6z, e6r⟩, hpcR.mono hR6, hf6R, fun r hr => (hR35 r hr).mono hR6⟩
  obtain rfl : k = i := by omega
  have hlive : liveS fk.switches.l fk.zones.l fk.reply 0 = 1 := by rw [hks, hkz, hkr]; exact down_end hn
  have hzg : fk.zones.l[0]? = some ((k : Int) - 1) := by rw [hkz]; rfl
  have hzl : fk.zones.l.length = 1 := by rw [hkz]; rfl
  have hfzR := hfR.zn
  refine qc3 ?_
  refine CJ_drawn tb [0, 1, 2, 3, 5, 6, 7, 8, 10, 11, 12, 13, 4, 9, 14, 15, 16, 17, 18, 19] ([Blk.mk b4 _ _]) mixed (by kernel_rfl) (by repeat (first | exact zs0 _ | exact zs1 _ | apply zs2 | apply zs3 | apply zs4 | apply zs5)) ?_
  refine DJ_q (yv_loadN (row := [_, _, _]) tb rfl rfl rfl (by repeat (first | exact zi0 | apply zi1 | apply zi2)) (by rfl) (by rfl)) rfl rfl rfl ?_
  refine q_d rfl (refLive_tri fk 0 _ _ hfR) ?_
  rw [hlive]
  refine DJ_q (yv_eql rfl rfl) rfl rfl rfl ?_
  refine qb2 ?_
  refine DJ_case (k := 138) (show _ = Value.bool _ from rfl) (fun hg3 => ?_) (fun hg3 => ?_)
  ·
   replace hg3 := qb hg3
   refine qal ?_
   refine qat ?_
   refine qdu ?_
   refine qbl ?_
   refine qal ?_
   refine qat ?_
   refine DJ_q (yv_len tb rfl rfl rfl) rfl rfl rfl ?_
   refine DJ_q (yv_eql rfl rfl) rfl rfl rfl ?_
   refine DJ_g (gives_buildSlice (qs := [(0, (Value.int _ _).cells.toList)]) (out := [_]) tb rfl rfl rfl rfl rfl rfl rfl) rfl rfl rfl ?_
   rintro v L' R' ⟨b139, rfl, rfl, hR139⟩
   replace hR139 := hR139.symm; subst hR139
   refine qa1 ?_
   refine q_d rfl (has_one (by first | exact List.mem_cons_self | simp)) ?_
   refine DJ_q (yv_eql_bool tb rfl rfl rfl) rfl rfl rfl ?_
   refine qbp ?_
   refine qb2 ?_
   refine DJ_case (k := 151) (show _ = Value.bool _ from rfl) (fun hg16 => ?_) (fun hg16 => ?_)
   ·
    replace hg16 := qb hg16
    refine q_d rfl (awake21_tri _ _) ?_
    refine qbp ?_
    refine DJ_q (yv_assign (show _ = Value.bool _ from rfl)) rfl rfl rfl ?_
    refine DJ_nil (seqK_normal (CJ_ret ?_))
    refine retK_ret (L' := []) (R' := R) (res1 rfl (rv_tmp (show _ = Value.bool _ from rfl))) ?hp ?hL ?hR
    case hp => exact ⟨rfl, rfl, rfl⟩
    case hL => exact List.nil_sublist _
    case hR => exact fun r hr => (up3 r hr).mono hRK
   replace hg16 := qb hg16
   exact absurd (decide_eq_decide.2 (by simp; omega)) hg16
  replace hg3 := qb hg3
  simp at hg3
end Go.Proofs.Ytkpfjmibipblhaa
