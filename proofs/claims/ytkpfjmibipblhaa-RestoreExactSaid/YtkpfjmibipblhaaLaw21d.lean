import Derived.Test.YtkpfjmibipblhaaRefA
import Derived.Test.YtkpfjmibipblhaaEasyR
import Derived.Test.YtkpfjmibipblhaaStrEq
import Derived.Test.YtkpfjmibipblhaaRuleP
import Derived.Test.YtkpfjmibipblhaaLaw21b
section
/-
  The values of conditions, the reference's. By an AI agent; no person has read it.
-/
set_option linter.unusedSimpArgs false
set_option linter.unusedVariables false
namespace Go.Proofs.Ytkpfjmibipblhaa
open Go.Aw Go
set_option maxRecDepth 20000
attribute [local irreducible] CJ LJ DJ Tri YV Gives seqK blockK loopK retK RV mergeK OwL.L
end Go.Proofs.Ytkpfjmibipblhaa
end
section
/-
  The values of conditions and the states of zones, the reference's; lists that are compared. By an AI agent; no person has read it.
-/
set_option linter.unusedSimpArgs false
set_option linter.unusedVariables false
namespace Go.Proofs.Ytkpfjmibipblhaa
open Go.Aw Go
set_option maxRecDepth 20000
attribute [local irreducible] CJ LJ DJ Tri YV Gives seqK blockK loopK retK RV mergeK OwL.L
theorem sameCuts_tri (x y : Arr XCut) (L : List Blk) (R : List Sl) (hx : InR (cusl x) R) (hy : InR (cusl y) R) (he : x.l = y.l) :
    Tri Try.prog 41 [x.val, y.val].toArray L R (fun v L' R' => v = .bool true ∧ L = L' ∧ R = R') := by
  have hle : x.l.length = y.l.length := by rw [he]
  refine Tri_len Try.call41 hx fun hxn => ?_
  refine tri_enter 26 Try.call41 Try.func41 rfl rfl rfl ?_
  refine qae ?_
  refine qaz ?_
  refine qaw ?_
  refine qbm ?_
  refine qag ?_
  refine qbm ?_
  refine qag ?_
  refine qbq ?_
  refine qaf ?_
  refine q_c (fun hc0 => ?_) (fun hc0 => ?_)
  ·
   refine qae ?_
   refine qaz ?_
   refine qbh ?_
   refine q_b (L' := L) (R' := R) ?_
   exact absurd hle (by omega)
  refine qbo ?_
  refine qad ?_
  refine qa2 ?_
  refine CJ_forget [(0, Value.slice _ _ _), (1, Value.slice _ _ _), (5, Value.int _ _)] (by repeat' (first | exact trivial | refine And.intro rfl ?_)) fun tq0 => ?_
  refine q_s [4, 5, 11, 12, 13, 14, 15, 16, 17, 18, 19, 20, 21, 22, 23, 24, 25] (fun g : {k : Nat // k ≤ x.l.length} => [(5, .int .i64 ((g.1 : Nat) : Int))]) (fun g => x.l.length - g.1) (⟨0, by omega⟩) ?_
  rintro ⟨k, hk⟩ junk
  try dsimp only
  refine qbi ?_
  refine qaa ?_
  refine qbm ?_
  refine qag ?_
  refine qaj ?_
  refine qaf ?_
  refine q_c (fun hc1 => ?_) (fun hc1 => ?_)
  ·
   have hxg := get_D (l := x.l) (k := k) default (by omega)
   have hyg : y.l[k]? = some (x.l.getD k default) := by rw [← he]; exact hxg
   refine CJ_skip (seqK_normal (CJ_seq (CJ_block (CJ_seq ?_))))
   refine CJ_drawn tb [0, 1, 2, 3, 4, 5, 6, 7, 8] ([]) mixed (by kernel_rfl) (by repeat (first | exact zs0 _ | exact zs1 _ | apply zs2 | apply zs3 | apply zs4 | apply zs5)) ?_
   refine DJ_q (yv_move (show _ = Value.slice _ _ _ from rfl)) rfl rfl rfl ?_
   refine qao ?_
   refine qds ?_
   refine qdv ?_
   refine DJ_q (yv_move (show _ = Value.slice _ _ _ from rfl)) rfl rfl rfl ?_
   refine qao ?_
   refine qds ?_
   refine qdv ?_
   refine DJ_q (yv_neq_str cutEq rfl rfl (by repeat (first | exact trivial | refine ⟨trivial, ?_⟩)) (by repeat (first | exact trivial | refine ⟨trivial, ?_⟩)) rfl) rfl rfl rfl ?_
   refine qbu ?_
   refine q_c (fun hc2 => ?_) (fun hc2 => ?_)
   ·
    refine qae ?_
    refine qaz ?_
    refine qbt ?_
    refine q_b (L' := L) (R' := R) ?_
    exact absurd hc2 (by simp [cellsEq, cellEq])
   refine qbj ?_
   refine qaa ?_
   refine qar ?_
   refine qad ?_
   refine qav ?_
   exact q_k (⟨k + 1, by omega⟩)
  refine qbk ?_
  refine qaz ?_
  refine qa0 ?_
  refine q_b (L' := L) (R' := R) ?_
  exact ⟨rfl, rfl, rfl⟩
end Go.Proofs.Ytkpfjmibipblhaa
end
section
/-
  Statements about chapter 21: what comes too late. By an AI agent; no person has read it.
-/
set_option linter.unusedSimpArgs false
set_option linter.unusedVariables false
namespace Go.Proofs.Ytkpfjmibipblhaa
open Go.Aw Go
set_option maxRecDepth 20000
attribute [local irreducible] CJ LJ DJ Tri YV Gives seqK blockK loopK retK RV mergeK OwL.L
section
variable {A9 B9 : Prop}
theorem ycvaa (a : A9) (h : A9 → B9 := by exact LJ_q (yv_loadN (row := [_, _, _, _, _]) tb rfl rfl rfl (by repeat (first | exact zi0 | apply zi1 | apply zi2)) (by rfl) (by rfl)) rfl) : B9 := h a
theorem ycvab (a : A9) (h : A9 → B9 := by exact LJ_q (by first | exact yv_pick_true rfl rfl | exact yv_pick_false rfl rfl | exact yv_pick rfl) rfl) : B9 := h a
theorem ycvac (a : A9) (h : A9 → B9 := by exact LJ_q (yv_loadN (row := [_, _, _, _, _, _, _, _]) tb rfl rfl rfl (by repeat (first | exact zi0 | apply zi1 | apply zi2)) (by rfl) (by rfl)) rfl) : B9 := h a
theorem ycvad (a : A9) (h : A9 → B9 := by exact LJ_qg (yv_loadN (row := [_, _, _, _, _]) tb rfl rfl rfl (by repeat (first | exact zi0 | apply zi1 | apply zi2)) (by rfl) (by rfl)) rfl rfl) : B9 := h a
theorem ycvae (a : A9) (h : A9 → B9 := by exact LJ_qg (yv_loadN (row := [_, _, _]) tb rfl rfl rfl (by repeat (first | exact zi0 | apply zi1 | apply zi2)) (by rfl) (by rfl)) rfl rfl) : B9 := h a
end
theorem chain_get {n i : Nat} (h : i < n) : (chainS n)[i]? = some ⟨(i : Int) - 1, 0, 0, true, false⟩ := by
  rw [chainS, List.getElem?_map, List.getElem?_range h]; rfl
theorem late_no {g t : Int} {q : XRest} (hgv : g = if 1600 < t then 8 else 0) (hqv : q = if g = 0 then ⟨0, 0, 1, 2, t⟩ else ⟨0, 0, -1, 1, 1000⟩) (h : (¬ decide (g = 0) = decide (t ≤ 1600)) ∨ (¬ g = 0 ∧ (¬ g = 8 ∨ cellsEq q.cells (XRest.cells ⟨0, 0, -1, 1, 1000⟩) = false)) ∨ cellsEq (XRest.cells ⟨0, 0, -1, 1, 1000⟩) (XRest.cells ⟨0, 0, -1, 1, 1000⟩) = false) : False := by
  by_cases hb : 1600 < t
  · rw [if_pos hb] at hgv
    subst hgv
    rw [if_neg (by decide)] at hqv
    subst hqv
    have e3 : ¬ t ≤ 1600 := by omega
    simp [e3, cellsEq, cellEq, XRest.cells] at h
  · rw [if_neg hb] at hgv
    subst hgv
    have e3 : t ≤ 1600 := by omega
    simp [e3, cellsEq, cellEq, XRest.cells] at h
theorem easy_canlate {s : XSite} {len dl ho : Int} (h : EasyD s len dl ho) {c : List XCut} {fl : List XSpan} {t0 t : Int} {f : XFeeder} (hc : c.length = 1) (hf : fl.length = 1) (ht : 0 ≤ t ∧ t ≤ 2147483648) (hl : t < t0 ∨ t0 < t - 600) : canRE s c fl ⟨0, 0, 1, 2, t0⟩ f t = 8 := by
  rw [canRE, hc, hf, easy_shared h ht, if_neg (by simp), if_neg (by simp), if_pos (show LateR ⟨0, 0, 1, 2, t0⟩ t from hl)]
theorem restoreLate_law (y : Arr Int) (wait early : Int) (R : List Sl) (hy : CodesR y R) (hw : 0 ≤ wait ∧ wait ≤ 65535) (he : 0 ≤ early ∧ early ≤ 255) :
    Tri Try.prog 8 [y.val, .int .u16 wait, .int .u8 early].toArray [] R (fun v L' R' => v = .bool true ∧ [] = L' ∧ R = R') := by
  refine tri_enter 151 Try.call8 Try.func8 rfl rfl rfl ?_
  refine qae ?_
  refine qaz ?_
  refine qam ?_
  refine qbm ?_
  refine LJ_call rfl (new_tri y _ _ hy) rfl ?_
  rintro v L' R' ⟨c, rfl, hx, rfl, rfl⟩
  refine LJ_call rfl (drawEasy_tri c _ 0 _ hx (Nat.zero_le _)) rfl ?_
  rintro v L' R' ⟨s, len, dl, ho, sw, zn, n, k1, rfl, hE, ⟨hsk, hzk⟩, hn, hsl, hzl, ⟨hk1, _⟩, ⟨hs, hR0⟩, rfl⟩
  refine LJ_q (yv_move rfl) rfl ?_
  refine qbs ?_
  refine qbs ?_
  refine qaq ?_
  intro b7
  refine qaq ?_
  intro b8
  refine qak ?_
  refine qak ?_
  refine qco ?_
  obtain ⟨so, sl⟩ := sw
  obtain ⟨zo, zl⟩ := zn
  obtain rfl : sl = chainS n := hsl
  obtain rfl : zl = [(n : Int) - 1] := hzl
  have hRR : ∀ r ∈ R, InR r R' := fun r hr => hR0 r (.tail _ hr)
  have hcn := chainS_len (n := n)
  refine qay ?_
  refine qab ?_
  refine qac ?_
  refine qag ?_
  refine qaa ?_
  refine qa2 ?_
  refine CJ_forget [(1, Value.int _ _), (2, Value.int _ _), (7, Value.pointer _), (8, Value.pointer _), (31, Value.int _ _), (32, Value.int _ _)] (by repeat' (first | exact trivial | refine And.intro rfl ?_)) fun tq0 => ?_
  refine q_p [9, 32, 33, 34, 35, 36, 37, 38, 39, 40, 41, 42, 43, 44, 45] ((⟨fun g => [(32, .int .i64 ((g.1.1 : Nat) : Int))], fun g => ⟨b8, [(⟨so, chainS n⟩ : OwL XSwitch).val, (⟨zo, [(n : Int) - 1]⟩ : OwL Int).val, .int .i64 3], 71⟩ :: ⟨b7, s.cells, 36⟩ :: ((⟨so, g.1.2⟩ : OwL XSwitch).L 98 XSwitch.cells ++ ((⟨zo, [(n : Int) - 1]⟩ : OwL Int).L 3 icell ++ (cblk c (codes300 y) k1 :: []))), fun _ => R', fun g => n - g.1.1⟩ : Head {g : Nat × List XSwitch // g.1 ≤ n ∧ WrO (chainS n) (fun j : Nat => (⟨(j : Int) - 1, 0, -1, false, false⟩ : XSwitch)) g.1 g.2})) (⟨(0, chainS n), by dsimp only; omega, WrO.zero⟩) ?_
  rintro ⟨⟨i, l⟩, hi, hW⟩ junk
  try dsimp only
  dsimp only at hi hW
  have hll : l.length = n := hW.len.trans hcn
  have hlk : (⟨so, l⟩ : OwL XSwitch).ok 5 XSwitch.cells := OwL.len_ok (fun _ => rfl) hsk (by rw [hll, hcn])
  refine qae ?_
  refine qaj ?_
  refine qa4 ?_
  refine q_c (fun hc0 => ?_) (fun hc0 => ?_)
  ·
   have hlg : l[i]? = some ⟨(i : Int) - 1, 0, 0, true, false⟩ := (hW.old i (Nat.le_refl _)).trans (chain_get (by omega))
   have hlk1 : (⟨so, l.set i ⟨(i : Int) - 1, 0, 0, false, false⟩⟩ : OwL XSwitch).ok 5 XSwitch.cells := OwL.set_ok (f := XSwitch.cells) (wd := 5) (p := (⟨so, l⟩ : OwL XSwitch)) (i := i) (x := ⟨(i : Int) - 1, 0, 0, false, false⟩) (fun _ => rfl) hlk
   have hlg1 : (l.set i ⟨(i : Int) - 1, 0, 0, false, false⟩)[i]? = some ⟨(i : Int) - 1, 0, 0, false, false⟩ := List.getElem?_set_self (by omega)
   have hll1 : (l.set i ⟨(i : Int) - 1, 0, 0, false, false⟩).length = l.length := List.length_set
   refine qbb ?_
   refine qaa ?_
   refine qad ?_
   refine qaf ?_
   refine CJ_drawn2 tb [38, 39, 40] [0, 1, 2, 3, 4, 5, 6, 7] [8, 9, 10, 11] ([Blk.mk b8 _ _]) _ mixed (by kernel_rfl) (by repeat (first | exact zs0 _ | exact zs1 _ | apply zs2 | apply zs3 | apply zs4 | apply zs5)) (by (repeat (first | apply List.Sublist.cons (a := Blk.mk b36 _ _) | apply List.Sublist.cons (a := Blk.mk b39 _ _) | apply List.Sublist.cons_cons)); exact List.Sublist.refl _) ?_
   refine qan ?_
   refine qau ?_
   refine qbf ?_
   refine qcp ?_
   refine qcu ?_
   refine DJ3_ql (yv_move (show _ = Value.int _ _ from rfl)) rfl rfl rfl rfl ?_
   refine DJ3_q (yv_index_ow tb ((⟨so, l⟩ : OwL XSwitch)) _ rfl rfl ((show _ = Value.slice _ _ _ from rfl).trans (by simp only [OwL.val, hll, hcn])) rfl (by assumption) (i := i) (by first | rfl | omega | (simp; omega)) (by first | omega | (dsimp only; omega) | (dsimp only; rw [List.length_set]; omega) | (dsimp only; simp only [List.length_set]; omega))) rfl rfl rfl rfl ?_
   refine qcv ?_
   refine qba ?_
   refine DJ_g0 (gives_store1_ow tb ((⟨so, l⟩ : OwL XSwitch)) (⟨(i : Int) - 1, 0, 0, false, false⟩) rfl rfl rfl rfl (by repeat (first | apply OSeg.cons | exact OSeg.here | exact OSeg.last | exact OSeg.at (by assumption) | apply OSeg.app)) (by assumption) (fun _ => rfl) (by assumption) (by decide) (by rfl) (by rfl)) rfl rfl ?_
   rintro v L' R' ⟨rfl, rfl⟩
   refine qa1 ?_
   refine DJ_q (yv_index_ow tb ((⟨so, l.set i ⟨(i : Int) - 1, 0, 0, false, false⟩⟩ : OwL XSwitch)) _ rfl rfl ((show _ = Value.slice _ _ _ from rfl).trans (by simp only [OwL.val, hll1, hll, hcn])) rfl (by assumption) (i := i) (by first | rfl | omega | (simp; omega)) (by first | omega | (dsimp only; omega) | (dsimp only; rw [List.length_set]; omega) | (dsimp only; simp only [List.length_set]; omega))) rfl rfl rfl ?_
   refine qce ?_
   refine DJ_g0 (gives_store1_ow tb ((⟨so, l.set i ⟨(i : Int) - 1, 0, 0, false, false⟩⟩ : OwL XSwitch)) (⟨(i : Int) - 1, 0, -1, false, false⟩) rfl rfl rfl rfl (by repeat (first | apply OSeg.cons | exact OSeg.here | exact OSeg.last | exact OSeg.at (by assumption) | apply OSeg.app)) (by assumption) (fun _ => rfl) (by assumption) (by decide) (by rfl) (by rfl)) rfl rfl ?_
   rintro v L' R' ⟨rfl, rfl⟩
   refine qa1 ?_
   refine qby ?_
   refine qar ?_
   refine qaa ?_
   refine qav ?_
   exact q_k ⟨(i + 1, (l.set i ⟨(i : Int) - 1, 0, 0, false, false⟩).set i ⟨(i : Int) - 1, 0, -1, false, false⟩), by dsimp only; omega, by dsimp only; rw [List.set_set]; exact hW.next (by omega) rfl⟩
  obtain rfl : i = n := by omega
  obtain rfl : l = openS i := (show WrO (chainS i) _ (chainS i).length l by rw [hcn]; exact hW).done.trans (by rw [hcn]; rfl)
  refine qc3 ?_
  have hv : (⟨so, chainS i⟩ : OwL XSwitch).val = (⟨so, openS i⟩ : OwL XSwitch).val := by simp only [OwL.val, hll, hcn]
  rw [hv]
  refine CJ_frz1 (A := (⟨b8, [(⟨so, openS i⟩ : OwL XSwitch).val, (⟨zo, [(i : Int) - 1]⟩ : OwL Int).val, .int .i64 3], 71⟩ :: ⟨b7, s.cells, 36⟩ :: [])) (p := (⟨so, openS i⟩ : OwL XSwitch)) (wd := 5) [] (fun _ => rfl) (by decide) hlk (fun s hs => by cases hs) ?_
  refine CJ_frz1 (A := (⟨b8, [(⟨so, openS i⟩ : OwL XSwitch).val, (⟨zo, [(i : Int) - 1]⟩ : OwL Int).val, .int .i64 3], 71⟩ :: ⟨b7, s.cells, 36⟩ :: [])) (p := (⟨zo, [(i : Int) - 1]⟩ : OwL Int)) (wd := 1) [] (fun _ => rfl) (by decide) hzk (fun s hs => by cases hs) ?_
  refine CJ_weak (L' := (⟨b8, [(⟨so, openS i⟩ : OwL XSwitch).val, (⟨zo, [(i : Int) - 1]⟩ : OwL Int).val, .int .i64 3], 71⟩ :: ⟨b7, s.cells, 36⟩ :: [])) (List.sublist_append_left _ _) (allR_self _) ?_
  obtain ⟨f, hfe⟩ : ∃ f : XFeeder, f = ⟨(⟨so, openS i⟩ : OwL XSwitch).arr, (⟨zo, [(i : Int) - 1]⟩ : OwL Int).arr, 3⟩ := ⟨_, rfl⟩
  obtain ⟨R2, hR2e⟩ : ∃ R2, R2 = isl f.zones :: swsl f.switches :: R' := ⟨_, rfl⟩
  have hR2 : ∀ r ∈ R', InR r R2 := fun r hr => inR_self (by rw [hR2e]; exact .tail _ (.tail _ hr))
  have hf2 : FeederR f R2 := ⟨inR_self (by rw [hR2e]; exact .tail _ (.head _)), inR_self (by rw [hR2e]; exact .head _)⟩
  have hs2 := hs.mono hR2
  have hfs : f.switches.l = openS i := by rw [hfe]
  have hfz : f.zones.l = [(i : Int) - 1] := by rw [hfe]
  have hfr : f.reply = 3 := by rw [hfe]
  refine CJ_R (show _ = R2 by rw [hR2e, hfe]) ?_
  refine CJ_L (show _ = ⟨b8, f.cells, 71⟩ :: ⟨b7, s.cells, 36⟩ :: [] by rw [hfe]; rfl) ?_
  refine qay ?_
  refine LJ_q (yv_build (qs := [(0, (Value.bool _).cells.toList)]) (out := [_, _, _]) tb rfl rfl rfl rfl) rfl ?_
  refine LJ_g (gives_buildSlice (qs := [(0, (Value.agg _).cells.toList)]) (out := [_, _, _]) tb rfl rfl rfl rfl rfl rfl rfl) rfl ?_
  rintro v L' R' ⟨b47, rfl, rfl, hR47⟩
  replace hR47 := hR47.symm; subst hR47
  refine LJ_frz (wd := 3) (len := 1) (cap := 1) (rows := [XCut.cells ⟨true, 0, 0⟩]) (subs := []) rfl (by decide) (by decide) (fun r hr => by rw [List.mem_singleton.1 hr]; rfl) (by decide) rfl (fun s hs => by cases hs) ?_
  refine qcd ?_
  refine LJ_g (gives_buildSlice (qs := [(0, (Value.agg _).cells.toList)]) (out := [_, _]) tb rfl rfl rfl rfl rfl rfl rfl) rfl ?_
  rintro v L' R' ⟨b49, rfl, rfl, hR49⟩
  replace hR49 := hR49.symm; subst hR49
  refine LJ_frz (wd := 2) (len := 1) (cap := 1) (rows := [XSpan.cells ⟨300, 300⟩]) (subs := []) rfl (by decide) (by decide) (fun r hr => by rw [List.mem_singleton.1 hr]; rfl) (by decide) rfl (fun s hs => by cases hs) ?_
  refine qc4 ?_
  refine qc4 ?_
  refine qa4 ?_
  obtain ⟨R3, hR3e⟩ : ∃ R3, R3 = spsl (⟨some ⟨b49, 0, none⟩, 1, [⟨300, 300⟩]⟩ : Arr XSpan) :: cusl (⟨some ⟨b47, 0, none⟩, 1, [⟨true, 0, 0⟩]⟩ : Arr XCut) :: R2 := ⟨_, rfl⟩
  have hR3 : ∀ r ∈ R2, InR r R3 := fun r hr => inR_self (by rw [hR3e]; exact .tail _ (.tail _ hr))
  have hA : RestA s (⟨some ⟨b47, 0, none⟩, 1, [⟨true, 0, 0⟩]⟩ : Arr XCut) (⟨some ⟨b49, 0, none⟩, 1, [⟨300, 300⟩]⟩ : Arr XSpan) R3 := ⟨hs2.mono hR3, inR_self (by rw [hR3e]; exact .tail _ (.head _)), inR_self (by rw [hR3e]; exact .head _)⟩
  have hf3 := hf2.mono hR3
  have up3 : ∀ r ∈ R, InR r R3 := fun r hr => ((hRR r hr).mono hR2).mono hR3
  have hrd := fun (t : Int) (ht : 60 ≤ t) => easy_ready0 hE (rs := 0) ht
  have hask : askE s [⟨true, 0, 0⟩] [⟨300, 300⟩] noRest 0 0 1000 = 0 := by rw [easy_ask hE rfl rfl (by omega), hrd _ (by omega)]
  have haskr : askR s [⟨true, 0, 0⟩] [⟨300, 300⟩] noRest 0 0 1000 = ⟨0, 0, -1, 1, 1000⟩ := by rw [askR, if_pos hask]
  refine CJ_R (show _ = R3 by rw [hR3e]; rfl) ?_
  refine CJ_drawn tb [0, 1, 2, 3, 4, 5, 6, 7, 8, 9, 10] ([Blk.mk b7 _ _]) mixed (by kernel_rfl) (by repeat (first | exact zs0 _ | exact zs1 _ | apply zs2 | apply zs3 | apply zs4 | apply zs5)) ?_
  refine DJ_q (yv_loadN (row := [_, _, _, _, _, _, _, _]) tb rfl rfl rfl (by repeat (first | exact zi0 | apply zi1 | apply zi2)) (by rfl) (by rfl)) rfl rfl rfl ?_
  refine DJ_q (yv_move (show _ = Value.slice _ _ _ from rfl)) rfl rfl rfl ?_
  refine DJ_q (yv_move (show _ = Value.slice _ _ _ from rfl)) rfl rfl rfl ?_
  refine q_d rfl (None_tri _ _) ?_
  refine q_d rfl (Ask_tri s (⟨some ⟨b47, 0, none⟩, 1, [⟨true, 0, 0⟩]⟩ : Arr XCut) (⟨some ⟨b49, 0, none⟩, 1, [⟨300, 300⟩]⟩ : Arr XSpan) noRest 0 0 1000 _ _ hA) ?_
  dsimp only
  rw [hask, haskr]
  refine DJ_q (yv_move rfl) rfl rfl rfl ?_
  refine DJ_q (yv_extract rfl rfl) rfl rfl rfl ?_
  refine DJ_q (yv_extract rfl rfl) rfl rfl rfl ?_
  refine qbr ?_
  intro b12
  refine qbg ?_
  refine qcg ?_
  refine qc6 ?_
  refine qaa ?_
  refine qbq ?_
  refine qaf ?_
  refine q_c (fun hc1 => ?_) (fun hc1 => ?_)
  ·
   (exfalso; simp at hc1)
  refine qcl ?_
  have htm : wait.tmod 1300 = wait % 1300 := Int.tmod_eq_emod_of_nonneg (by omega)
  have htb : 0 ≤ wait.tmod 1300 ∧ wait.tmod 1300 < 1300 := by omega
  refine qay ?_
  refine qaa ?_
  refine qdg ?_
  refine qda ?_
  refine qar ?_
  refine qad ?_
  refine qa4 ?_
  obtain ⟨t, hte⟩ : ∃ t, t = 1000 + wait.tmod 1300 := ⟨_, rfl⟩
  have htr : 1000 ≤ t ∧ t < 2300 := by omega
  rw [← hte]
  obtain ⟨g, hge⟩ : ∃ g, g = confirmE s [⟨true, 0, 0⟩] [⟨300, 300⟩] ⟨0, 0, -1, 1, 1000⟩ 1 t := ⟨_, rfl⟩
  have hgv : g = if 1600 < t then 8 else 0 := by
    rw [hge, easy_confirm hE rfl rfl (by omega), hrd _ (by omega)]
    by_cases h : 1600 < t
    · rw [if_pos h, if_pos (by omega)]
    · rw [if_neg h, if_neg (by omega)]
  obtain ⟨q, hqe⟩ : ∃ q, q = confirmR s [⟨true, 0, 0⟩] [⟨300, 300⟩] ⟨0, 0, -1, 1, 1000⟩ 1 t := ⟨_, rfl⟩
  have hqv : q = if g = 0 then ⟨0, 0, 1, 2, t⟩ else ⟨0, 0, -1, 1, 1000⟩ := by rw [hqe, confirmR, ← hge]
  have hh : confirmE s [⟨true, 0, 0⟩] [⟨300, 300⟩] ⟨0, 0, -1, 1, 1000⟩ 1 (999 - early) = 8 := by rw [easy_confirm hE rfl rfl (by omega), if_pos (by omega)]
  have hhr : confirmR s [⟨true, 0, 0⟩] [⟨300, 300⟩] ⟨0, 0, -1, 1, 1000⟩ 1 (999 - early) = ⟨0, 0, -1, 1, 1000⟩ := confirm_err hh (by decide)
  refine qay ?_
  refine ycvac ?_
  refine qbm ?_
  refine qbm ?_
  refine ycvaa ?_
  refine qaa ?_
  refine q_l rfl (Confirm_tri s (⟨some ⟨b47, 0, none⟩, 1, [⟨true, 0, 0⟩]⟩ : Arr XCut) (⟨some ⟨b49, 0, none⟩, 1, [⟨300, 300⟩]⟩ : Arr XSpan) ⟨0, 0, -1, 1, 1000⟩ 1 t _ _ hA) ?_
  dsimp only
  rw [← hge, ← hqe]
  refine LJ_q (yv_move rfl) rfl ?_
  refine qbs ?_
  refine qbs ?_
  refine qaq ?_
  intro b15
  refine qak ?_
  refine qad ?_
  refine qam ?_
  refine ycvac ?_
  refine qbm ?_
  refine qbm ?_
  refine ycvaa ?_
  refine qaa ?_
  refine qdg ?_
  refine qa9 ?_
  refine q_l rfl (Confirm_tri s (⟨some ⟨b47, 0, none⟩, 1, [⟨true, 0, 0⟩]⟩ : Arr XCut) (⟨some ⟨b49, 0, none⟩, 1, [⟨300, 300⟩]⟩ : Arr XSpan) ⟨0, 0, -1, 1, 1000⟩ 1 (999 - early) _ _ hA) ?_
  dsimp only
  rw [hh, hhr]
  refine LJ_q (yv_move rfl) rfl ?_
  refine qbs ?_
  refine qbs ?_
  refine qaq ?_
  intro b17
  refine qak ?_
  refine qad ?_
  refine qaw ?_
  refine qaa ?_
  refine qbn ?_
  refine qaa ?_
  refine qbx ?_
  refine LJ_q (yv_neq_bool tb rfl rfl rfl) rfl ?_
  refine qah ?_
  apply LJ_or (G := [_, _, _, _, _, _, _, _, _, _, _]) (j := 5) (cj := 89) rfl rfl (by rfl) rfl (show _ = Value.bool _ from rfl) rfl
  ·
   intro hg6
   replace hg6 := qb hg6
   refine qaa ?_
   refine qbq ?_
   refine qah ?_
   apply LJ_and (G := [_, _, _, _, _, _, _]) (j := 8) (cj := 92) rfl rfl (by rfl) rfl (show _ = Value.bool _ from rfl) rfl
   ·
    intro hg9
    replace hg9 := qb hg9
    refine qaa ?_
    refine qbq ?_
    refine qah ?_
    apply LJ_or (G := [_, _, _]) (j := 11) (cj := 95) rfl rfl (by rfl) rfl (show _ = Value.bool _ from rfl) rfl
    ·
     intro hg12
     replace hg12 := qb hg12
     refine ycvaa ?_
     refine ycvaa ?_
     refine LJ_q (yv_neq_str restoringEq rfl rfl (by repeat (first | exact trivial | refine ⟨trivial, ?_⟩)) (by repeat (first | exact trivial | refine ⟨trivial, ?_⟩)) rfl) rfl ?_
     exact qai
    intro junk12
    exact qai
   intro junk9
   exact qai
  intro junk6
  refine qah ?_
  apply LJ_or (G := [_, _]) (j := 18) (cj := 102) rfl rfl (by rfl) rfl (show _ = Value.bool _ from rfl) rfl
  ·
   intro hg19
   replace hg19 := qb hg19
   refine qaa ?_
   refine qbq ?_
   exact qai
  intro junk19
  refine qah ?_
  apply LJ_or (G := [_, _, _]) (j := 22) (cj := 106) rfl rfl (by rfl) rfl (show _ = Value.bool _ from rfl) rfl
  ·
   intro hg23
   replace hg23 := qb hg23
   refine ycvaa ?_
   refine ycvaa ?_
   refine LJ_q (yv_neq_str restoringEq rfl rfl (by repeat (first | exact trivial | refine ⟨trivial, ?_⟩)) (by repeat (first | exact trivial | refine ⟨trivial, ?_⟩)) rfl) rfl ?_
   exact qai
  intro junk23
  refine qaf ?_
  refine q_c (fun hc2 => ?_) (fun hc2 => ?_)
  ·
   (exfalso; rcases hc2 with ((h | h) | h) | h; exact late_no hgv hqv (.inl h); exact late_no hgv hqv (.inr (.inl h)); exact h trivial; exact late_no hgv hqv (.inr (.inr h)))
  refine qbo ?_
  refine qaa ?_
  refine qbq ?_
  refine qaf ?_
  refine q_c (fun hc3 => ?_) (fun hc3 => ?_)
  ·
   refine qae ?_
   refine q_l rfl (awake21_tri _ _) ?_
   refine qaz ?_
   refine qbh ?_
   refine retK_ret (L' := []) (R' := R) (res1 rfl (rv_tmp (show _ = Value.bool _ from rfl))) ?hp ?hL ?hR
   case hp => exact ⟨rfl, rfl, rfl⟩
   case hL => exact List.nil_sublist _
   case hR => exact up3
  obtain rfl : g = 0 := by omega
  obtain rfl : q = ⟨0, 0, 1, 2, t⟩ := by rw [hqv, if_pos rfl]
  have htl : t ≤ 1600 := by
    rcases Int.lt_or_le 1600 t with h | h
    · rw [if_pos h] at hgv; omega
    · exact h
  have hcl : rcloseE s [⟨true, 0, 0⟩] [⟨300, 300⟩] ⟨0, 0, 1, 2, t⟩ f (t + 600 + 1 + early) = 8 := by
    have := easy_canlate hE (c := [⟨true, 0, 0⟩]) (fl := [⟨300, 300⟩]) (t0 := t) (t := t + 600 + 1 + early) (f := f) rfl rfl (by omega) (by omega)
    rw [rcloseE, this, if_pos (by decide)]
  refine qbv ?_
  refine ycvac ?_
  refine qbm ?_
  refine qbm ?_
  refine ycvaa ?_
  refine LJ_q (yv_loadN (row := [_, _, _]) tb rfl rfl rfl (by repeat (first | exact zi0 | apply zi1 | apply zi2)) (by rfl) (by rfl)) rfl ?_
  refine qaa ?_
  refine qar ?_
  refine qar ?_
  refine qaa ?_
  refine qdg ?_
  refine qar ?_
  refine LJ_call rfl (Close_tri s (⟨some ⟨b47, 0, none⟩, 1, [⟨true, 0, 0⟩]⟩ : Arr XCut) (⟨some ⟨b49, 0, none⟩, 1, [⟨300, 300⟩]⟩ : Arr XSpan) ⟨0, 0, 1, 2, t⟩ f (t + 600 + 1 + early) _ _ hA hf3 (by rw [hfs, hfz, openS_len]; simp; omega)) rfl ?_
  rintro v L' R' ⟨q2, pc, psw, pz, rp, rfl, ⟨k2, k3, k4⟩, hC, rfl, hR4⟩
  dsimp only
  rw [hcl]
  refine LJ_q (yv_move rfl) rfl ?_
  iterate 4 refine qbs ?_
  refine qaq ?_
  intro b19
  refine qaq ?_
  intro b21
  refine qak ?_
  refine qc4 ?_
  refine qak ?_
  refine qad ?_
  refine qa4 ?_
  refine CJ_frz1 (A := [_, _]) (p := pz) (wd := 1) [] (fun _ => rfl) (by decide) k4 (fun s hs => by cases hs) ?_
  refine CJ_frz1 (A := [_, _]) (p := psw) (wd := 5) [] (fun _ => rfl) (by decide) k3 (fun s hs => by cases hs) ?_
  refine CJ_frz1 (A := [_, _]) (p := pc) (wd := 3) [] (fun _ => rfl) (by decide) k2 (fun s hs => by cases hs) ?_
  refine qb1 ?_
  obtain ⟨f2, hf2e⟩ : ∃ f2 : XFeeder, f2 = ⟨psw.arr, pz.arr, rp⟩ := ⟨_, rfl⟩
  obtain ⟨R5, hR5e⟩ : ∃ R5, R5 = cusl pc.arr :: swsl psw.arr :: isl pz.arr :: R' := ⟨_, rfl⟩
  have hR5 : ∀ r ∈ R', InR r R5 := fun r hr => inR_self (by rw [hR5e]; exact .tail _ (.tail _ (.tail _ hr)))
  have hpcR : InR (cusl pc.arr) R5 := inR_self (by rw [hR5e]; exact .head _)
  have hf2R : FeederR f2 R5 := by rw [hf2e]; exact ⟨inR_self (by rw [hR5e]; exact .tail _ (.head _)), inR_self (by rw [hR5e]; exact .tail _ (.tail _ (.head _)))⟩
  have up5 : ∀ r ∈ R3, InR r R5 := fun r hr => (hR4 r hr).mono hR5
  have hne : (8 : Int) ≠ 0 := by decide
  obtain rfl : q2 = ⟨0, 0, 1, 2, t⟩ := hC.rest.trans (by rw [rcloseR]; dsimp only; rw [hcl, if_pos hne])
  have ec : pc.l = [⟨true, 0, 0⟩] := hC.cuts.trans (by rw [rcloseC]; dsimp only; rw [hcl, if_pos hne])
  have es : f2.switches.l = f.switches.l := by rw [hf2e]; exact hC.sw.trans (by rw [rcloseSw]; dsimp only; rw [hcl, if_pos hne])
  have ez : f2.zones.l = f.zones.l := by rw [hf2e]; exact hC.zn
  have er : f2.reply = f.reply := by rw [hf2e]; exact hC.rp
  refine CJ_R (show _ = R5 by rw [hR5e]) ?_
  refine CJ_L (show _ = ⟨b21, f2.cells, 71⟩ :: ⟨b19, XRest.cells ⟨0, 0, 1, 2, t⟩, 78⟩ :: ⟨b17, XRest.cells ⟨0, 0, -1, 1, 1000⟩, 78⟩ :: ⟨b15, XRest.cells ⟨0, 0, 1, 2, t⟩, 78⟩ :: ⟨b12, XRest.cells ⟨0, 0, -1, 1, 1000⟩, 78⟩ :: ⟨b8, f.cells, 71⟩ :: ⟨b7, s.cells, 36⟩ :: [] by rw [hf2e]; rfl) ?_
  refine qay ?_
  refine qaa ?_
  refine qbn ?_
  refine qah ?_
  refine LJ_case (k := 133) (show _ = Value.bool _ from rfl) (fun hg3 => ?_) (fun hg3 => ?_)
  ·
   replace hg3 := qb hg3
   refine ycvad ?_
   refine ycvad ?_
   refine LJ_qg (yv_eql_str restoringEq rfl rfl (by repeat (first | exact trivial | refine ⟨trivial, ?_⟩)) (by repeat (first | exact trivial | refine ⟨trivial, ?_⟩)) rfl) rfl rfl ?_
   refine ycvab ?_
   refine qah ?_
   refine LJ_case (k := 138) (show _ = Value.bool _ from rfl) (fun hg8 => ?_) (fun hg8 => ?_)
   ·
    replace hg8 := qb hg8
    refine LJ_qg (yv_move (show _ = Value.slice _ _ _ from rfl)) rfl rfl ?_
    refine LJ_qg (yv_move (show _ = Value.slice _ _ _ from rfl)) rfl rfl ?_
    refine LJ_callg rfl (sameCuts_tri pc.arr (⟨some ⟨b47, 0, none⟩, 1, [⟨true, 0, 0⟩]⟩ : Arr XCut) _ _ hpcR (hA.cuts.mono up5) ec) rfl rfl ?_
    rintro v L' R' ⟨rfl, rfl, rfl⟩
    refine ycvab ?_
    refine qah ?_
    refine LJ_case (k := 143) (show _ = Value.bool _ from rfl) (fun hg13 => ?_) (fun hg13 => ?_)
    ·
     replace hg13 := qb hg13
     refine ycvae ?_
     refine ycvae ?_
     refine LJ_callg rfl (sameFeeder_tri f2 f _ _ hf2R (hf3.mono up5) es ez er) rfl rfl ?_
     rintro v L' R' ⟨rfl, rfl, rfl⟩
     refine ycvab ?_
     refine qah ?_
     refine LJ_case (k := 148) (show _ = Value.bool _ from rfl) (fun hg18 => ?_) (fun hg18 => ?_)
     ·
      replace hg18 := qb hg18
      refine LJ_callg rfl (awake21_tri _ _) rfl rfl ?_
      rintro v L' R' ⟨rfl, rfl, rfl⟩
      refine ycvab ?_
      refine qaz ?_
      refine qa0 ?_
      refine retK_ret (L' := []) (R' := R) (res1 rfl (rv_tmp (show _ = Value.bool _ from rfl))) ?hp ?hL ?hR
      case hp => exact ⟨rfl, rfl, rfl⟩
      case hL => exact List.nil_sublist _
      case hR => exact fun r hr => (up3 r hr).mono up5
     replace hg18 := qb hg18
     simp at hg18
    replace hg13 := qb hg13
    simp at hg13
   replace hg8 := qb hg8
   simp [cellsEq, cellEq] at hg8
  replace hg3 := qb hg3
  simp at hg3
end Go.Proofs.Ytkpfjmibipblhaa
end
