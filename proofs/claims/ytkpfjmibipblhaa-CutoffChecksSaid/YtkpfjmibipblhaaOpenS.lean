import Derived.Test.YtkpfjmibipblhaaLaw20c
import Derived.Test.YtkpfjmibipblhaaLaw20g
import Derived.Test.YtkpfjmibipblhaaDrop
import Derived.Test.YtkpfjmibipblhaaSiteS
import Derived.Test.YtkpfjmibipblhaaSpans
section
/-
  Statements about chapter 20: the values of conditions. By an AI agent; no person has read it.
-/
set_option linter.unusedSimpArgs false
set_option linter.unusedVariables false
namespace Go.Proofs.Ytkpfjmibipblhaa
open Go.Aw Go
set_option maxRecDepth 20000
attribute [local irreducible] CJ LJ DJ Tri YV Gives seqK blockK loopK retK RV mergeK OwL.L
section
variable {A9 B9 : Prop}
theorem yckaa (a : A9) (h : A9 → B9 := by exact DJ_q (yv_loadN (row := [_, _, _, _, _, _, _, _]) tb rfl rfl rfl (by repeat (first | exact zi0 | apply zi1 | apply zi2)) (by rfl) (by rfl)) rfl rfl rfl) : B9 := h a
theorem yckab (a : A9) (h : A9 → B9 := by exact DJ_q (yv_assign (show _ = Value.slice _ _ _ from rfl)) rfl rfl rfl) : B9 := h a
theorem yckac (a : A9) (h : A9 → B9 := by exact DJ_q (yv_move (show _ = Value.slice _ _ _ from rfl)) rfl rfl rfl) : B9 := h a
theorem yckad (a : A9) (h : A9 → B9 := by exact LJ_q (yv_loadN (row := [_, _, _, _, _, _, _, _]) tb rfl rfl rfl (by repeat (first | exact zi0 | apply zi1 | apply zi2)) (by rfl) (by rfl)) rfl) : B9 := h a
end
set_option maxHeartbeats 4000000 in
theorem cutoffValues_law (y : Arr Int) (raw : Arr XWatch) (wa ub tm : Int) (R : List Sl) (hy : CodesR y R) (hraw : InR (wasl raw) R) (hwa : I64 wa) (hub : I64 ub) (ht : I64 tm) :
    Tri Try.prog 4 [y.val, raw.val, .int .i64 wa, .int .i64 ub, .int .i64 tm].toArray [] R (fun v L' R' => v = .bool true ∧ [] = L' ∧ R = R') := by
  refine tri_enter 156 Try.call4 Try.func4 rfl rfl rfl ?_
  refine qae ?_
  refine qaz ?_
  refine qam ?_
  refine qbm ?_
  refine LJ_call rfl (new_tri y _ _ hy) rfl ?_
  rintro v L' R' ⟨c, rfl, hx, rfl, rfl⟩
  refine qc1 ?_
  refine qam ?_
  refine qa6 ?_
  refine LJ_call rfl (drawSite_tri c (codes300 y) 0 _ hx (Nat.zero_le _)) rfl ?_
  rintro v L' R' ⟨s, u, z, k1, rfl, hD, hk1, ⟨hs, hu, hz, hR0⟩, rfl⟩
  refine LJ_q (yv_move rfl) rfl ?_
  iterate 3 refine qbs ?_
  refine qaq ?_
  intro b12
  refine qaq ?_
  intro b13
  refine qaq ?_
  intro b14
  iterate 3 refine qak ?_
  refine qa4 ?_
  have hRR : ∀ r ∈ R, InR r R' := fun r hr => hR0 r (.tail _ hr)
  have hx1 := hx.mono hR0
  have hF := hD.air.flows
  have hfn := hF.flen
  have hn0 := hD.nsens
  have hn1 := hD.ncond
  have hn2 := hD.nzone
  have hn3 := hD.air.nroads
  refine CJ_weak (L' := ⟨b14, z.cells, 42⟩ :: ⟨b12, s.cells, 36⟩ :: cblk c (codes300 y) k1 :: []) (R' := R') (.cons_cons _ (.cons _ (List.Sublist.refl _))) (allR_self _) ?_
  refine CJ_drawn tb [0, 1, 3, 4, 6, 7, 8, 2, 5, 9, 10, 11, 12] ([Blk.mk b14 _ _, Blk.mk b12 _ _]) mixed (by kernel_rfl) (by repeat (first | exact zs0 _ | exact zs1 _ | apply zs2 | apply zs3 | apply zs4 | apply zs5)) ?_
  refine qb8 ?_
  refine yckaa ?_
  refine qb8 ?_
  refine yckaa ?_
  refine qb8 ?_
  refine qal ?_
  refine qat ?_
  refine DJ_call rfl (Tri.spl (.consB (.consB (.consL .nil))) (said_tri c (codes300 y) k1 s _ hx1 hk1 hs.sensors (by omega))) rfl rfl ?_
  rintro v L' R' ⟨_, rfl, m, k2, rfl, hmk, hm, hk2, rfl, rfl⟩
  refine qas ?_
  simp only [List.append_assoc, List.cons_append, List.nil_append, List.append_nil]
  refine DJ_call rfl (Tri.spl (.consB (.consB (.appB (.consL .nil)))) (watched_tri c (codes300 y) k2 s _ hx1 hk2 (by omega))) rfl rfl ?_
  rintro v L' R' ⟨_, rfl, w, k3, rfl, hwk, hw, hk3, rfl, rfl⟩
  refine qas ?_
  simp only [List.append_assoc, List.cons_append, List.nil_append, List.append_nil]
  refine DJ_call rfl (Tri.spl (.consB (.consB (.appB (.appB (.consL .nil))))) (drawSpans_tri c (codes300 y) k3 z.flows _ hx1 hk3 hz.flows (fun q hq => by have := hF.flow q hq; omega) (by omega))) rfl rfl ?_
  rintro v L' R' ⟨_, rfl, l, k4, rfl, hlk, hlN, hk4, rfl, rfl⟩
  refine qas ?_
  simp only [List.append_assoc, List.cons_append, List.nil_append, List.append_nil]
  iterate 3 refine yckab ?_
  refine qb9 ?_
  refine CJ_frz1 (A := [_, _]) (wd := 4) [] (fun _ => rfl) (by decide) hmk (fun s hs => by cases hs) ?_
  refine qb1 ?_
  refine CJ_frz1 (A := [_, _]) (wd := 3) [] (fun _ => rfl) (by decide) hwk (fun s hs => by cases hs) ?_
  refine qb1 ?_
  refine CJ_frz1 (A := [_, _]) (wd := 2) [] (fun _ => rfl) (by decide) hlk (fun s hs => by cases hs) ?_
  refine qb1 ?_
  obtain ⟨R2, hR2e⟩ : ∃ R2, R2 = spsl l.arr :: wasl w.arr :: mesl m.arr :: R' := ⟨_, rfl⟩
  have hR2 : ∀ r ∈ R', InR r R2 := fun r hr => inR_self (by rw [hR2e]; exact .tail _ (.tail _ (.tail _ hr)))
  have hlR : InR (spsl l.arr) R2 := inR_self (by rw [hR2e]; exact .head _)
  have hwR : InR (wasl w.arr) R2 := inR_self (by rw [hR2e]; exact .tail _ (.head _))
  have hmR : InR (mesl m.arr) R2 := inR_self (by rw [hR2e]; exact .tail _ (.tail _ (.head _)))
  have hs2 := hs.mono hR2
  have hx2 := hx1.mono hR2
  have hzR := hs2.zones
  have hcR := hs2.conds
  have hmn : m.arr.l.length = s.sensors.l.length := hm.len
  refine CJ_R (show _ = R2 by rw [hR2e]) ?_
  refine CJ_weak (L' := ⟨b12, s.cells, 36⟩ :: cblk c (codes300 y) k4 :: []) (R' := R2) (.cons _ (List.Sublist.refl _)) (allR_self _) ?_
  refine qay ?_
  refine qaa ?_
  refine q_l rfl (mod_tri tm 60 _ _ ht (by decide)) ?_
  have hmd := modS_bounds (k := tm) (n := 60) (by decide)
  generalize modS tm 60 = md at hmd ⊢
  refine qad ?_
  refine qaw ?_
  refine qad ?_
  refine qa2 ?_
  refine CJ_forget [(1, Value.slice _ _ _), (2, Value.int _ _), (3, Value.int _ _), (4, Value.int _ _), (12, Value.pointer _), (15, Value.slice _ _ _), (16, Value.slice _ _ _), (17, Value.slice _ _ _), (18, Value.int _ _), (19, Value.int _ _)] (by repeat' (first | exact trivial | refine And.intro rfl ?_)) fun tq0 => ?_
  refine CJ_loop [10, 19, 56, 57, 58, 59, 60, 61, 62, 63, 64, 65, 66, 67, 68, 69, 70, 71, 72, 73] ((⟨fun g => [(19, .int .i64 g.1)], fun _ => ⟨b12, s.cells, 36⟩ :: cblk c (codes300 y) k4 :: [], fun _ => R2, fun g => ((s.sensors.l.length : Int) + 1 - g.1).toNat⟩ : Head {g : Int // -1 ≤ g ∧ g ≤ (s.sensors.l.length : Int) + 1})) (⟨-1, by omega⟩) (by repeat' (first | exact trivial | refine And.intro rfl ?_)) (List.Sublist.refl _) (allR_self _) ?_
  rintro ⟨i, hi⟩ junk
  try dsimp only
  refine qbi ?_
  refine qaa ?_
  refine qab ?_
  refine qac ?_
  refine qag ?_
  refine qbx ?_
  refine qaf ?_
  refine q_c (fun hc0 => ?_) (fun hc0 => ?_)
  ·
   refine CJ_skip (seqK_normal (CJ_seq (CJ_block (CJ_seq ?_))))
   refine CJ_drawn tb [0, 1, 2, 3, 5, 6, 7, 8, 4, 9, 10] ([Blk.mk b12 _ _]) mixed (by kernel_rfl) (by repeat (first | exact zs0 _ | exact zs1 _ | apply zs2 | apply zs3 | apply zs4 | apply zs5)) ?_
   refine yckaa ?_
   refine yckac ?_
   refine qao ?_
   refine qao ?_
   refine yckaa ?_
   refine yckac ?_
   refine qao ?_
   refine qao ?_
   refine q_d rfl (known_tri s m.arr i md _ _ hs2.sensors hmR hm.ok (by omega)) ?_
   refine q_d rfl (refKnown_tri s m.arr i md _ _ hs2.sensors hmR hm.ok (by omega)) ?_
   refine DJ_q (yv_neq_span spanEq rfl rfl) rfl rfl rfl ?_
   refine qbu ?_
   refine q_c (fun hc1 => ?_) (fun hc1 => ?_)
   ·
    (exfalso; simp at hc1)
   refine qbj ?_
   refine qaa ?_
   refine qar ?_
   refine qad ?_
   refine qav ?_
   exact q_k ⟨i + 1, by omega⟩
  refine qbk ?_
  refine yckad ?_
  refine qaa ?_
  refine qaa ?_
  refine LJ_call rfl (spoilt_tri s wa ub _ _ hs2 hwa hD.spoil.1 hD.spoil.2) rfl ?_
  rintro v L' R' ⟨s2, rfl, ⟨hs3', hR3⟩, rfl⟩
  refine qaq ?_
  intro b20
  refine qak ?_
  refine qco ?_
  have hsv : ∀ x : XSite, x = s ∨ x = s2 → SiteR x R' := fun x hx => by rcases hx with rfl | rfl; exact hs2.mono hR3; exact hs3'
  have hraw3 := (((hraw.mono hRR).mono hR2).mono hR3)
  have hwR3 := hwR.mono hR3
  have hmR3 := hmR.mono hR3
  have hlR3 := hlR.mono hR3
  have hs3 := hs2.mono hR3
  refine qay ?_
  refine yckad ?_
  refine yckad ?_
  refine LJ_g (gives_buildSlice (qs := [(0, (Value.agg _).cells.toList), (1, (Value.agg _).cells.toList)]) (out := [_, _, _, _, _, _, _, _, _, _, _, _, _, _, _, _]) tb rfl rfl rfl rfl rfl rfl rfl) rfl ?_
  rintro v L' R' ⟨b80, rfl, rfl, hR80⟩
  replace hR80 := hR80.symm; subst hR80
  refine LJ_frz (wd := 8) (len := 2) (cap := 2) (rows := [s.cells, s2.cells]) (subs := []) rfl (by decide) (by decide) (fun r hr => by simp only [List.mem_cons, List.not_mem_nil, or_false] at hr; rcases hr with rfl | rfl <;> rfl) (by decide) rfl (fun s hs => by cases hs) ?_
  refine qag ?_
  refine qaa ?_
  refine qa2 ?_
  refine CJ_forget [(1, Value.slice _ _ _), (4, Value.int _ _), (12, Value.pointer _), (15, Value.slice _ _ _), (16, Value.slice _ _ _), (17, Value.slice _ _ _), (18, Value.int _ _), (80, Value.slice _ _ _), (81, Value.int _ _), (82, Value.int _ _)] (by repeat' (first | exact trivial | refine And.intro rfl ?_)) fun tq1 => ?_
  obtain ⟨R4, hR4e⟩ : ∃ R4, R4 = (⟨some ⟨b80, 0, none⟩, 2, [s, s2]⟩ : Arr XSite).sl 8 XSite.cells [] :: R' := ⟨_, rfl⟩
  have hR4 : ∀ r ∈ R', InR r R4 := fun r hr => inR_self (by rw [hR4e]; exact .tail _ hr)
  have hA1R : InR ((⟨some ⟨b80, 0, none⟩, 2, [s, s2]⟩ : Arr XSite).sl 8 XSite.cells []) R4 := inR_self (by rw [hR4e]; exact .head _)
  refine CJ_R (show _ = R4 by rw [hR4e]; rfl) ?_
  refine CJ_weak (L' := ⟨b12, s.cells, 36⟩ :: cblk c (codes300 y) k4 :: []) (R' := R4) (by repeat (first | exact zs0 _ | exact zs1 _ | apply zs2 | apply zs3 | apply zs4 | apply zs5)) (allR_self _) ?_
  refine CJ_loop [10, 22, 24, 26, 27, 28, 29, 30, 31, 32, 82, 83, 84, 85, 86, 87, 88, 89, 90, 91, 92, 93, 94, 95, 96, 97, 98, 99, 100, 101, 102, 103, 104, 105, 106, 107, 108, 109, 110, 111, 112, 113, 114, 115, 116, 117, 118, 119, 120, 121, 122, 123, 124, 125, 126, 127, 128, 129, 130, 131, 132, 133, 134, 135, 136, 137, 138, 139] ((⟨fun g => [(82, .int .i64 ((g.1 : Nat) : Int))], fun _ => ⟨b12, s.cells, 36⟩ :: cblk c (codes300 y) k4 :: [], fun _ => R4, fun g => 2 - g.1⟩ : Head {g : Nat // g ≤ 2})) (⟨0, by omega⟩) (by repeat' (first | exact trivial | refine And.intro rfl ?_)) (List.Sublist.refl _) (allR_self _) ?_
  rintro ⟨i1, hi1⟩ junk
  try dsimp only
  refine qae ?_
  refine qaj ?_
  refine qa4 ?_
  refine q_c (fun hc2 => ?_) (fun hc2 => ?_)
  ·
   obtain ⟨x1, hv1, hv1'⟩ := two_get (a := s) (b := s2) (i := i1) (by omega)
   have hx1R : SiteR x1 R4 := (hsv x1 hv1').mono hR4
   refine qbb ?_
   refine LJ_q (by first | exact yv_index_ro tb rfl rfl rfl rfl (by first | assumption | exact zr (by simp)) (i := i1) (by first | rfl | omega | (simp; omega)) (by omega) | exact yv_index tb rfl rfl rfl rfl (i := i1) (by first | rfl | omega | (simp; omega)) (by omega)) rfl ?_
   refine LJ_q (by first | exact yv_loadN_ro (row := [_, _, _, _, _, _, _, _]) tb rfl rfl rfl (by first | assumption | exact zr (by simp)) (by assumption) (by rfl) (by rfl) | exact yv_loadN (row := [_, _, _, _, _, _, _, _]) tb rfl rfl rfl (by repeat (first | exact zi0 | apply zi1 | apply zi2)) (by rfl) (by rfl)) rfl ?_
   refine qaq ?_
   intro b22
   refine qak ?_
   refine qam ?_
   refine qbm ?_
   refine qbm ?_
   refine LJ_g (gives_buildSlice (qs := [(0, (Value.slice _ _ _).cells.toList), (1, (Value.slice _ _ _).cells.toList)]) (out := [_, _]) tb rfl rfl rfl rfl rfl rfl rfl) rfl ?_
   rintro v L' R' ⟨b88, rfl, rfl, hR88⟩
   replace hR88 := hR88.symm; subst hR88
   refine LJ_frz (wd := 1) (len := 2) (cap := 2) (rows := [[w.val], [raw.val]]) (subs := []) rfl (by decide) (by decide) (fun r hr => by simp only [List.mem_cons, List.not_mem_nil, or_false] at hr; rcases hr with rfl | rfl <;> rfl) (by decide) rfl (fun s hs => by cases hs) ?_
   refine qag ?_
   refine qaa ?_
   refine qa2 ?_
   refine CJ_forgetW [10, 22, 24, 26, 27, 28, 29, 30, 31, 32, 82, 83, 84, 85, 86, 87, 88, 89, 90, 91, 92, 93, 94, 95, 96, 97, 98, 99, 100, 101, 102, 103, 104, 105, 106, 107, 108, 109, 110, 111, 112, 113, 114, 115, 116, 117, 118, 119, 120, 121, 122, 123, 124, 125, 126, 127, 128, 129, 130, 131, 132, 133, 134, 135, 136, 137, 138, 139] (by repeat (first | apply Off.upd rfl | apply Off.havoc rfl | refine Off.updL (t' := havoc _ _ _) rfl ?_ | exact Off.refl)) [(22, Value.pointer _), (82, Value.int _ _), (88, Value.slice _ _ _), (89, Value.int _ _), (90, Value.int _ _)] (by repeat' (first | exact trivial | refine And.intro rfl ?_)) fun tq2 => ?_
   obtain ⟨R5, hR5e⟩ : ∃ R5, R5 = (⟨some ⟨b88, 0, none⟩, 2, [w.arr, raw]⟩ : Arr (Arr XWatch)).sl 1 (fun x => [x.val]) [] :: R4 := ⟨_, rfl⟩
   have hR5 : ∀ r ∈ R4, InR r R5 := fun r hr => inR_self (by rw [hR5e]; exact .tail _ hr)
   have hA2R : InR ((⟨some ⟨b88, 0, none⟩, 2, [w.arr, raw]⟩ : Arr (Arr XWatch)).sl 1 (fun x => [x.val]) []) R5 := inR_self (by rw [hR5e]; exact .head _)
   refine CJ_R (show _ = R5 by rw [hR5e]; rfl) ?_
   refine CJ_loop [10, 24, 26, 27, 28, 29, 30, 31, 32, 90, 91, 92, 93, 94, 95, 96, 97, 98, 99, 100, 101, 102, 103, 104, 105, 106, 107, 108, 109, 110, 111, 112, 113, 114, 115, 116, 117, 118, 119, 120, 121, 122, 123, 124, 125, 126, 127, 128, 129, 130, 131, 132, 133, 134, 135, 136, 137, 138] ((⟨fun g => [(90, .int .i64 ((g.1 : Nat) : Int))], fun _ => ⟨b22, x1.cells, 36⟩ :: ⟨b12, s.cells, 36⟩ :: cblk c (codes300 y) k4 :: [], fun _ => R5, fun g => 2 - g.1⟩ : Head {g : Nat // g ≤ 2})) (⟨0, by omega⟩) (by repeat' (first | exact trivial | refine And.intro rfl ?_)) (List.Sublist.refl _) (allR_self _) ?_
   rintro ⟨i2, hi2⟩ junk
   try dsimp only
   refine qae ?_
   refine qaj ?_
   refine qa4 ?_
   refine q_c (fun hc3 => ?_) (fun hc3 => ?_)
   ·
    obtain ⟨x2, hv2, hv2'⟩ := two_get (a := w.arr) (b := raw) (i := i2) (by omega)
    have hx2R : InR (wasl x2) R5 := by rcases hv2' with rfl | rfl; exact (hwR3.mono hR4).mono hR5; exact (hraw3.mono hR4).mono hR5
    refine qbb ?_
    refine LJ_q (by first | exact yv_index_ro tb rfl rfl rfl rfl (by first | assumption | exact zr (by simp)) (i := i2) (by first | rfl | omega | (simp; omega)) (by omega) | exact yv_index tb rfl rfl rfl rfl (i := i2) (by first | rfl | omega | (simp; omega)) (by omega)) rfl ?_
    refine qa7 ?_
    refine qc4 ?_
    refine qam ?_
    refine qaa ?_
    refine qaa ?_
    refine LJ_g (gives_buildSlice (qs := [(0, (Value.int _ _).cells.toList), (1, (Value.int _ _).cells.toList)]) (out := [_, _]) tb rfl rfl rfl rfl rfl rfl rfl) rfl ?_
    rintro v L' R' ⟨b96, rfl, rfl, hR96⟩
    replace hR96 := hR96.symm; subst hR96
    refine LJ_frz (wd := 1) (len := 2) (cap := 2) (rows := [icell md, icell tm]) (subs := []) rfl (by decide) (by decide) (fun r hr => by simp only [List.mem_cons, List.not_mem_nil, or_false] at hr; rcases hr with rfl | rfl <;> rfl) (by decide) rfl (fun s hs => by cases hs) ?_
    refine qag ?_
    refine qaa ?_
    refine qa2 ?_
    refine CJ_forgetW [10, 24, 26, 27, 28, 29, 30, 31, 32, 90, 91, 92, 93, 94, 95, 96, 97, 98, 99, 100, 101, 102, 103, 104, 105, 106, 107, 108, 109, 110, 111, 112, 113, 114, 115, 116, 117, 118, 119, 120, 121, 122, 123, 124, 125, 126, 127, 128, 129, 130, 131, 132, 133, 134, 135, 136, 137, 138] (by repeat (first | apply Off.upd rfl | apply Off.havoc rfl | refine Off.updL (t' := havoc _ _ _) rfl ?_ | exact Off.refl)) [(24, Value.slice _ _ _), (90, Value.int _ _), (96, Value.slice _ _ _), (97, Value.int _ _), (98, Value.int _ _)] (by repeat' (first | exact trivial | refine And.intro rfl ?_)) fun tq3 => ?_
    obtain ⟨R6, hR6e⟩ : ∃ R6, R6 = isl ⟨some ⟨b96, 0, none⟩, 2, [md, tm]⟩ :: R5 := ⟨_, rfl⟩
    have hR6 : ∀ r ∈ R5, InR r R6 := fun r hr => inR_self (by rw [hR6e]; exact .tail _ hr)
    have hA3R : InR (isl ⟨some ⟨b96, 0, none⟩, 2, [md, tm]⟩) R6 := inR_self (by rw [hR6e]; exact .head _)
    have up6 : ∀ r ∈ R', InR r R6 := fun r hr => ((hR4 r hr).mono hR5).mono hR6
    have hVA : ValsA x1 m.arr x2 l.arr R6 := ⟨(hx1R.mono hR5).mono hR6, hmR3.mono up6, hx2R.mono hR6, hlR3.mono up6, hm.ok⟩
    refine CJ_R (show _ = R6 by rw [hR6e]; rfl) ?_
    refine CJ_loop [10, 26, 27, 28, 29, 30, 31, 32, 98, 99, 100, 101, 102, 103, 104, 105, 106, 107, 108, 109, 110, 111, 112, 113, 114, 115, 116, 117, 118, 119, 120, 121, 122, 123, 124, 125, 126, 127, 128, 129, 130, 131, 132, 133, 134, 135, 136, 137] ((⟨fun g => [(98, .int .i64 ((g.1 : Nat) : Int))], fun _ => ⟨b22, x1.cells, 36⟩ :: ⟨b12, s.cells, 36⟩ :: cblk c (codes300 y) k4 :: [], fun _ => R6, fun g => 2 - g.1⟩ : Head {g : Nat // g ≤ 2})) (⟨0, by omega⟩) (by repeat' (first | exact trivial | refine And.intro rfl ?_)) (List.Sublist.refl _) (allR_self _) ?_
    rintro ⟨i3, hi3⟩ junk
    try dsimp only
    refine qae ?_
    refine qaj ?_
    refine qa4 ?_
    refine q_c (fun hc4 => ?_) (fun hc4 => ?_)
    ·
     obtain ⟨x3, hv3, hv3'⟩ := two_get (a := md) (b := tm) (i := i3) (by omega)
     refine qbb ?_
     refine LJ_q (by first | exact yv_index_ro tb rfl rfl rfl rfl (by first | assumption | exact zr (by simp)) (i := i3) (by first | rfl | omega | (simp; omega)) (by omega) | exact yv_index tb rfl rfl rfl rfl (i := i3) (by first | rfl | omega | (simp; omega)) (by omega)) rfl ?_
     refine qa7 ?_
     refine qad ?_
     refine qam ?_
     refine yckad ?_
     iterate 3 refine qbm ?_
     refine qaa ?_
     refine LJ_call rfl (values_tri x1 m.arr x2 l.arr x3 _ _ hVA) rfl ?_
     rintro v L' R' ⟨w1, n1, rfl, ⟨hw1k, hn1k⟩, hw1l, hn1l, rfl, rfl⟩
     refine LJ_q (yv_move rfl) rfl ?_
     iterate 3 refine qbs ?_
     refine qc4 ?_
     refine qc4 ?_
     refine qad ?_
     refine qam ?_
     refine yckad ?_
     iterate 3 refine qbm ?_
     refine qaa ?_
     refine LJ_call rfl (refValues_tri x1 m.arr x2 l.arr x3 _ _ hVA) rfl ?_
     rintro v L' R' ⟨w2, n2, rfl, ⟨hw2k, hn2k⟩, hw2l, hn2l, rfl, rfl⟩
     refine LJ_q (yv_move rfl) rfl ?_
     iterate 3 refine qbs ?_
     refine qc4 ?_
     refine qc4 ?_
     refine qad ?_
     refine qam ?_
     refine qaa ?_
     refine qaa ?_
     refine qbq ?_
     refine qah ?_
     apply LJ_or (G := [_, _, _, _]) (j := 3) (cj := 125) rfl rfl (by rfl) rfl (show _ = Value.bool _ from rfl) rfl
     ·
      intro hg4
      replace hg4 := qb hg4
      refine qbm ?_
      refine qbm ?_
      refine q_l rfl (ints_own (by repeat (first | exact inB_here | apply inB_cons | apply inB_app)) (by repeat (first | exact inB_here | apply inB_cons | apply inB_app)) hw1k hw2k (hw1l.trans hw2l.symm)) ?_
      refine qb4 ?_
      exact qai
     intro junk4
     refine qah ?_
     apply LJ_or (G := [_, _, _, _]) (j := 9) (cj := 131) rfl rfl (by rfl) rfl (show _ = Value.bool _ from rfl) rfl
     ·
      intro hg10
      replace hg10 := qb hg10
      refine qbm ?_
      refine qbm ?_
      refine q_l rfl (sameWatches_own (by repeat (first | exact inB_here | apply inB_cons | apply inB_app)) (by repeat (first | exact inB_here | apply inB_cons | apply inB_app)) hn1k hn2k (hn1l.trans hn2l.symm)) ?_
      refine qb4 ?_
      exact qai
     intro junk10
     refine qaf ?_
     refine q_c (fun hc5 => ?_) (fun hc5 => ?_)
     ·
      (exfalso; simp at hc5)
     refine qbj ?_
     refine qar ?_
     refine qaa ?_
     refine qav ?_
     exact q_k ⟨i3 + 1, by omega⟩
    refine CJ_exit (seqK_exit (loopK_exit (blockK_exit (blockK_normal (seqK_normal (CJ_region ?_))))))
    refine qar ?_
    refine qaa ?_
    refine qav ?_
    exact loopK_mk ⟨i2 + 1, by omega⟩ (by repeat (first | exact Off.refl | apply Off.upd rfl | apply Off.havoc rfl | apply Off.updL rfl | apply Off.left rfl)) (by repeat' (first | exact trivial | refine And.intro rfl ?_)) (by repeat (first | exact zs0 _ | exact zs1 _ | apply zs2 | apply zs3 | apply zs4 | apply zs5)) hR6 (by dsimp only; omega)
   refine CJ_exit (seqK_exit (loopK_exit (blockK_exit (blockK_normal (seqK_normal (CJ_region ?_))))))
   refine qar ?_
   refine qaa ?_
   refine qav ?_
   exact loopK_mk ⟨i1 + 1, by omega⟩ (by repeat (first | exact Off.refl | apply Off.upd rfl | apply Off.havoc rfl | apply Off.updL rfl | apply Off.left rfl)) (by repeat' (first | exact trivial | refine And.intro rfl ?_)) (by repeat (first | exact zs0 _ | exact zs1 _ | apply zs2 | apply zs3 | apply zs4 | apply zs5)) hR5 (by dsimp only; omega)
  refine qc3 ?_
  have hmR4 := hmR3.mono hR4
  have hs4 := hs3.mono hR4
  have hml : m.arr.l.drop 1 = m.l.drop 1 := rfl
  have hdl : (m.arr.l.drop 1).length = m.l.length - 1 := List.length_drop
  have he11 : valuesErr s (m.arr.l.drop 1) w.l l.l md = 11 := by
    rw [valuesErr, hD.ok.err, if_neg (by decide), if_pos (by rintro ⟨h1, _⟩; rw [hdl] at h1; have h2 : m.l.length = s.sensors.l.length := hmn; omega)]
  refine CJ_dropA (y := m.arr) (wd := 4) (f := XMeas.cells) hmR4 (by omega) (by decide) ?_
  refine CJ_drawn tb [0, 1, 2, 3, 4, 5, 6, 7, 8, 9, 10, 11, 12, 13] ([Blk.mk b12 _ _]) mixed (by kernel_rfl) (by repeat (first | exact zs0 _ | exact zs1 _ | apply zs2 | apply zs3 | apply zs4 | apply zs5)) ?_
  refine yckaa ?_
  refine yckac ?_
  refine DJ_q (yv_slice_1 tb rfl rfl rfl rfl (show 1 ≤ m.l.length by have h2 : m.l.length = s.sensors.l.length := hmn; omega)) rfl rfl rfl ?_
  refine yckac ?_
  refine yckac ?_
  refine qao ?_
  refine DJ_call rfl (Tri.cast (values_tri s (dropA m.arr 4) w.arr l.arr md _ _ ⟨hs4.mono fun r h => inR_self (.tail _ h), inR_self (.head _), (hwR3.mono hR4).mono fun r h => inR_self (.tail _ h), (hlR3.mono hR4).mono fun r h => inR_self (.tail _ h), fun x hx => hm.ok x (List.mem_of_mem_drop hx)⟩) (by simp only [dropA, Arr.val, List.length_drop]; rfl)) rfl rfl ?_
  rintro v L' R' ⟨p5, q5, rfl, _, _, _, rfl, rfl⟩
  refine qas ?_
  dsimp only [OwL.arr]
  rw [he11]
  refine DJ_q (yv_move rfl) rfl rfl rfl ?_
  iterate 3 refine DJ_q (yv_extract rfl rfl) rfl rfl rfl ?_
  refine yckab ?_
  refine yckab ?_
  refine qcg ?_
  refine DJ_nil (seqK_normal (CJ_seq (CJ_region ?_)))
  refine qaa ?_
  refine qbn ?_
  refine qah ?_
  apply LJ_and (G := [_]) (j := 2) (cj := 153) rfl rfl (by rfl) rfl (show _ = Value.bool _ from rfl) rfl
  ·
   intro hg3
   replace hg3 := qb hg3
   refine q_l rfl (awake20_tri _ _) ?_
   exact qai
  intro junk3
  refine qaz ?_
  refine qa0 ?_
  refine retK_ret (L' := []) (R' := R) (res1 rfl (rv_tmp (show _ = Value.bool _ from rfl))) ?hp ?hL ?hR
  case hp => exact ⟨rfl, rfl, rfl⟩
  case hL => exact List.nil_sublist _
  case hR => exact fun r hr => (((hRR r hr).mono hR2).mono hR3).mono fun r' h' => (hR4 r' h').mono fun r h => inR_self (.tail _ h)
end Go.Proofs.Ytkpfjmibipblhaa
end
section
/-
  Sites, watches, states of zones as arguments. By an AI agent; no person has read it.
-/
set_option linter.unusedSimpArgs false
set_option linter.unusedVariables false
namespace Go.Proofs.Ytkpfjmibipblhaa
open Go.Aw Go
set_option maxRecDepth 20000
attribute [local irreducible] CJ LJ DJ Tri YV Gives seqK blockK loopK retK RV mergeK OwL.L
theorem op_watch : Opens Try.prog 116 XWatch.cells (fun s => []) (fun _ => True) := by
  intro w cs h
  obtain ⟨hl, hf⟩ := rd_struct Try.underlying116 (m := 3) (by kernel_rfl) h
  obtain ⟨c0, c1, c2, rfl⟩ : ∃ c0 c1 c2, cs = [c0, c1, c2] := by match cs, hl with | [c0, c1, c2], _ => exact ⟨c0, c1, c2, rfl⟩
  obtain ⟨a0, e0, k0, r0⟩ := op_bool w [c0] (hf 0 _ 1 rfl (by kernel_rfl))
  obtain ⟨a1, e1, k1, r1⟩ := op_int w [c1] (hf 1 _ 1 rfl (by kernel_rfl))
  obtain ⟨a2, e2, k2, r2⟩ := op_int w [c2] (hf 2 _ 1 rfl (by kernel_rfl))
  cases e0; cases e1; cases e2
  refine ⟨⟨a0, a1, a2⟩, rfl, trivial, ?_⟩
  simp only [List.mem_cons, List.not_mem_nil, or_false, forall_eq_or_imp, forall_eq, List.forall_mem_nil] at r0 r1 r2 ⊢
  simp
theorem op_watches : Opens Try.prog 51 (fun x : Arr XWatch => [x.val]) (fun x => [wasl x]) (fun _ => True) :=
  (opens_slice (wd := 3) Try.underlying51 (by kernel_rfl) (by decide) (fun _ => rfl) op_watch).conv (fun x => by rw [flat_none]) (fun _ _ => trivial)
theorem op_sensor : Opens Try.prog 128 XSens.cells (fun s => []) (fun _ => True) := by
  intro w cs h
  obtain ⟨hl, hf⟩ := rd_struct Try.underlying128 (m := 8) (by kernel_rfl) h
  obtain ⟨c0, c1, c2, c3, c4, c5, c6, c7, rfl⟩ : ∃ c0 c1 c2 c3 c4 c5 c6 c7, cs = [c0, c1, c2, c3, c4, c5, c6, c7] := by match cs, hl with | [c0, c1, c2, c3, c4, c5, c6, c7], _ => exact ⟨c0, c1, c2, c3, c4, c5, c6, c7, rfl⟩
  obtain ⟨a0, e0, k0, r0⟩ := op_int w [c0] (hf 0 _ 1 rfl (by kernel_rfl))
  obtain ⟨a1, e1, k1, r1⟩ := op_int w [c1] (hf 1 _ 1 rfl (by kernel_rfl))
  obtain ⟨a2, e2, k2, r2⟩ := op_int w [c2] (hf 2 _ 1 rfl (by kernel_rfl))
  obtain ⟨a3, e3, k3, r3⟩ := op_int w [c3] (hf 3 _ 1 rfl (by kernel_rfl))
  obtain ⟨a4, e4, k4, r4⟩ := op_int w [c4] (hf 4 _ 1 rfl (by kernel_rfl))
  obtain ⟨a5, e5, k5, r5⟩ := op_int w [c5] (hf 5 _ 1 rfl (by kernel_rfl))
  obtain ⟨a6, e6, k6, r6⟩ := op_int w [c6] (hf 6 _ 1 rfl (by kernel_rfl))
  obtain ⟨a7, e7, k7, r7⟩ := op_int w [c7] (hf 7 _ 1 rfl (by kernel_rfl))
  cases e0; cases e1; cases e2; cases e3; cases e4; cases e5; cases e6; cases e7
  refine ⟨⟨a0, a1, a2, a3, a4, a5, a6, a7⟩, rfl, trivial, ?_⟩
  simp only [List.mem_cons, List.not_mem_nil, or_false, forall_eq_or_imp, forall_eq, List.forall_mem_nil] at r0 r1 r2 r3 r4 r5 r6 r7 ⊢
  simp
theorem op_sensors : Opens Try.prog 31 (fun x : Arr XSens => [x.val]) (fun x => [sesl x]) (fun _ => True) :=
  (opens_slice (wd := 8) Try.underlying31 (by kernel_rfl) (by decide) (fun _ => rfl) op_sensor).conv (fun x => by rw [flat_none]) (fun _ _ => trivial)
theorem op_level : Opens Try.prog 131 XLevel.cells (fun s => []) (fun _ => True) := by
  intro w cs h
  obtain ⟨hl, hf⟩ := rd_struct Try.underlying131 (m := 3) (by kernel_rfl) h
  obtain ⟨c0, c1, c2, rfl⟩ : ∃ c0 c1 c2, cs = [c0, c1, c2] := by match cs, hl with | [c0, c1, c2], _ => exact ⟨c0, c1, c2, rfl⟩
  obtain ⟨a0, e0, k0, r0⟩ := op_int w [c0] (hf 0 _ 1 rfl (by kernel_rfl))
  obtain ⟨a1, e1, k1, r1⟩ := op_int w [c1] (hf 1 _ 1 rfl (by kernel_rfl))
  obtain ⟨a2, e2, k2, r2⟩ := op_int w [c2] (hf 2 _ 1 rfl (by kernel_rfl))
  cases e0; cases e1; cases e2
  refine ⟨⟨a0, a1, a2⟩, rfl, trivial, ?_⟩
  simp only [List.mem_cons, List.not_mem_nil, or_false, forall_eq_or_imp, forall_eq, List.forall_mem_nil] at r0 r1 r2 ⊢
  simp
theorem op_cond : Opens Try.prog 133 XCond.cells (fun s => []) (fun _ => True) := by
  intro w cs h
  obtain ⟨hl, hf⟩ := rd_struct Try.underlying133 (m := 6) (by kernel_rfl) h
  obtain ⟨c0, c1, c2, c3, c4, c5, rfl⟩ : ∃ c0 c1 c2 c3 c4 c5, cs = [c0, c1, c2, c3, c4, c5] := by match cs, hl with | [c0, c1, c2, c3, c4, c5], _ => exact ⟨c0, c1, c2, c3, c4, c5, rfl⟩
  obtain ⟨a0, e0, k0, r0⟩ := op_int w [c0] (hf 0 _ 1 rfl (by kernel_rfl))
  obtain ⟨a1, e1, k1, r1⟩ := op_int w [c1] (hf 1 _ 1 rfl (by kernel_rfl))
  obtain ⟨a2, e2, k2, r2⟩ := op_int w [c2] (hf 2 _ 1 rfl (by kernel_rfl))
  obtain ⟨a3, e3, k3, r3⟩ := op_level w [c3, c4, c5] (hf 3 _ 3 rfl (by kernel_rfl))
  cases e0; cases e1; cases e2; cases e3
  refine ⟨⟨a0, a1, a2, a3⟩, rfl, trivial, ?_⟩
  simp only [List.mem_cons, List.not_mem_nil, or_false, forall_eq_or_imp, forall_eq, List.forall_mem_nil] at r0 r1 r2 r3 ⊢
  simp
theorem op_conds : Opens Try.prog 32 (fun x : Arr XCond => [x.val]) (fun x => [cnsl x]) (fun _ => True) :=
  (opens_slice (wd := 6) Try.underlying32 (by kernel_rfl) (by decide) (fun _ => rfl) op_cond).conv (fun x => by rw [flat_none]) (fun _ _ => trivial)
theorem op_node : Opens Try.prog 161 XNode.cells (fun s => []) (fun _ => True) := by
  intro w cs h
  obtain ⟨hl, hf⟩ := rd_struct Try.underlying161 (m := 4) (by kernel_rfl) h
  obtain ⟨c0, c1, c2, c3, rfl⟩ : ∃ c0 c1 c2 c3, cs = [c0, c1, c2, c3] := by match cs, hl with | [c0, c1, c2, c3], _ => exact ⟨c0, c1, c2, c3, rfl⟩
  obtain ⟨a0, e0, k0, r0⟩ := op_int w [c0] (hf 0 _ 1 rfl (by kernel_rfl))
  obtain ⟨a1, e1, k1, r1⟩ := op_int w [c1] (hf 1 _ 1 rfl (by kernel_rfl))
  obtain ⟨a2, e2, k2, r2⟩ := op_int w [c2] (hf 2 _ 1 rfl (by kernel_rfl))
  obtain ⟨a3, e3, k3, r3⟩ := op_int w [c3] (hf 3 _ 1 rfl (by kernel_rfl))
  cases e0; cases e1; cases e2; cases e3
  refine ⟨⟨a0, a1, a2, a3⟩, rfl, trivial, ?_⟩
  simp only [List.mem_cons, List.not_mem_nil, or_false, forall_eq_or_imp, forall_eq, List.forall_mem_nil] at r0 r1 r2 r3 ⊢
  simp
theorem op_nodes : Opens Try.prog 107 (fun x : Arr XNode => [x.val]) (fun x => [ndsl x]) (fun _ => True) :=
  (opens_slice (wd := 4) Try.underlying107 (by kernel_rfl) (by decide) (fun _ => rfl) op_node).conv (fun x => by rw [flat_none]) (fun _ _ => trivial)
theorem op_zone : Opens Try.prog 109 XZone.cells (fun s => [ndsl s.rule, isl s.roads]) (fun _ => True) := by
  intro w cs h
  obtain ⟨hl, hf⟩ := rd_struct Try.underlying109 (m := 4) (by kernel_rfl) h
  obtain ⟨c0, c1, c2, c3, rfl⟩ : ∃ c0 c1 c2 c3, cs = [c0, c1, c2, c3] := by match cs, hl with | [c0, c1, c2, c3], _ => exact ⟨c0, c1, c2, c3, rfl⟩
  obtain ⟨a0, e0, k0, r0⟩ := op_nodes w [c0] (hf 0 _ 1 rfl (by kernel_rfl))
  obtain ⟨a1, e1, k1, r1⟩ := op_int w [c1] (hf 1 _ 1 rfl (by kernel_rfl))
  obtain ⟨a2, e2, k2, r2⟩ := op_ints w [c2] (hf 2 _ 1 rfl (by kernel_rfl))
  obtain ⟨a3, e3, k3, r3⟩ := op_int w [c3] (hf 3 _ 1 rfl (by kernel_rfl))
  cases e0; cases e1; cases e2; cases e3
  refine ⟨⟨a0, a1, a2, a3⟩, rfl, trivial, ?_⟩
  simp only [List.mem_cons, List.not_mem_nil, or_false, forall_eq_or_imp, forall_eq, List.forall_mem_nil] at r0 r1 r2 r3 ⊢
  simp_all
theorem op_zones : Opens Try.prog 33 (fun x : Arr XZone => [x.val]) (fun x => [zosl x]) (fun _ => True) :=
  (opens_slice (wd := 4) Try.underlying33 (by kernel_rfl) (by decide) (fun _ => rfl) op_zone).conv (fun x => rfl) (fun _ _ => trivial)
theorem op_person : Opens Try.prog 87 (fun n : Int => [.int .i64 n]) (fun s => []) (fun _ => True) := by
  intro w cs h
  obtain ⟨hl, hf⟩ := rd_struct Try.underlying87 (m := 1) (by kernel_rfl) h
  obtain ⟨c0, rfl⟩ : ∃ c0, cs = [c0] := by match cs, hl with | [c0], _ => exact ⟨c0, rfl⟩
  obtain ⟨a0, e0, k0, r0⟩ := op_int w [c0] (hf 0 _ 1 rfl (by kernel_rfl))
  cases e0
  refine ⟨a0, rfl, trivial, ?_⟩
  simp only [List.mem_cons, List.not_mem_nil, or_false, forall_eq_or_imp, forall_eq, List.forall_mem_nil] at r0 ⊢
  simp
theorem op_persons : Opens Try.prog 34 (fun x : Arr Int => [x.val]) (fun x => [isl x]) (fun _ => True) :=
  (opens_slice (wd := 1) Try.underlying34 (by kernel_rfl) (by decide) (fun _ => rfl) op_person).conv (fun x => by rw [flat_none]; rfl) (fun _ _ => trivial)
theorem op_site : Opens Try.prog 36 XSite.cells (fun s => [psl s.air.mine.places, rsl s.air.mine.roads, fsl s.air.fans, dsl s.air.doors, sesl s.sensors, cnsl s.conds, zosl s.zones, isl s.persons]) (fun _ => True) := by
  intro w cs h
  obtain ⟨hl, hf⟩ := rd_struct Try.underlying36 (m := 8) (by kernel_rfl) h
  obtain ⟨c0, c1, c2, c3, c4, c5, c6, c7, rfl⟩ : ∃ c0 c1 c2 c3 c4 c5 c6 c7, cs = [c0, c1, c2, c3, c4, c5, c6, c7] := by match cs, hl with | [c0, c1, c2, c3, c4, c5, c6, c7], _ => exact ⟨c0, c1, c2, c3, c4, c5, c6, c7, rfl⟩
  obtain ⟨a0, e0, k0, r0⟩ := op_air w [c0, c1, c2, c3] (hf 0 _ 4 rfl (by kernel_rfl))
  obtain ⟨a1, e1, k1, r1⟩ := op_sensors w [c4] (hf 1 _ 1 rfl (by kernel_rfl))
  obtain ⟨a2, e2, k2, r2⟩ := op_conds w [c5] (hf 2 _ 1 rfl (by kernel_rfl))
  obtain ⟨a3, e3, k3, r3⟩ := op_zones w [c6] (hf 3 _ 1 rfl (by kernel_rfl))
  obtain ⟨a4, e4, k4, r4⟩ := op_persons w [c7] (hf 4 _ 1 rfl (by kernel_rfl))
  cases e0; cases e1; cases e2; cases e3; cases e4
  refine ⟨⟨a0, a1, a2, a3, a4⟩, rfl, trivial, ?_⟩
  simp only [List.mem_cons, List.not_mem_nil, or_false, forall_eq_or_imp, forall_eq, List.forall_mem_nil] at r0 r1 r2 r3 r4 ⊢
  simp_all
end Go.Proofs.Ytkpfjmibipblhaa
end
