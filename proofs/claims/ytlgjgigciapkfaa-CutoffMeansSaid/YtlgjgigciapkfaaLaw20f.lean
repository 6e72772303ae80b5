/-
  Statements about chapter 20: what conditions mean. By an AI agent; no person has read it.
-/
import Derived.Test.YtlgjgigciapkfaaMeansP
import Derived.Test.YtlgjgigciapkfaaOneR
set_option linter.unusedSimpArgs false
set_option linter.unusedVariables false
namespace Go.Proofs.Ytlgjgigciapkfaa
open Go.Aw Go
set_option maxRecDepth 20000
attribute [local irreducible] CJ LJ DJ Tri YV Gives seqK blockK loopK retK RV mergeK OwL.L
section
variable {A9 B9 : Prop}
theorem ycgaa (a : A9) (h : A9 → B9 := by exact DJ_q (yv_move (show _ = Value.slice _ _ _ from rfl)) rfl rfl rfl) : B9 := h a
theorem ycgab (a : A9) (h : A9 → B9 := by exact DJ_q (by first | exact yv_index_ro tb rfl rfl rfl rfl (by first | assumption | exact zr (by simp)) (i := cd.target.toNat) (by first | rfl | omega | (simp; omega)) (by omega) | exact yv_index tb rfl rfl rfl rfl (i := cd.target.toNat) (by first | rfl | omega | (simp; omega)) (by omega)) rfl rfl rfl) : B9 := h a
theorem ycgac (a : A9) (h : A9 → B9 := by exact LJ_q (by first | exact yv_pick_true rfl rfl | exact yv_pick_false rfl rfl | exact yv_pick rfl) rfl) : B9 := h a
theorem ycgad (a : A9) (h : A9 → B9 := by exact LJ_qg (by first | exact yv_pick_true rfl rfl | exact yv_pick_false rfl rfl | exact yv_pick rfl) rfl rfl) : B9 := h a
theorem ycgae (a : A9) (h : A9 → B9 := by exact DJ_q (by first | exact yv_index_ro tb rfl rfl rfl rfl (by first | assumption | exact zr (by simp)) (i := e) (by first | rfl | omega | (simp; omega)) (by omega) | exact yv_index tb rfl rfl rfl rfl (i := e) (by first | rfl | omega | (simp; omega)) (by omega)) rfl rfl rfl) : B9 := h a
theorem ycgaf (a : A9) (h : A9 → B9 := by exact LJ_qg (yv_move (show _ = Value.slice _ _ _ from rfl)) rfl rfl) : B9 := h a
theorem ycgag (a : A9) (h : A9 → B9 := by exact LJ_qg (by first | exact yv_index_ro tb rfl rfl rfl rfl (by first | assumption | exact zr (by simp)) (i := e) (by first | rfl | omega | (simp; omega)) (by omega) | exact yv_index tb rfl rfl rfl rfl (i := e) (by first | rfl | omega | (simp; omega)) (by omega)) rfl rfl) : B9 := h a
theorem ycgah (a : A9) (h : A9 → B9 := by exact LJ_qg (by first | exact yv_load1_ro tb rfl rfl rfl (by first | assumption | exact zr (by simp)) (by assumption) (by rfl) | exact yv_load1 tb rfl rfl rfl (by repeat (first | exact zi0 | apply zi1 | apply zi2)) (by rfl) | exact yv_load1 tb rfl rfl rfl (by repeat (first | exact zi0 | apply zi1 | apply zi2)) (icell_get (by assumption)) | exact yv_load1 tb rfl rfl rfl (by repeat (first | exact zi0 | apply zi1 | apply zi2)) (rcell_get (fun _ => rfl) (by assumption) rfl)) rfl rfl) : B9 := h a
theorem ycgai (a : A9) (h : A9 → B9 := by exact DJ_q (yv_index_ow tb ((⟨.own b46 s.sensors.l.length [], tr3⟩ : OwL Int)) _ rfl rfl ((show _ = Value.slice _ _ _ from rfl).trans (own_val htr3)) rfl (by assumption) (i := i) (by first | rfl | omega | (simp; omega)) (by first | omega | (dsimp only; omega) | (dsimp only; rw [List.length_set]; omega) | (dsimp only; simp only [List.length_set]; omega))) rfl rfl rfl) : B9 := h a
theorem ycgaj (a : A9) (h : A9 → B9 := by exact DJ_q (yv_load1_ow tb ((⟨.own b46 s.sensors.l.length [], tr3⟩ : OwL Int)) rfl rfl rfl (by repeat (first | apply OSeg.cons | exact OSeg.here | exact OSeg.last | exact OSeg.at (by assumption) | apply OSeg.app)) (by assumption) (fun _ => rfl) (by assumption) (by rfl)) rfl rfl rfl) : B9 := h a
theorem ycgak (a : A9) (h : A9 → B9 := by exact DJ_q (yv_loadN (row := [_, _, _, _, _, _, _, _]) tb rfl rfl rfl (by repeat (first | exact zi0 | apply zi1 | apply zi2)) (by rfl) (by rfl)) rfl rfl rfl) : B9 := h a
end
set_option maxHeartbeats 4000000 in
theorem cutoffMeans_law (y : Arr Int) (R : List Sl) (hy : CodesR y R) :
    Tri Try.prog 8 [y.val].toArray [] R (fun v L' R' => v = .bool true ∧ [] = L' ∧ R = R') := by
  refine tri_enter 244 Try.call8 Try.func8 rfl rfl rfl ?_
  refine qae ?_
  refine qaz ?_
  refine qam ?_
  refine qbm ?_
  refine LJ_call rfl (new_tri y _ _ hy) rfl ?_
  rintro v L' R' ⟨c, rfl, hx, rfl, rfl⟩
  refine qc1 ?_
  refine qam ?_
  refine qa6 ?_
  refine LJ_call rfl (drawSite_tri c (codes300 y) 0 _ hx (Nat.zero_le _)) rfl ?_
  rintro v L' R' ⟨s, u, z, k1, rfl, hD, hk1, ⟨hs, hu, hz, hR0⟩, rfl⟩
  refine LJ_q (yv_move rfl) rfl ?_
  iterate 3 refine qbs ?_
  refine qaq ?_
  intro b4
  refine qaq ?_
  intro b5
  refine qaq ?_
  intro b6
  iterate 3 refine qak ?_
  refine qco ?_
  have hRR : ∀ r ∈ R, InR r R' := fun r hr => hR0 r (.tail _ hr)
  have hx1 := hx.mono hR0
  have hF := hD.air.flows
  have hfn := hF.flen
  have hn0 := hD.nsens
  have hn1 := hD.ncond
  have hn3 := hD.air.nroads
  obtain ⟨A, hAA⟩ := airy_ex s.air.mine
  refine qay ?_
  refine qab ?_
  refine qa8 ?_
  refine qbe ?_
  refine qbe ?_
  refine q_l rfl (ref09Fits_tri s.air u z _ _ hs.air hu hz) ?_
  refine qbq ?_
  refine qaf ?_
  refine q_c (fun hc0 => ?_) (fun hc0 => ?_)
  ·
   exact absurd hD.air.fits hc0
  refine qbv ?_
  refine qab ?_
  refine qa8 ?_
  refine qbe ?_
  refine LJ_call rfl (refAnalyse_tri s.air u A _ _ hs.air hu (fun _ => hAA)) rfl ?_
  rintro v L' R' ⟨l, rfl, hlk, hll, rfl, rfl⟩
  have han := (ana_ok hD.air.err hD.air.fit hAA).1
  have hln : l.l.length = s.air.mine.roads.l.length := by rw [hll]; exact ana_len hD.air.err hD.air.fit hAA
  have hlh : Holds13 z.flows.l l.l := by rw [hll]; exact ana_holds hD.air.err hD.air.fit hAA hF
  rw [han]
  refine LJ_q (yv_move rfl) rfl ?_
  refine qbs ?_
  refine qbs ?_
  refine qc4 ?_
  refine qad ?_
  refine qaw ?_
  refine qaa ?_
  refine qbq ?_
  refine qaf ?_
  refine q_c (fun hc1 => ?_) (fun hc1 => ?_)
  ·
   (exfalso; first | exact hc1 rfl | (simp at hc1))
  refine qcl ?_
  refine CJ_frz1 (A := []) (wd := 2) [] (fun _ => rfl) (by decide) hlk (fun s hs => by cases hs) ?_
  refine CJ_L (by simp only [List.nil_append]; rfl) ?_
  obtain ⟨R2, hR2e⟩ : ∃ R2, R2 = spsl l.arr :: R' := ⟨_, rfl⟩
  have hR2 : ∀ r ∈ R', InR r R2 := fun r hr => inR_self (by rw [hR2e]; exact .tail _ hr)
  have hlR : InR (spsl l.arr) R2 := inR_self (by rw [hR2e]; exact .head _)
  have hs2 := hs.mono hR2
  have hx2 := hx1.mono hR2
  have hsR := hs2.sensors
  have hcR := hs2.conds
  have hzf := hz.flows.mono hR2
  refine CJ_R (show _ = R2 by rw [hR2e]) ?_
  refine CJ_weak (L' := (⟨b6, z.cells, 42⟩ :: ⟨b4, s.cells, 36⟩ :: cblk c (codes300 y) k1 :: [])) (R' := R2) (.cons_cons _ (.cons _ (List.Sublist.refl _))) (allR_self _) ?_
  refine qay ?_
  refine qab ?_
  refine qac ?_
  refine qag ?_
  refine qc7 ?_
  rintro v L' R' ⟨b46, rfl, rfl, hR46⟩
  replace hR46 := hR46.symm; subst hR46
  refine qc4 ?_
  refine qam ?_
  refine qc4 ?_
  refine qaw ?_
  refine qab ?_
  refine qac ?_
  refine qag ?_
  refine qaa ?_
  refine qa2 ?_
  refine CJ_forget [(3, Value.pointer _), (4, Value.pointer _), (6, Value.pointer _), (7, Value.slice _ _ _), (9, Value.slice _ _ _), (10, Value.slice _ _ _), (48, Value.slice _ _ _), (49, Value.int _ _), (50, Value.int _ _)] (by repeat' (first | exact trivial | refine And.intro rfl ?_)) fun tq0 => ?_
  refine CJ_loop [10, 11, 12, 13, 50, 51, 52, 53, 54, 55, 56, 57, 58, 59, 60, 61, 62, 63, 64, 65, 66, 67, 68, 69, 70, 71, 72, 73, 74, 75, 76, 77, 78, 79, 80, 81, 82, 83, 84, 85, 86, 87, 88, 89, 90, 91, 92, 93, 94, 95, 96, 97, 98, 99, 100, 101, 102, 103, 104, 105, 106, 107, 108, 109, 110, 111, 112, 113, 114, 115] ((⟨fun g => [(50, .int .i64 ((g.1.2.1 : Nat) : Int)), (10, g.1.2.2.2.val)], fun g => g.1.2.2.2.L 88 XMeas.cells ++ ((⟨.own b46 s.sensors.l.length [], g.1.2.2.1⟩ : OwL Int).L 3 icell ++ (⟨b6, z.cells, 42⟩ :: ⟨b4, s.cells, 36⟩ :: cblk c (codes300 y) g.1.1 :: [])), fun _ => R2, fun g => s.sensors.l.length - g.1.2.1⟩ : Head {g : Nat × Nat × List Int × OwL XMeas // g.1 ≤ (codes300 y).l.length ∧ g.2.1 ≤ s.sensors.l.length ∧ g.2.2.1.length = s.sensors.l.length ∧ g.2.2.2.ok 4 XMeas.cells ∧ TruTo s.sensors.l z.flows.l g.2.2.1 g.2.1 g.2.2.2.l})) (⟨(k1, 0, List.replicate s.sensors.l.length 0, OwL.nil), hk1, by dsimp only; omega, by dsimp only; simp, OwL.nil_ok, ⟨rfl, fun i hi => by dsimp only at hi; omega⟩⟩) (by repeat' (first | exact trivial | refine And.intro rfl ?_)) (by dsimp only; rw [nil_L, List.nil_append, ← made_ow (f := icell) (x := (0 : Int)) rfl]; exact List.Sublist.refl _) (allR_self _) ?_
  rintro ⟨⟨k2, i, tr, p⟩, hk2, hi, htr, hpk, hT⟩ junk
  try dsimp only
  dsimp only at hk2 hi htr hpk hT
  have hpn := hT.len
  have htk : (⟨.own b46 s.sensors.l.length [], tr⟩ : OwL Int).ok 1 icell := by have := made_ok (f := icell) (wd := 1) (b := b46) (n := s.sensors.l.length) (x := 0) icell_len (by simp only [maxLen]; omega); exact OwL.len_ok icell_len this (by simp; exact htr)
  refine qae ?_
  refine qaj ?_
  refine qa4 ?_
  refine q_c (fun hc2 => ?_) (fun hc2 => ?_)
  ·
   have hsg := get_D (l := s.sensors.l) (k := i) default (by omega)
   have htg := get_D (l := tr) (k := i) 0 (by omega)
   have hK := hD.sens i _ hsg
   obtain ⟨x, hxe⟩ : ∃ x, x = s.sensors.l.getD i default := ⟨_, rfl⟩
   have hTn := fun (tr' : List Int) (m : XMeas) (q : Int) => hT.next (tr' := tr') (m := m) (q := q)
   rw [← hxe] at hsg hK hTn
   have hKk := hK.kind
   have hKt := hK.target
   refine qbb ?_
   refine qaa ?_
   refine LJ_q (by first | exact yv_index_ro tb rfl rfl rfl rfl (by first | assumption | exact zr (by simp)) (i := i) (by first | rfl | omega | (simp; omega)) (by omega) | exact yv_index tb rfl rfl rfl rfl (i := i) (by first | rfl | omega | (simp; omega)) (by omega)) rfl ?_
   refine LJ_q (by first | exact yv_loadN_ro (row := [_, _, _, _, _, _, _, _]) tb rfl rfl rfl (by first | assumption | exact zr (by simp)) (by assumption) (by rfl) (by rfl) | exact yv_loadN (row := [_, _, _, _, _, _, _, _]) tb rfl rfl rfl (by repeat (first | exact zi0 | apply zi1 | apply zi2)) (by rfl) (by rfl)) rfl ?_
   refine qaq ?_
   intro b12
   refine qad ?_
   refine qak ?_
   refine qam ?_
   refine qbm ?_
   refine qaa ?_
   refine qa6 ?_
   refine LJ_call rfl (next1 (by repeat (first | apply USeg.here | apply USeg.cons | apply USeg.app)) hx2 hk2 (by omega)) rfl ?_
   rintro v L' R' ⟨r1, k3, rfl, g1, g1', g1'', hk3, rfl, rfl⟩
   have g1q := g1' (by omega)
   refine LJ_q (yv_index_ow tb ((⟨.own b46 s.sensors.l.length [], tr⟩ : OwL Int)) _ rfl rfl ((show _ = Value.slice _ _ _ from rfl).trans (own_val htr)) rfl (by assumption) (i := i) (by first | rfl | omega | (simp; omega)) (by first | omega | (dsimp only; omega) | (dsimp only; rw [List.length_set]; omega) | (dsimp only; simp only [List.length_set]; omega))) rfl ?_
   refine LJ_g0 (gives_store1_ow tb ((⟨.own b46 s.sensors.l.length [], tr⟩ : OwL Int)) (r1) rfl rfl rfl rfl (by repeat (first | apply OSeg.cons | exact OSeg.here | exact OSeg.last | exact OSeg.at (by assumption) | apply OSeg.app)) (by assumption) (fun _ => rfl) (by assumption) (by decide) (by rfl) (by rfl)) ?_
   rintro v L' R' ⟨rfl, rfl⟩
   refine qco ?_
   have htr1 : (tr.set i r1).length = s.sensors.l.length := by rw [List.length_set]; exact htr
   have htk1 : (⟨.own b46 s.sensors.l.length [], tr.set i r1⟩ : OwL Int).ok 1 icell := OwL.len_ok icell_len htk (by simp)
   have htg1 : (tr.set i r1)[i]? = some r1 := by rw [List.getElem?_set_self (by omega)]
   refine qay ?_
   refine qab ?_
   refine qac ?_
   refine qbn ?_
   refine qaf ?_
   refine CJ_joinS [63, 64, 65, 66, 67, 68, 69, 70, 71] ((⟨fun _ => [], fun g => ⟨b12, x.cells, 97⟩ :: (p.L 88 XMeas.cells ++ ((⟨.own b46 s.sensors.l.length [], g.1.1⟩ : OwL Int).L 3 icell ++ (⟨b6, z.cells, 42⟩ :: ⟨b4, s.cells, 36⟩ :: cblk c (codes300 y) k3 :: []))), fun _ => R2, fun _ => 0⟩ : Head {g : List Int × Int // g.1 = tr.set i g.2 ∧ TruQ z.flows.l x g.2 ∧ (x.kind ≠ 3 → g.2 < 120)})) ?_ ?_
   ·
    skip
    refine q_c (fun hc3 => ?_) (fun hc3 => ?_)
    ·
     have hfg := get_D (l := z.flows.l) (k := x.target.toNat) 0 (by have := hKt.2; rw [sensOf, if_neg (by omega), if_neg (by omega)] at this; omega)
     have hfb := hF.flow _ (List.mem_of_getElem? hfg)
     have htgt : 0 ≤ x.target ∧ x.target < z.flows.l.length := by have := hKt.2; rw [sensOf, if_neg (by omega), if_neg (by omega)] at this; omega
     refine qay ?_
     refine qbm ?_
     refine qaa ?_
     refine qab ?_
     refine qac ?_
     refine qab ?_
     refine qac ?_
     refine LJ_q (by first | exact yv_index_ro tb rfl rfl rfl rfl (by first | assumption | exact zr (by simp)) (i := x.target.toNat) (by first | rfl | omega | (simp; omega)) (by omega) | exact yv_index tb rfl rfl rfl rfl (i := x.target.toNat) (by first | rfl | omega | (simp; omega)) (by omega)) rfl ?_
     refine qa7 ?_
     refine LJ_q (yv_index_ow tb ((⟨.own b46 s.sensors.l.length [], tr.set i r1⟩ : OwL Int)) _ rfl rfl ((show _ = Value.slice _ _ _ from rfl).trans (own_val htr1)) rfl (by assumption) (i := i) (by first | rfl | omega | (simp; omega)) (by first | omega | (dsimp only; omega) | (dsimp only; rw [List.length_set]; omega) | (dsimp only; simp only [List.length_set]; omega))) rfl ?_
     refine LJ_g0 (gives_store1_ow tb ((⟨.own b46 s.sensors.l.length [], tr.set i r1⟩ : OwL Int)) (z.flows.l.getD x.target.toNat 0) rfl rfl rfl rfl (by repeat (first | apply OSeg.cons | exact OSeg.here | exact OSeg.last | exact OSeg.at (by assumption) | apply OSeg.app)) (by assumption) (fun _ => rfl) (by assumption) (by decide) (by rfl) (by rfl)) ?_
     rintro v L' R' ⟨rfl, rfl⟩
     refine qav ?_
     exact q_j ⟨((tr.set i r1).set i (z.flows.l.getD x.target.toNat 0), z.flows.l.getD x.target.toNat 0), by dsimp only; rw [List.set_set], ⟨by omega, fun h => absurd hc3 h, fun _ => rfl⟩, fun h => absurd hc3 h⟩
    refine CJ_skip ?_
    exact q_j ⟨(tr.set i r1, r1), rfl, ⟨by omega, fun _ => by omega, fun h => absurd h hc3⟩, fun _ => by dsimp only; omega⟩
   rintro ⟨⟨tr2, q2⟩, ht2, hq2, hq2'⟩ junk
   try dsimp only
   dsimp only at ht2 hq2 hq2'
   have htr2 : tr2.length = s.sensors.l.length := by rw [ht2, List.length_set]; exact htr
   have htk2 : (⟨.own b46 s.sensors.l.length [], tr2⟩ : OwL Int).ok 1 icell := OwL.len_ok icell_len htk (by rw [ht2]; simp)
   have htg2 : tr2[i]? = some q2 := by rw [ht2, List.getElem?_set_self (by omega)]
   refine qbi ?_
   refine qab ?_
   refine qac ?_
   refine q_l rfl (stately_tri _ _ _) ?_
   refine qaf ?_
   refine CJ_joinS [75, 76, 77, 78, 79] ((⟨fun _ => [], fun g => ⟨b12, x.cells, 97⟩ :: (p.L 88 XMeas.cells ++ ((⟨.own b46 s.sensors.l.length [], g.1.1⟩ : OwL Int).L 3 icell ++ (⟨b6, z.cells, 42⟩ :: ⟨b4, s.cells, 36⟩ :: cblk c (codes300 y) g.1.2.2 :: []))), fun _ => R2, fun _ => 0⟩ : Head {g : List Int × Int × Nat // g.1 = tr.set i g.2.1 ∧ TruQ z.flows.l x g.2.1 ∧ g.2.2 ≤ (codes300 y).l.length})) ?_ ?_
   ·
    skip
    refine q_c (fun hc4 => ?_) (fun hc4 => ?_)
    ·
     refine qay ?_
     refine qbm ?_
     refine qaa ?_
     refine qa6 ?_
     refine LJ_call rfl (next1 (by repeat (first | apply USeg.here | apply USeg.cons | apply USeg.app)) hx2 hk3 (by omega)) rfl ?_
     rintro v L' R' ⟨r3, k4, rfl, g3, g3', g3'', hk4, rfl, rfl⟩
     have g3q := g3' (by omega)
     refine LJ_q (yv_index_ow tb ((⟨.own b46 s.sensors.l.length [], tr2⟩ : OwL Int)) _ rfl rfl ((show _ = Value.slice _ _ _ from rfl).trans (own_val htr2)) rfl (by assumption) (i := i) (by first | rfl | omega | (simp; omega)) (by first | omega | (dsimp only; omega) | (dsimp only; rw [List.length_set]; omega) | (dsimp only; simp only [List.length_set]; omega))) rfl ?_
     refine LJ_g0 (gives_store1_ow tb ((⟨.own b46 s.sensors.l.length [], tr2⟩ : OwL Int)) (r3) rfl rfl rfl rfl (by repeat (first | apply OSeg.cons | exact OSeg.here | exact OSeg.last | exact OSeg.at (by assumption) | apply OSeg.app)) (by assumption) (fun _ => rfl) (by assumption) (by decide) (by rfl) (by rfl)) ?_
     rintro v L' R' ⟨rfl, rfl⟩
     refine qav ?_
     exact q_j ⟨(tr2.set i r3, r3, k4), by dsimp only; rw [ht2, List.set_set], ⟨by dsimp only; omega, fun _ => by dsimp only; omega, fun h => by omega⟩, hk4⟩
    refine CJ_skip ?_
    exact q_j ⟨(tr2, q2, k3), ht2, hq2, hk3⟩
   rintro ⟨⟨tr3, q3, k5⟩, ht3, hq3, hk5⟩ junk
   try dsimp only
   dsimp only at ht3 hq3 hk5
   have htr3 : tr3.length = s.sensors.l.length := by rw [ht3, List.length_set]; exact htr
   have htk3 : (⟨.own b46 s.sensors.l.length [], tr3⟩ : OwL Int).ok 1 icell := OwL.len_ok icell_len htk (by rw [ht3]; simp)
   have htg3 : tr3[i]? = some q3 := by rw [ht3, List.getElem?_set_self (by omega)]
   obtain ⟨hqb, hq31, hq32⟩ := hq3
   refine CJ_seq ?_
   refine CJ_drawn tb [0, 1, 2, 3, 4, 5, 6, 7, 8, 9, 10, 11, 12] _ mixed (by kernel_rfl) (List.Sublist.refl _) ?_
   refine qao ?_
   refine ycgaa ?_
   refine qao ?_
   refine ycgai ?_
   refine ycgaj ?_
   refine ycgaa ?_
   refine qao ?_
   refine ycgai ?_
   refine ycgaj ?_
   refine DJ_q (yv_build (qs := [(0, (Value.int _ _).cells.toList), (1, (Value.int _ _).cells.toList)]) (out := [_, _]) tb rfl rfl rfl rfl) rfl rfl rfl ?_
   refine DJ_q (yv_build (qs := [(0, (Value.int _ _).cells.toList), (1, (Value.int _ _).cells.toList), (2, (Value.agg _).cells.toList)]) (out := [_, _, _, _]) tb rfl rfl rfl rfl) rfl rfl rfl ?_
   refine qbr ?_
   intro b13
   refine qbg ?_
   refine qc6 ?_
   refine qab ?_
   refine qac ?_
   refine q_l rfl (stately_tri _ _ _) ?_
   refine qb4 ?_
   refine qaf ?_
   refine CJ_joinS [95, 96, 97, 98, 99, 100, 101, 102, 103, 104, 105, 106, 107, 108, 109, 110] ((⟨fun _ => [], fun g => ⟨b13, XMeas.cells g.1.1, 88⟩ :: ⟨b12, x.cells, 97⟩ :: (p.L 88 XMeas.cells ++ ((⟨.own b46 s.sensors.l.length [], tr3⟩ : OwL Int).L 3 icell ++ (⟨b6, z.cells, 42⟩ :: ⟨b4, s.cells, 36⟩ :: cblk c (codes300 y) g.1.2 :: []))), fun _ => R2, fun _ => 0⟩ : Head {g : XMeas × Nat // TruM q3 i g.1 ∧ g.2 ≤ (codes300 y).l.length})) ?_ ?_
   ·
    skip
    refine q_c (fun hc5 => ?_) (fun hc5 => ?_)
    ·
     refine CJ_drawn2 tb [106] [0, 1, 2, 3, 6, 7, 8, 9, 4, 5, 12, 13, 10, 11] [14, 15, 16, 17] ([Blk.mk b13 _ _]) _ mixed (by kernel_rfl) (by repeat (first | exact zs0 _ | exact zs1 _ | apply zs2 | apply zs3 | apply zs4 | apply zs5)) (by (repeat (first | apply List.Sublist.cons (a := Blk.mk b13 _ _) | apply List.Sublist.cons_cons)); exact List.Sublist.refl _) ?_
     refine qan ?_
     refine qan ?_
     refine qau ?_
     refine qb3 ?_
     refine qan ?_
     refine qan ?_
     refine qau ?_
     refine qb3 ?_
     refine DJ3_call rfl (next1 (by repeat (first | apply USeg.here | apply USeg.cons | apply USeg.app)) hx2 hk5 (by omega)) rfl rfl ?_
     rintro v L' R' ⟨r4, k6, rfl, g4, g4', g4'', hk6, rfl, rfl⟩
     refine qas ?_
     have g4q := g4' (by omega)
     refine qcc ?_
     refine qan ?_
     refine qan ?_
     refine DJ3_call rfl (next1 (by repeat (first | apply USeg.here | apply USeg.cons | apply USeg.app)) hx2 hk6 (by omega)) rfl rfl ?_
     rintro v L' R' ⟨r5, k7, rfl, g5, g5', g5'', hk7, rfl, rfl⟩
     refine qas ?_
     have g5q := g5' (by omega)
     refine DJ3_ql (by first | exact yv_add64 rfl rfl (by omega) (by omega) | exact yv_addU rfl rfl (by omega) (by omega) | exact yv_add rfl rfl) rfl rfl rfl rfl ?_
     refine qba ?_
     refine qb6 ?_
     refine qal ?_
     refine qal ?_
     refine qb6 ?_
     refine DJ_nil ?_
     exact q_j ⟨(⟨(i : Int), 5, ⟨q3 - r4, q3 + r5⟩⟩, k7), ⟨rfl, rfl, by dsimp only; omega, by dsimp only; omega, by dsimp only; omega⟩, hk7⟩
    refine CJ_skip ?_
    exact q_j ⟨(⟨(i : Int), 5, ⟨q3, q3⟩⟩, k5), ⟨rfl, rfl, by dsimp only; omega, by dsimp only; omega, by dsimp only; omega⟩, hk5⟩
   rintro ⟨⟨me, k8⟩, hme, hk8⟩ junk
   try dsimp only
   dsimp only at hme hk8
   refine qay ?_
   refine qbm ?_
   refine qa8 ?_
   refine LJ_g (gives_buildSlice (qs := [(0, (Value.agg _).cells.toList)]) (out := [_, _, _, _]) tb rfl rfl rfl rfl rfl rfl rfl) rfl ?_
   rintro v L' R' ⟨b113, rfl, rfl, hR113⟩
   replace hR113 := hR113.symm; subst hR113
   refine LJ_g (gives_append1 (f := XMeas.cells) (p := p) (a := me) tb rfl rfl rfl rfl (hpk) (by repeat (first | apply OSeg.cons | exact OSeg.here | exact OSeg.last | exact OSeg.at (by assumption) | apply OSeg.app)) (shown_own (by repeat (first | exact zi0 | apply zi1 | apply zi2)) rfl rfl) rfl (by first | omega | (simp only [List.length_cons, List.length_nil, List.length_append]; omega))) rfl ?_
   rintro v L' R' ⟨o114, rfl, hok114, rfl, rfl⟩
   refine qc4 ?_
   refine qcs ?_
   refine qar ?_
   refine qaa ?_
   refine qav ?_
   exact q_k ⟨(k8, i + 1, tr3, (⟨o114, _⟩ : OwL XMeas)), hk8, by dsimp only; omega, htr3, hok114, hTn tr3 me q3 ht3 (by omega) ⟨hqb, hq31, hq32⟩ hme⟩
  obtain rfl : i = s.sensors.l.length := by omega
  refine qc3 ?_
  refine CJ_frz1 (A := []) (wd := 4) [] (fun _ => rfl) (by decide) hpk (fun s hs => by cases hs) ?_
  refine CJ_L (by simp only [List.nil_append]; rfl) ?_
  obtain ⟨R3, hR3e⟩ : ∃ R3, R3 = mesl p.arr :: R2 := ⟨_, rfl⟩
  have hR3 : ∀ r ∈ R2, InR r R3 := fun r hr => inR_self (by rw [hR3e]; exact .tail _ hr)
  have hpR : InR (mesl p.arr) R3 := inR_self (by rw [hR3e]; exact .head _)
  have hs3 := hs2.mono hR3
  have hx3 := hx2.mono hR3
  have hlR3 := hlR.mono hR3
  refine CJ_R (show _ = R3 by rw [hR3e]) ?_
  refine CJ_permL (L' := ⟨b6, z.cells, 42⟩ :: ⟨b4, s.cells, 36⟩ :: ((⟨.own b46 s.sensors.l.length [], tr⟩ : OwL Int).L 3 icell ++ (cblk c (codes300 y) k2 :: []))) (List.perm_middle.trans (List.Perm.cons _ List.perm_middle)) ?_
  refine CJ_drawn tb [0, 1, 2, 3, 5, 6, 4, 7, 8, 9, 10, 11, 12, 13, 14, 15, 16] ([Blk.mk b4 _ _]) mixed (by kernel_rfl) (by repeat (first | exact zs0 _ | exact zs1 _ | apply zs2 | apply zs3 | apply zs4 | apply zs5)) ?_
  refine ycgak ?_
  refine ycgaa ?_
  refine qb8 ?_
  refine ycgak ?_
  refine ycgaa ?_
  refine qb8 ?_
  refine DJ_call rfl (Tri.spl (.consB (.consB (.appB (.consL .nil)))) (watched_tri c (codes300 y) k2 s _ hx3 hk2 (by omega))) rfl rfl ?_
  rintro v L' R' ⟨_, rfl, w, k9, rfl, hwk, hw, hk9, rfl, rfl⟩
  refine qas ?_
  simp only [List.append_assoc, List.cons_append, List.nil_append, List.append_nil]
  refine DJ_call rfl (next1 (by repeat (first | apply USeg.here | apply USeg.cons | apply USeg.app)) hx3 hk9 (by omega)) rfl rfl ?_
  rintro v L' R' ⟨r6, k10, rfl, g6, g6', g6'', hk10, rfl, rfl⟩
  refine qas ?_
  have g6q := g6' (by omega)
  have hve := drawn_vals hD (m := p.l) (fl := l.l) (t := 9 + r6) hpn hw hln (by omega)
  have hvl := valuesV_len hve
  refine qc2 ?_
  refine DJ_call rfl (values_own (t := 9 + r6) hs3 hpR (by repeat (first | exact inB_here | apply inB_cons | apply inB_app)) hwk hlR3 hT.ok) rfl rfl ?_
  rintro v L' R' ⟨vv, w2, rfl, ⟨hvk, hw2k⟩, hvvl, hw2l, rfl, rfl⟩
  refine qas ?_
  simp only [List.append_assoc, List.cons_append, List.nil_append, List.append_nil]
  dsimp only [OwL.arr] at hvvl hw2l ⊢
  rw [hve]
  have hvn : vv.l.length = s.conds.l.length := by rw [hvvl, hvl.1]; exact hw.1
  refine DJ_q (yv_move rfl) rfl rfl rfl ?_
  iterate 3 refine DJ_q (yv_extract rfl rfl) rfl rfl rfl ?_
  refine DJ_q (yv_assign (show _ = Value.slice _ _ _ from rfl)) rfl rfl rfl ?_
  refine DJ_q (yv_assign (show _ = Value.slice _ _ _ from rfl)) rfl rfl rfl ?_
  refine qcg ?_
  refine qc6 ?_
  refine qaa ?_
  refine qbq ?_
  refine qah ?_
  apply LJ_or (G := [_, _, _, _, _, _]) (j := 2) (cj := 132) rfl rfl (by rfl) rfl (show _ = Value.bool _ from rfl) rfl
  ·
   intro hg3
   replace hg3 := qb hg3
   refine qbm ?_
   refine qag ?_
   refine qab ?_
   refine qac ?_
   refine qag ?_
   refine qbq ?_
   exact qai
  intro junk3
  refine qaf ?_
  refine q_c (fun hc6 => ?_) (fun hc6 => ?_)
  ·
   (exfalso; simp at hc6; omega)
  refine CJ_skip (seqK_normal (CJ_seq (CJ_seq ?_)))
  have htk : (⟨.own b46 s.sensors.l.length [], tr⟩ : OwL Int).ok 1 icell := by have := made_ok (f := icell) (wd := 1) (b := b46) (n := s.sensors.l.length) (x := 0) icell_len (by simp only [maxLen]; omega); exact OwL.len_ok icell_len this (by simp; exact htr)
  refine CJ_frzS (T := 3) (f := icell) (wd := 1) vv [] (by repeat (first | apply OSeg.cons | exact OSeg.here | exact OSeg.last | exact OSeg.at (by assumption) | apply OSeg.app)) (fun _ => rfl) (by decide) hvk (fun s hs => by cases hs) ?_
  refine CJ_frzS (T := 3) (f := icell) (wd := 1) (⟨.own b46 s.sensors.l.length [], tr⟩ : OwL Int) [] (by repeat (first | apply OSeg.cons | exact OSeg.here | exact OSeg.last | exact OSeg.at (by assumption) | apply OSeg.app)) (fun _ => rfl) (by decide) htk (fun s hs => by cases hs) ?_
  obtain ⟨R4, hR4e⟩ : ∃ R4, R4 = isl (⟨.own b46 s.sensors.l.length [], tr⟩ : OwL Int).arr :: isl vv.arr :: R3 := ⟨_, rfl⟩
  have hR4 : ∀ r ∈ R3, InR r R4 := fun r hr => inR_self (by rw [hR4e]; exact .tail _ (.tail _ hr))
  have htR : InR (isl (⟨.own b46 s.sensors.l.length [], tr⟩ : OwL Int).arr) R4 := inR_self (by rw [hR4e]; exact .head _)
  have hvR : InR (isl vv.arr) R4 := inR_self (by rw [hR4e]; exact .tail _ (.head _))
  have hcR4 := (hcR.mono hR3).mono hR4
  have hzf4 := (hzf.mono hR3).mono hR4
  have fin : ∀ r ∈ R, InR r R4 := fun r hr => (((hRR r hr).mono hR2).mono hR3).mono hR4
  refine CJ_R (show _ = R4 by rw [hR4e]) ?_
  refine CJ_weak (L' := ⟨b6, z.cells, 42⟩ :: ⟨b4, s.cells, 36⟩ :: []) (R' := R4) (by repeat (first | exact zs0 _ | exact zs1 _ | apply zs2 | apply zs3 | apply zs4 | apply zs5)) (allR_self _) ?_
  refine qay ?_
  refine qab ?_
  refine qac ?_
  refine qag ?_
  refine qaa ?_
  refine qa2 ?_
  refine CJ_forget [(6, Value.pointer _), (9, Value.slice _ _ _), (14, Value.slice _ _ _), (141, Value.slice _ _ _), (142, Value.int _ _), (143, Value.int _ _)] (by repeat' (first | exact trivial | refine And.intro rfl ?_)) fun tq1 => ?_
  refine q_s [2, 17, 18, 19, 143, 144, 145, 146, 147, 148, 149, 150, 151, 152, 153, 154, 155, 156, 157, 158, 159, 160, 161, 162, 163, 164, 165, 166, 167, 168, 169, 170, 171, 172, 173, 174, 175, 176, 177, 178, 179, 180, 181, 182, 183, 184, 185, 186, 187, 188, 189, 190, 191, 192, 193, 194, 195, 196, 197, 198, 199, 200, 201, 202, 203, 204, 205, 206, 207, 208, 209, 210, 211, 212, 213, 214, 215, 216, 217, 218, 219, 220, 221, 222, 223, 224, 225, 226, 227, 228, 229, 230, 231, 232, 233, 234, 235, 236, 237, 238, 239, 240, 241, 242] (fun g : {i : Nat // i ≤ s.conds.l.length} => [(143, .int .i64 ((g.1 : Nat) : Int))]) (fun g => s.conds.l.length - g.1) (⟨0, by omega⟩) ?_
  rintro ⟨e, he⟩ junk
  try dsimp only
  refine qae ?_
  refine qaj ?_
  refine qa4 ?_
  refine q_c (fun hc7 => ?_) (fun hc7 => ?_)
  ·
   have hcg := get_D (l := s.conds.l) (k := e) default (by omega)
   have hvg := hvl.2.2.1 e (by have := hw.1; omega)
   rw [← hvvl] at hvg
   have hce := hD.ok.cond _ (List.mem_of_getElem? hcg)
   have hcf := condErr_facts hce
   have hM := means_val (w := w.l.getD e default) (t := 9 + r6) hT hlh hfn hce
   dsimp only [valF] at hvg
   generalize valueV s.sensors.l p.l l.l (s.conds.l.getD e default) (w.l.getD e default) (9 + r6) = v1 at *
   generalize s.conds.l.getD e default = cd at *
   have htg5 : cd.kind ≠ 5 → tr[cd.target.toNat]? = some (tr.getD cd.target.toNat 0) := fun h => get_D 0 (by have := hcf.2.2.2.2.1 h; omega)
   refine qbb ?_
   refine qaa ?_
   refine LJ_q (by first | exact yv_index_ro tb rfl rfl rfl rfl (by first | assumption | exact zr (by simp)) (i := e) (by first | rfl | omega | (simp; omega)) (by omega) | exact yv_index tb rfl rfl rfl rfl (i := e) (by first | rfl | omega | (simp; omega)) (by omega)) rfl ?_
   refine LJ_q (by first | exact yv_loadN_ro (row := [_, _, _, _, _, _]) tb rfl rfl rfl (by first | assumption | exact zr (by simp)) (by assumption) (by rfl) (by rfl) | exact yv_loadN (row := [_, _, _, _, _, _]) tb rfl rfl rfl (by repeat (first | exact zi0 | apply zi1 | apply zi2)) (by rfl) (by rfl)) rfl ?_
   refine qaq ?_
   intro b18
   refine qad ?_
   refine qak ?_
   refine qam ?_
   refine qaz ?_
   refine qaw ?_
   refine qab ?_
   refine qac ?_
   refine qaf ?_
   refine CJ_joinS [2, 19, 150, 151, 152, 153, 154, 155, 156, 157, 158, 159, 160, 161, 162, 163, 164, 165, 166, 167, 168, 169, 170, 171, 172, 173, 174, 175, 176, 177, 178, 179, 180, 181, 182, 183, 184, 185, 186, 187, 188, 189, 190, 191, 192, 193, 194, 195, 196, 197, 198, 199, 200, 201, 202, 203, 204, 205, 206, 207, 208, 209, 210, 211, 212, 213, 214, 215, 216, 217, 218, 219, 220, 221, 222] ((⟨fun g => [(19, .bool g.1)], fun _ => ⟨b18, cd.cells, 102⟩ :: ⟨b6, z.cells, 42⟩ :: ⟨b4, s.cells, 36⟩ :: [], fun _ => R4, fun _ => 0⟩ : Head {b : Bool // (v1 = -1 → b = false) ∧ (v1 = 1 → b = true)})) ?_ ?_
   ·
    refine CJ_block (CJ_seq (CJ_region ?_))
    refine qbn ?_
    refine qaz ?_
    refine qaf ?_
    refine q_c (fun hc8 => ?_) (fun hc8 => ?_)
    ·
     have htg := htg5 (by omega)
     have htt := hcf.2.2.2.2.1 (by omega)
     refine CJ_drawn tb [0, 1, 2, 3, 4, 5, 6, 7, 8] ([Blk.mk b18 _ _]) mixed (by kernel_rfl) (by repeat (first | exact zs0 _ | exact zs1 _ | apply zs2 | apply zs3 | apply zs4 | apply zs5)) ?_
     refine ycgaa ?_
     refine qal ?_
     refine qat ?_
     refine ycgab ?_
     refine qbl ?_
     refine qal ?_
     refine qat ?_
     refine DJ_q (yv_lss rfl rfl) rfl rfl rfl ?_
     refine DJ_q (yv_assign (show _ = Value.bool _ from rfl)) rfl rfl rfl ?_
     refine DJ_nil (blockK_normal ?_)
     exact q_j ⟨decide (tr.getD cd.target.toNat 0 < cd.value), fun h => decide_eq_false ((hM.1 hc8).1 h), fun h => decide_eq_true ((hM.1 hc8).2 h)⟩
    refine qae ?_
    refine qbn ?_
    refine qaz ?_
    refine qaf ?_
    refine q_c (fun hc9 => ?_) (fun hc9 => ?_)
    ·
     have htg := htg5 (by omega)
     have htt := hcf.2.2.2.2.1 (by omega)
     refine qay ?_
     refine qbm ?_
     refine qab ?_
     refine qac ?_
     refine LJ_q (by first | exact yv_index_ro tb rfl rfl rfl rfl (by first | assumption | exact zr (by simp)) (i := cd.target.toNat) (by first | rfl | omega | (simp; omega)) (by omega) | exact yv_index tb rfl rfl rfl rfl (i := cd.target.toNat) (by first | rfl | omega | (simp; omega)) (by omega)) rfl ?_
     refine qa7 ?_
     refine qbq ?_
     refine qaz ?_
     refine LJ_nil (blockK_normal ?_)
     exact q_j ⟨decide (¬ tr.getD cd.target.toNat 0 = 1), fun h => decide_eq_false (fun h' => h' ((hM.2.1 hc9).1 h)), fun h => decide_eq_true ((hM.2.1 hc9).2 h)⟩
    refine qae ?_
    refine qbn ?_
    refine qaz ?_
    refine qaf ?_
    refine q_c (fun hc10 => ?_) (fun hc10 => ?_)
    ·
     have htt := hcf.2.2.2.1 hc10
     have hfg := get_D (l := z.flows.l) (k := cd.target.toNat) 0 (by omega)
     have hfb := hF.flow _ (List.mem_of_getElem? hfg)
     refine CJ_drawn tb [0, 1, 2, 3, 4, 5, 6, 7, 8, 9, 10, 11, 12, 13, 14, 15, 16, 17] ([Blk.mk b18 _ _, Blk.mk b6 _ _]) mixed (by kernel_rfl) (by repeat (first | exact zs0 _ | exact zs1 _ | apply zs2 | apply zs3 | apply zs4 | apply zs5)) ?_
     refine qal ?_
     refine qat ?_
     refine qal ?_
     refine qat ?_
     refine ycgab ?_
     refine qbl ?_
     refine qal ?_
     refine qat ?_
     refine qal ?_
     refine qat ?_
     refine ycgab ?_
     refine qbl ?_
     refine DJ_q (yv_neg64 rfl (by omega) (by omega)) rfl rfl rfl ?_
     refine DJ_q (yv_max2 rfl rfl) rfl rfl rfl ?_
     refine qal ?_
     refine qat ?_
     refine DJ_q (yv_lss rfl rfl) rfl rfl rfl ?_
     refine DJ_q (yv_assign (show _ = Value.bool _ from rfl)) rfl rfl rfl ?_
     refine DJ_nil (blockK_normal ?_)
     exact q_j ⟨decide (max (z.flows.l.getD cd.target.toNat 0) (-(z.flows.l.getD cd.target.toNat 0)) < cd.value), fun h => decide_eq_false ((hM.2.2.1 hc10).1 h), fun h => decide_eq_true ((hM.2.2.1 hc10).2 h)⟩
    refine qae ?_
    refine qbn ?_
    refine qaz ?_
    refine qaf ?_
    refine q_c (fun hc11 => ?_) (fun hc11 => ?_)
    ·
     have htg := htg5 (by omega)
     have htt := hcf.2.2.2.2.1 (by omega)
     obtain ⟨m1, m2⟩ := hM.2.2.2 hc11
     refine CJ_seq (CJ_seq ?_)
     refine CJ_drawn tb [0, 1, 2, 3, 4, 5, 6, 7, 8, 9, 10, 11, 12, 13, 14, 15, 16, 17, 18, 19, 20, 21, 22, 23, 24, 25, 26, 27, 28, 29, 30, 31, 32, 33] ([Blk.mk b18 _ _]) mixed (by kernel_rfl) (by repeat (first | exact zs0 _ | exact zs1 _ | apply zs2 | apply zs3 | apply zs4 | apply zs5)) ?_
     refine ycgaa ?_
     refine qal ?_
     refine qat ?_
     refine ycgab ?_
     refine qbl ?_
     refine qal ?_
     refine qal ?_
     refine qat ?_
     refine DJ_q (yv_geq rfl rfl) rfl rfl rfl ?_
     refine qb2 ?_
     refine DJ_case (k := 198) (show _ = Value.bool _ from rfl) (fun hg9 => ?_) (fun hg9 => ?_)
     ·
      replace hg9 := qb hg9
      refine ycgaa ?_
      refine qao ?_
      refine ycgae ?_
      refine qbl ?_
      refine DJ_q (yv_eql rfl rfl) rfl rfl rfl ?_
      refine qbp ?_
      refine qb2 ?_
      refine DJ_case (k := 205) (show _ = Value.bool _ from rfl) (fun hg16 => ?_) (fun hg16 => ?_)
      ·
       replace hg16 := qb hg16
       (exfalso; first | (cases hg16; done) | (have := m1 hg16; omega))
      replace hg16 := qb hg16
      refine ycgaa ?_
      refine qal ?_
      refine qat ?_
      refine ycgab ?_
      refine qbl ?_
      refine qal ?_
      refine qal ?_
      refine qat ?_
      refine DJ_q (yv_lss rfl rfl) rfl rfl rfl ?_
      refine qb2 ?_
      refine DJ_case (k := 215) (show _ = Value.bool _ from rfl) (fun hg26 => ?_) (fun hg26 => ?_)
      ·
       replace hg26 := qb hg26
       refine ycgaa ?_
       refine qao ?_
       refine ycgae ?_
       refine qbl ?_
       refine DJ_q (yv_eql rfl rfl) rfl rfl rfl ?_
       refine qbp ?_
       refine qbp ?_
       refine qbu ?_
       refine q_c (fun hc12 => ?_) (fun hc12 => ?_)
       ·
        (exfalso; first | (cases hc12; done) | (have := m2 hc12; omega))
       refine CJ_skip (seqK_normal (CJ_exit ?_))
       refine blockK_other rfl ?_
       refine joinK_exit (blockK_exit (seqK_normal (CJ_region ?_)))
       refine qar ?_
       refine qaa ?_
       refine qav ?_
       exact q_k (⟨e + 1, by omega⟩)
      replace hg26 := qb hg26
      iterate 5 refine qap ?_
      refine qbp ?_
      refine qbp ?_
      refine qbu ?_
      refine CJ_cond_false rfl ?_
      refine CJ_skip (seqK_normal (CJ_exit ?_))
      refine blockK_other rfl ?_
      refine joinK_exit (blockK_exit (seqK_normal (CJ_region ?_)))
      refine qar ?_
      refine qaa ?_
      refine qav ?_
      exact q_k (⟨e + 1, by omega⟩)
     replace hg9 := qb hg9
     iterate 5 refine qap ?_
     refine qbp ?_
     refine qb2 ?_
     refine DJ_case (k := 205) (show _ = Value.bool _ from rfl) (fun hg16 => ?_) (fun hg16 => ?_)
     ·
      replace hg16 := qb hg16
      (exfalso; first | (cases hg16; done) | (have := m1 hg16; omega))
     replace hg16 := qb hg16
     refine ycgaa ?_
     refine qal ?_
     refine qat ?_
     refine ycgab ?_
     refine qbl ?_
     refine qal ?_
     refine qal ?_
     refine qat ?_
     refine DJ_q (yv_lss rfl rfl) rfl rfl rfl ?_
     refine qb2 ?_
     refine DJ_case (k := 215) (show _ = Value.bool _ from rfl) (fun hg26 => ?_) (fun hg26 => ?_)
     ·
      replace hg26 := qb hg26
      refine ycgaa ?_
      refine qao ?_
      refine ycgae ?_
      refine qbl ?_
      refine DJ_q (yv_eql rfl rfl) rfl rfl rfl ?_
      refine qbp ?_
      refine qbp ?_
      refine qbu ?_
      refine q_c (fun hc12 => ?_) (fun hc12 => ?_)
      ·
       (exfalso; first | (cases hc12; done) | (have := m2 hc12; omega))
      refine CJ_skip (seqK_normal (CJ_exit ?_))
      refine blockK_other rfl ?_
      refine joinK_exit (blockK_exit (seqK_normal (CJ_region ?_)))
      refine qar ?_
      refine qaa ?_
      refine qav ?_
      exact q_k (⟨e + 1, by omega⟩)
     replace hg26 := qb hg26
     iterate 5 refine qap ?_
     refine qbp ?_
     refine qbp ?_
     refine qbu ?_
     refine CJ_cond_false rfl ?_
     refine CJ_skip (seqK_normal (CJ_exit ?_))
     refine blockK_other rfl ?_
     refine joinK_exit (blockK_exit (seqK_normal (CJ_region ?_)))
     refine qar ?_
     refine qaa ?_
     refine qav ?_
     exact q_k (⟨e + 1, by omega⟩)
    refine CJ_exit ?_
    refine blockK_other rfl ?_
    refine joinK_exit (blockK_exit (seqK_normal (CJ_region ?_)))
    refine qar ?_
    refine qaa ?_
    refine qav ?_
    exact q_k (⟨e + 1, by omega⟩)
   rintro ⟨bb, hb1, hb2⟩ junk
   try dsimp only
   refine qae ?_
   refine qah ?_
   refine qah ?_
   refine LJ_case (k := 224) (show _ = Value.bool _ from rfl) (fun hg2 => ?_) (fun hg2 => ?_)
   ·
    replace hg2 := qb hg2
    refine ycgaf ?_
    refine LJ_qg (yv_move (show _ = Value.int _ _ from rfl)) rfl rfl ?_
    refine ycgag ?_
    refine ycgah ?_
    refine LJ_qg (yv_eql rfl rfl) rfl rfl ?_
    refine ycgac ?_
    refine qah ?_
    refine LJ_case (k := 231) (show _ = Value.bool _ from rfl) (fun hg9 => ?_) (fun hg9 => ?_)
    ·
     replace hg9 := qb hg9
     (exfalso; first | (cases hg9; done) | (rw [hb1 hg9] at hg2; cases hg2))
    replace hg9 := qb hg9
    refine LJ_qg (yv_move (show _ = Value.bool _ from rfl)) rfl rfl ?_
    refine LJ_qg (yv_not rfl) rfl rfl ?_
    refine LJ_qg (yv_move (show _ = Value.bool _ from rfl)) rfl rfl ?_
    refine LJ_case (k := 234) (show _ = Value.bool _ from rfl) (fun hg12 => ?_) (fun hg12 => ?_)
    ·
     replace hg12 := qb hg12
     refine ycgaf ?_
     refine LJ_qg (yv_move (show _ = Value.int _ _ from rfl)) rfl rfl ?_
     refine ycgag ?_
     refine ycgah ?_
     refine LJ_qg (yv_eql rfl rfl) rfl rfl ?_
     ·
      skip
      refine ycgad ?_
      refine ycgac ?_
      refine qaf ?_
      refine q_c (fun hc13 => ?_) (fun hc13 => ?_)
      ·
       (exfalso; first | (cases hc13; done) | (have h2 := hb2 hc13; simp [h2] at hg12))
      refine qbj ?_
      refine qar ?_
      refine qaa ?_
      refine qav ?_
      exact q_k (⟨e + 1, by omega⟩)
    replace hg12 := qb hg12
    iterate 5 refine LJ_skg rfl rfl ?_
    ·
     skip
     refine ycgad ?_
     refine ycgac ?_
     refine qaf ?_
     refine CJ_cond_false rfl ?_
     refine qbj ?_
     refine qar ?_
     refine qaa ?_
     refine qav ?_
     exact q_k (⟨e + 1, by omega⟩)
   replace hg2 := qb hg2
   iterate 5 refine LJ_skg rfl rfl ?_
   refine ycgac ?_
   refine qah ?_
   ·
    skip
    refine LJ_qg (yv_move (show _ = Value.bool _ from rfl)) rfl rfl ?_
    refine LJ_qg (yv_not rfl) rfl rfl ?_
    refine LJ_qg (yv_move (show _ = Value.bool _ from rfl)) rfl rfl ?_
    refine LJ_case (k := 234) (show _ = Value.bool _ from rfl) (fun hg12 => ?_) (fun hg12 => ?_)
    ·
     replace hg12 := qb hg12
     refine ycgaf ?_
     refine LJ_qg (yv_move (show _ = Value.int _ _ from rfl)) rfl rfl ?_
     refine ycgag ?_
     refine ycgah ?_
     refine LJ_qg (yv_eql rfl rfl) rfl rfl ?_
     ·
      skip
      refine ycgad ?_
      refine ycgac ?_
      refine qaf ?_
      refine q_c (fun hc13 => ?_) (fun hc13 => ?_)
      ·
       (exfalso; first | (cases hc13; done) | (have h2 := hb2 hc13; simp [h2] at hg12))
      refine qbj ?_
      refine qar ?_
      refine qaa ?_
      refine qav ?_
      exact q_k (⟨e + 1, by omega⟩)
    replace hg12 := qb hg12
    iterate 5 refine LJ_skg rfl rfl ?_
    ·
     skip
     refine ycgad ?_
     refine ycgac ?_
     refine qaf ?_
     refine CJ_cond_false rfl ?_
     refine qbj ?_
     refine qar ?_
     refine qaa ?_
     refine qav ?_
     exact q_k (⟨e + 1, by omega⟩)
  refine qbk ?_
  refine q_l rfl (awake20_tri _ _) ?_
  refine qaz ?_
  refine qa0 ?_
  refine retK_ret (L' := []) (R' := R) (res1 rfl (rv_tmp (show _ = Value.bool _ from rfl))) ?hp ?hL ?hR
  case hp => exact ⟨rfl, rfl, rfl⟩
  case hL => exact List.nil_sublist _
  case hR => exact fin
end Go.Proofs.Ytlgjgigciapkfaa
