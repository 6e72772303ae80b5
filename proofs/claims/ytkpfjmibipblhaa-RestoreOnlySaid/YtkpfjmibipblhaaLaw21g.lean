/-
  Statements about chapter 21: power only behind two persons. By an AI agent; no person has read it.
-/
import Derived.Test.YtkpfjmibipblhaaSteps
set_option linter.unusedSimpArgs false
set_option linter.unusedVariables false
namespace Go.Proofs.Ytkpfjmibipblhaa
open Go.Aw Go
set_option maxRecDepth 20000
attribute [local irreducible] CJ LJ DJ Tri YV Gives seqK blockK loopK retK RV mergeK OwL.L
section
variable {A9 B9 : Prop}
theorem ycsaa (a : A9) (h : A9 → B9 := by exact LJ_q (yv_loadN (row := [_, _, _, _, _]) tb rfl rfl rfl (by repeat (first | exact zi0 | apply zi1 | apply zi2)) (by rfl) (by rfl)) rfl) : B9 := h a
theorem ycsab (a : A9) (h : A9 → B9 := by exact LJ_qg (yv_load1 tb rfl rfl rfl (by repeat (first | exact zi0 | apply zi1 | apply zi2)) (by rfl)) rfl rfl) : B9 := h a
theorem ycsac (a : A9) (h : A9 → B9 := by exact LJ_q (yv_loadN (row := [_, _, _, _, _, _, _, _]) tb rfl rfl rfl (by repeat (first | exact zi0 | apply zi1 | apply zi2)) (by rfl) (by rfl)) rfl) : B9 := h a
theorem ycsad (a : A9) (h : A9 → B9 := by exact LJ_q (by first | exact yv_pick_true rfl rfl | exact yv_pick_false rfl rfl | exact yv_pick rfl) rfl) : B9 := h a
theorem ycsae (a : A9) (h : A9 → B9 := by exact LJ_q (yv_loadN (row := [_, _, _]) tb rfl rfl rfl (by repeat (first | exact zi0 | apply zi1 | apply zi2)) (by rfl) (by rfl)) rfl) : B9 := h a
theorem ycsaf (a : A9) (h : A9 → B9 := by exact CJ_drawn2 tb [103, 104] [0, 1, 2] [3, 4, 5, 6, 7] ([Blk.mk b19 _ _, Blk.mk b17 _ _, Blk.mk b5 _ _, Blk.mk b4 _ _]) _ mixed (by kernel_rfl) (by repeat (first | exact zs0 _ | exact zs1 _ | apply zs2 | apply zs3 | apply zs4 | apply zs5)) (by (repeat (first | apply List.Sublist.cons (a := Blk.mk b5 _ _) | apply List.Sublist.cons (a := Blk.mk b4 _ _) | apply List.Sublist.cons_cons)); exact List.Sublist.refl _)) : B9 := h a
theorem ycsag (a : A9) (h : A9 → B9 := by exact DJ3_q (yv_loadN (row := [_, _, _, _, _]) tb rfl rfl rfl (by repeat (first | exact zi0 | apply zi1 | apply zi2)) (by rfl) (by rfl)) rfl rfl rfl rfl) : B9 := h a
theorem ycsah (a : A9) (h : A9 → B9 := by exact DJ3_ql (yv_move (show _ = Value.slice _ _ _ from rfl)) rfl rfl rfl rfl) : B9 := h a
theorem ycsai (a : A9) (h : A9 → B9 := by exact DJ3_ql (yv_loadN (row := [_, _, _]) tb rfl rfl rfl (by repeat (first | exact zi0 | apply zi1 | apply zi2)) (by rfl) (by rfl)) rfl rfl rfl rfl) : B9 := h a
theorem ycsaj (a : A9) (h : A9 → B9 := by exact DJ_storeN rfl rfl rfl rfl (by repeat (first | apply zu0 | apply zu1 | apply zu2)) (by rfl) (by rfl) (by rfl) (by repeat (first | exact zs0 _ | exact zs1 _ | apply zs2 | apply zs3 | apply zs4 | apply zs5))) : B9 := h a
theorem ycsak (a : A9) (h : A9 → B9 := by exact CJ_drawn tb [0, 1, 2, 3, 4, 5, 6, 7, 8, 9, 10, 11, 12, 13, 14, 15, 16, 17, 18, 19, 20, 21, 22, 23, 24, 25, 26, 27, 28, 29, 30, 31, 32, 33, 34, 35, 36, 37, 38, 39, 40] ([Blk.mk b11 _ _, Blk.mk b4 _ _]) mixed (by kernel_rfl) (by repeat (first | exact zs0 _ | exact zs1 _ | apply zs2 | apply zs3 | apply zs4 | apply zs5))) : B9 := h a
theorem ycsal (a : A9) (h : A9 → B9 := by exact DJ_q (by first | exact yv_index_ro tb rfl rfl rfl rfl (by first | assumption | exact zr (by simp)) (i := st.person.toNat) (by first | rfl | omega | (simp; omega)) (by omega) | exact yv_index tb rfl rfl rfl rfl (i := st.person.toNat) (by first | rfl | omega | (simp; omega)) (by omega)) rfl rfl rfl) : B9 := h a
theorem ycsam (a : A9) (h : A9 → B9 := by exact DJ_q (by first | exact yv_index_ro tb rfl rfl rfl rfl (by first | assumption | exact zr (by simp)) (i := fi.toNat) (by first | rfl | omega | (simp; omega)) (by omega) | exact yv_index tb rfl rfl rfl rfl (i := fi.toNat) (by first | rfl | omega | (simp; omega)) (by omega)) rfl rfl rfl) : B9 := h a
theorem ycsan (a : A9) (h : A9 → B9 := by exact DJ_q (yv_loadN (row := [_, _, _, _, _, _, _, _]) tb rfl rfl rfl (by repeat (first | exact zi0 | apply zi1 | apply zi2)) (by rfl) (by rfl)) rfl rfl rfl) : B9 := h a
theorem ycsao (a : A9) (h : A9 → B9 := by exact CJ_L (show _ = ⟨b19, f2.cells, 71⟩ :: ⟨b17, q2.cells, 78⟩ :: ⟨b11, st.cells, 83⟩ :: ⟨b5, r.cells, 78⟩ :: ⟨b4, sceneC s c1.val fl.val f1.switches.val f1.zones.val f1.reply, 73⟩ :: [] by rw [hf2e]; rfl)) : B9 := h a
theorem ycsap (a : A9) (h : A9 → B9 := by exact LJ_q (yv_loadN (row := [_, _, _, _, _, _, _, _, _, _, _, _, _]) tb rfl rfl rfl (by repeat (first | exact zi0 | apply zi1 | apply zi2)) (by rfl) (by rfl)) rfl) : B9 := h a
theorem ycsaq (a : A9) (h : A9 → B9 := by exact LJ_q (by first | exact yv_index_ro tb rfl rfl rfl rfl (by first | assumption | exact zr (by simp)) (i := z.toNat) (by first | rfl | omega | (simp; omega)) (by omega) | exact yv_index tb rfl rfl rfl rfl (i := z.toNat) (by first | rfl | omega | (simp; omega)) (by omega)) rfl) : B9 := h a
end
theorem pers_get {l : List Int} (hl : l = [1, 2, 1, 3]) {p : Int} (h : 0 ≤ p ∧ p < 4) : l[p.toNat]? = some (l.getD p.toNat 0) := get_D 0 (by rw [hl]; simp; omega)
set_option maxHeartbeats 4000000 in
theorem restoreOnly_law (y : Arr Int) (R : List Sl) (hy : CodesR y R) :
    Tri Try.prog 6 [y.val].toArray [] R (fun v L' R' => v = .bool true ∧ [] = L' ∧ R = R') := by
  refine tri_enter 224 Try.call6 Try.func6 rfl rfl rfl ?_
  refine qae ?_
  refine qaz ?_
  refine qam ?_
  refine qbm ?_
  refine LJ_call rfl (new_tri y _ _ hy) rfl ?_
  rintro v L' R' ⟨c, rfl, hx, rfl, rfl⟩
  refine qc1 ?_
  refine qam ?_
  refine qa6 ?_
  refine LJ_call rfl (made21_tri c (codes300 y) 0 _ hx (Nat.zero_le _)) rfl ?_
  rintro v L' R' ⟨s, cu, fl, f, k1, rfl, hD, hk1, ⟨hA, hf, hR0⟩, rfl⟩
  refine qaq ?_
  intro b4
  refine qak ?_
  refine qam ?_
  refine q_l rfl (None_tri _ _) ?_
  refine qaq ?_
  intro b5
  refine qak ?_
  refine qam ?_
  iterate 3 refine qad ?_
  refine qam ?_
  refine qad ?_
  refine qaw ?_
  refine qa6 ?_
  refine LJ_call rfl (Tri.spl (.consB (.consB (.consL .nil))) (steps_tri c (codes300 y) k1 _ (hx.mono hR0) hk1)) rfl ?_
  rintro v L' R' ⟨_, rfl, p, k2, rfl, hpk, ⟨hpn, hpd⟩, hk2, rfl, rfl⟩
  simp only [List.append_assoc, List.cons_append, List.nil_append, List.append_nil]
  refine qag ?_
  refine qaa ?_
  refine qa2 ?_
  refine CJ_forget [(4, Value.pointer _), (5, Value.pointer _), (6, Value.int _ _), (7, Value.int _ _), (8, Value.int _ _), (9, Value.int _ _), (27, Value.slice _ _ _), (28, Value.int _ _), (29, Value.int _ _)] (by repeat' (first | exact trivial | refine And.intro rfl ?_)) fun tq0 => ?_
  refine CJ_frz1 (A := [_, _]) (p := p) (wd := 4) [] (fun _ => rfl) (by decide) hpk (fun s hs => by cases hs) ?_
  refine CJ_weak (L' := ⟨b5, noRest.cells, 78⟩ :: ⟨b4, sceneC s cu.val fl.val f.switches.val f.zones.val f.reply, 73⟩ :: []) (.cons_cons _ (.cons_cons _ (List.nil_sublist _))) (allR_self _) ?_
  obtain ⟨R2, hR2e⟩ : ∃ R2, R2 = stsl p.arr :: R' := ⟨_, rfl⟩
  have hR2 : ∀ r ∈ R', InR r R2 := fun r hr => inR_self (by rw [hR2e]; exact .tail _ hr)
  have hpR : InR (stsl p.arr) R2 := inR_self (by rw [hR2e]; exact .head _)
  refine CJ_R (show _ = R2 by rw [hR2e]) ?_
  have hRR : ∀ r ∈ R, InR r R2 := fun r hr => (hR0 r (.tail _ hr)).mono hR2
  have hnz := hD.nz
  have hpers := hD.pers
  obtain ⟨nz, hnze⟩ : ∃ nz, nz = s.zones.l.length := ⟨_, rfl⟩
  rw [← hnze] at hnz
  refine q_p [2, 6, 7, 8, 9, 11, 12, 13, 14, 15, 16, 17, 18, 19, 20, 29, 30, 31, 32, 33, 34, 35, 36, 37, 38, 39, 40, 41, 42, 43, 44, 45, 46, 47, 48, 49, 50, 51, 52, 53, 54, 55, 56, 57, 58, 59, 60, 61, 62, 63, 64, 65, 66, 67, 68, 69, 70, 71, 72, 73, 74, 75, 76, 77, 78, 79, 80, 81, 82, 83, 84, 85, 86, 87, 88, 89, 90, 91, 92, 93, 94, 95, 96, 97, 98, 99, 100, 101, 102, 103, 104, 105, 106, 107, 108, 109, 110, 111, 112, 113, 114, 115, 116, 117, 118, 119, 120, 121, 122, 123, 124, 125, 126, 127, 128, 129, 130, 131, 132, 133, 134, 135, 136, 137, 138, 139, 140, 141, 142, 143, 144, 145, 146, 147, 148, 149, 150, 151, 152, 153, 154, 155, 156, 157, 158, 159, 160, 161, 162, 163, 164, 165, 166, 167, 168, 169, 170, 171, 172, 173, 174, 175, 176, 177, 178, 179, 180, 181, 182, 183, 184, 185, 186, 187, 188, 189, 190, 191, 192, 193, 194, 195, 196, 197, 198, 199, 200, 201, 202, 203, 204, 205, 206, 207, 208, 209, 210, 211, 212, 213, 214, 215, 216, 217, 218, 219, 220, 221, 222] ((⟨fun g => [(29, .int .i64 ((g.1.1 : Nat) : Int)), (9, .int .i64 g.1.2.1), (6, .int .i64 g.1.2.2.1.1), (7, .int .i64 g.1.2.2.1.2.1), (8, .int .i64 g.1.2.2.1.2.2)], fun g => ⟨b5, g.1.2.2.2.1.cells, 78⟩ :: ⟨b4, sceneC s g.1.2.2.2.2.1.val fl.val g.1.2.2.2.2.2.1.switches.val g.1.2.2.2.2.2.1.zones.val g.1.2.2.2.2.2.1.reply, 73⟩ :: [], fun g => g.1.2.2.2.2.2.2, fun g => p.l.length - g.1.1⟩ : Head {g : Nat × Int × (Int × Int × Int) × XRest × Arr XCut × XFeeder × List Sl // (g.1 ≤ p.l.length ∧ 0 ≤ g.2.1 ∧ g.2.1 ≤ 5 + 7 * (g.1 : Int)) ∧ OnlyI nz g.2.2.2.1 g.2.2.1.1 g.2.2.1.2.1 g.2.2.1.2.2 ∧ (g.2.2.2.2.1.l.length = nz ∧ g.2.2.2.2.2.1.zones.l.length = nz ∧ g.2.2.2.2.2.1.switches.l.length ≤ 18) ∧ InR (cusl g.2.2.2.2.1) g.2.2.2.2.2.2 ∧ FeederR g.2.2.2.2.2.1 g.2.2.2.2.2.2 ∧ ∀ r ∈ R2, InR r g.2.2.2.2.2.2})) (⟨(0, 5, (-1, -1, -1), noRest, cu, f, R2), by dsimp only; omega, .none, by dsimp only; have := hD.cuts; have := hD.zn; have := hD.sw; omega, hA.cuts.mono hR2, hf.mono hR2, allR_self _⟩) ?_
  rintro ⟨⟨j, t, ⟨z, fi, sc⟩, r, c1, f1, RK⟩, ⟨hj, ht⟩, hI, hln, hcR, hfR, hRK⟩ junk
  try dsimp only
  dsimp only at hj ht hI hln hcR hfR hRK
  have hAk : RestA s c1 fl RK := ⟨(hA.site.mono hR2).mono hRK, hcR, (hA.flows.mono hR2).mono hRK⟩
  have hpRK := hpR.mono hRK
  have hperR := hAk.site.persons
  have hpl : s.persons.l.length = 4 := by rw [hpers]; rfl
  refine qae ?_
  refine qaj ?_
  refine qa4 ?_
  refine q_c (fun hc0 => ?_) (fun hc0 => ?_)
  ·
   have hpg := get_D (l := p.l) (k := j) default (by omega)
   have hpm := hpd _ (List.mem_of_getElem? hpg)
   obtain ⟨st, hst⟩ : ∃ st, st = p.l.getD j default := ⟨_, rfl⟩
   rw [← hst] at hpg hpm
   rw [StepD] at hpm
   obtain ⟨hkd, hpe, hzo, hwa⟩ := hpm
   refine qbb ?_
   refine LJ_q (by first | exact yv_index_ro tb rfl rfl rfl rfl (by first | assumption | exact zr (by simp)) (i := j) (by first | rfl | omega | (simp; omega)) (by omega) | exact yv_index tb rfl rfl rfl rfl (i := j) (by first | rfl | omega | (simp; omega)) (by omega)) rfl ?_
   refine qdr ?_
   refine qaq ?_
   intro b11
   refine qak ?_
   refine qam ?_
   refine qaa ?_
   refine qab ?_
   refine qac ?_
   refine qar ?_
   refine qad ?_
   refine qam ?_
   refine qab ?_
   refine qac ?_
   refine qab ?_
   refine qac ?_
   refine qag ?_
   refine qaj ?_
   refine qah ?_
   refine LJ_case (k := 43) (show _ = Value.bool _ from rfl) (fun hg7 => ?_) (fun hg7 => ?_)
   ·
    replace hg7 := qb hg7
    refine LJ_qg (yv_field tb rfl rfl rfl) rfl rfl ?_
    refine LJ_qg (yv_loadN (row := [_, _, _, _, _, _, _, _]) tb rfl rfl rfl (by repeat (first | exact zi0 | apply zi1 | apply zi2)) (by rfl) (by rfl)) rfl rfl ?_
    refine LJ_qg (yv_field tb rfl rfl rfl) rfl rfl ?_
    refine ycsab ?_
    refine LJ_qg (yv_field tb rfl rfl rfl) rfl rfl ?_
    refine ycsab ?_
    refine LJ_qg (yv_field tb rfl rfl rfl) rfl rfl ?_
    refine ycsab ?_
    refine LJ_qg (yv_move (show _ = Value.int _ _ from rfl)) rfl rfl ?_
    refine LJ_callg rfl (Ready_tri s c1 fl st.zone (t + st.wait) _ _ hAk) rfl rfl ?_
    rintro v L' R' ⟨rfl, rfl, rfl⟩
    refine LJ_qg (yv_eql rfl rfl) rfl rfl ?_
    refine ycsad ?_
    refine qaz ?_
    refine qam ?_
    refine qab ?_
    refine qac ?_
    refine LJ_nil (seqK_normal (CJ_block (CJ_seq (CJ_seq (CJ_region ?_)))))
    refine qbn ?_
    refine qaz ?_
    refine qaf ?_
    refine CJ_joinS [107, 109] ((⟨fun g => [(107, .bool g)], fun _ => ⟨b11, st.cells, 83⟩ :: ⟨b5, r.cells, 78⟩ :: ⟨b4, sceneC s c1.val fl.val f1.switches.val f1.zones.val f1.reply, 73⟩ :: [], fun _ => RK, fun _ => 0⟩ : Head Bool)) ?_ ?_
    ·
     skip
     refine q_c (fun hc1 => ?_) (fun hc1 => ?_)
     ·
      refine CJ_skip ?_
      exact q_j _
     refine qay ?_
     refine qbn ?_
     refine qaz ?_
     refine qav ?_
     exact q_j _
    rintro kb1 junk
    try dsimp only
    refine q_c (fun hc2 => ?_) (fun hc2 => ?_)
    ·
     refine qae ?_
     refine qab ?_
     refine ycsac ?_
     refine qab ?_
     refine qac ?_
     refine qab ?_
     refine qac ?_
     refine ycsaa ?_
     refine qab ?_
     refine qac ?_
     refine qab ?_
     refine qac ?_
     refine qaa ?_
     refine q_l rfl (Ask_tri s c1 fl r st.person st.zone (t + st.wait) _ _ hAk) ?_
     refine LJ_q (yv_move rfl) rfl ?_
     refine qbs ?_
     refine qbs ?_
     refine qaq ?_
     intro b13
     refine qak ?_
     refine qad ?_
     refine qaw ?_
     refine qaa ?_
     refine qbn ?_
     refine qaf ?_
     refine q_c (fun hc3 => ?_) (fun hc3 => ?_)
     ·
      obtain ⟨a1, a2, a3, a4⟩ := ask_ok (s := s) (c := c1.l) (fl := fl.l) (r := r) (p := st.person) (k := st.zone) (t := t + st.wait) (by omega)
      have a5 := hI.free a1
      have hqg := pers_get hpers (p := st.person) (by omega)
      have a6 := OnlyI.ask (s := s) (c := c1.l) (fl := fl.l) (r := r) (p := st.person) (k := st.zone) (t := t + st.wait) (nz := nz) (by omega) (by omega) hln.1
      refine qbi ?_
      refine qah ?_
      refine qb4 ?_
      refine qah ?_
      refine LJ_case (k := 130) (show _ = Value.bool _ from rfl) (fun hg3 => ?_) (fun hg3 => ?_)
      ·
       replace hg3 := qb hg3
       (exfalso; first | omega | (simp_all; done))
      replace hg3 := qb hg3
      refine LJ_qg (yv_field tb rfl rfl rfl) rfl rfl ?_
      refine ycsab ?_
      refine LJ_qg (yv_field tb rfl rfl rfl) rfl rfl ?_
      refine LJ_qg (yv_field tb rfl rfl rfl) rfl rfl ?_
      refine ycsab ?_
      refine LJ_qg (yv_len tb rfl rfl rfl) rfl rfl ?_
      refine LJ_qg (yv_geq rfl rfl) rfl rfl ?_
      refine ycsad ?_
      refine qah ?_
      refine LJ_case (k := 139) (show _ = Value.bool _ from rfl) (fun hg12 => ?_) (fun hg12 => ?_)
      ·
       replace hg12 := qb hg12
       (exfalso; omega)
      replace hg12 := qb hg12
      refine LJ_qg (yv_field tb rfl rfl rfl) rfl rfl ?_
      refine LJ_qg (yv_field tb rfl rfl rfl) rfl rfl ?_
      refine ycsab ?_
      refine LJ_qg (yv_field tb rfl rfl rfl) rfl rfl ?_
      refine ycsab ?_
      refine LJ_qg (by first | exact yv_index_ro tb rfl rfl rfl rfl (by first | assumption | exact zr (by simp)) (i := st.person.toNat) (by first | rfl | omega | (simp; omega)) (by omega) | exact yv_index tb rfl rfl rfl rfl (i := st.person.toNat) (by first | rfl | omega | (simp; omega)) (by omega)) rfl rfl ?_
      refine LJ_qg (yv_field_eo tb rfl rfl rfl) rfl rfl ?_
      refine LJ_qg (by first | exact yv_load1_ro tb rfl rfl rfl (by first | assumption | exact zr (by simp)) (by assumption) (by rfl) | exact yv_load1 tb rfl rfl rfl (by repeat (first | exact zi0 | apply zi1 | apply zi2)) (by rfl) | exact yv_load1 tb rfl rfl rfl (by repeat (first | exact zi0 | apply zi1 | apply zi2)) (icell_get (by assumption)) | exact yv_load1 tb rfl rfl rfl (by repeat (first | exact zi0 | apply zi1 | apply zi2)) (rcell_get (fun _ => rfl) (by assumption) rfl)) rfl rfl ?_
      refine LJ_qg (yv_neq rfl rfl) rfl rfl ?_
      refine ycsad ?_
      refine qah ?_
      refine LJ_case (k := 150) (show _ = Value.bool _ from rfl) (fun hg23 => ?_) (fun hg23 => ?_)
      ·
       replace hg23 := qb hg23
       (exfalso; omega)
      replace hg23 := qb hg23
      refine LJ_qg (yv_move (show _ = Value.int _ _ from rfl)) rfl rfl ?_
      refine LJ_qg (yv_geq rfl rfl) rfl rfl ?_
      refine ycsad ?_
      refine qaf ?_
      refine q_c (fun hc4 => ?_) (fun hc4 => ?_)
      ·
       (exfalso; omega)
      refine CJ_skip (seqK_normal ?_)
      refine CJ_drawn tb [0, 1, 2, 3, 4, 5, 6] ([Blk.mk b11 _ _]) mixed (by kernel_rfl) (by repeat (first | exact zs0 _ | exact zs1 _ | apply zs2 | apply zs3 | apply zs4 | apply zs5)) ?_
      refine qal ?_
      refine qat ?_
      refine qal ?_
      refine qat ?_
      iterate 3 refine qcg ?_
      refine DJ_nil (seqK_normal (CJ_region ?_))
      refine ycsaa ?_
      refine qak ?_
      refine LJ_nil (blockK_normal (blockK_normal (seqK_normal (CJ_region ?_))))
      refine qar ?_
      refine qaa ?_
      refine qav ?_
      exact q_k ⟨(j + 1, t + st.wait, (st.zone, st.person, -1), _, c1, f1, RK), by dsimp only; omega, a6, hln, hcR, hfR, hRK⟩
     have a6 := ask_err (s := s) (c := c1.l) (fl := fl.l) (r := r) (p := st.person) (k := st.zone) (t := t + st.wait) rfl hc3
     refine CJ_skip (seqK_normal (CJ_region ?_))
     refine ycsaa ?_
     refine qak ?_
     refine LJ_nil (blockK_normal (blockK_normal (seqK_normal (CJ_region ?_))))
     refine qar ?_
     refine qaa ?_
     refine qav ?_
     exact q_k ⟨(j + 1, t + st.wait, (z, fi, sc), askR s c1.l fl.l r st.person st.zone (t + st.wait), c1, f1, RK), by dsimp only; omega, by dsimp only; rw [a6]; exact hI, hln, hcR, hfR, hRK⟩
    refine qbi ?_
    refine qbn ?_
    refine qaz ?_
    refine qaf ?_
    refine CJ_joinS [159, 161] ((⟨fun g => [(159, .bool g)], fun _ => ⟨b11, st.cells, 83⟩ :: ⟨b5, r.cells, 78⟩ :: ⟨b4, sceneC s c1.val fl.val f1.switches.val f1.zones.val f1.reply, 73⟩ :: [], fun _ => RK, fun _ => 0⟩ : Head Bool)) ?_ ?_
    ·
     skip
     refine q_c (fun hc5 => ?_) (fun hc5 => ?_)
     ·
      refine CJ_skip ?_
      exact q_j _
     refine qay ?_
     refine qbn ?_
     refine qaz ?_
     refine qav ?_
     exact q_j _
    rintro kb5 junk
    try dsimp only
    refine q_c (fun hc6 => ?_) (fun hc6 => ?_)
    ·
     refine qae ?_
     refine qab ?_
     refine ycsac ?_
     refine qab ?_
     refine qac ?_
     refine qab ?_
     refine qac ?_
     refine ycsaa ?_
     refine qab ?_
     refine qac ?_
     refine qaa ?_
     refine q_l rfl (Confirm_tri s c1 fl r st.person (t + st.wait) _ _ hAk) ?_
     refine LJ_q (yv_move rfl) rfl ?_
     refine qbs ?_
     refine qbs ?_
     refine qaq ?_
     intro b15
     refine qak ?_
     refine qad ?_
     refine qaw ?_
     refine qaa ?_
     refine qbn ?_
     refine qaf ?_
     refine q_c (fun hc7 => ?_) (fun hc7 => ?_)
     ·
      obtain ⟨a1, a2, a4⟩ := confirm_ok (s := s) (c := c1.l) (fl := fl.l) (r := r) (p := st.person) (t := t + st.wait) (by omega)
      obtain ⟨a3, a7, a8, a9⟩ := hI.held a1.1
      rw [BadPair, a8] at a2
      rw [a3.2.2] at a4
      have hqg := pers_get hpers (p := st.person) (by omega)
      have hfg := pers_get hpers (p := fi) (by omega)
      have a6 := OnlyI.confirm (s := s) (c := c1.l) (fl := fl.l) (r := r) (p := st.person) (t := t + st.wait) (nz := nz) hI (by omega)
      refine CJ_seq (CJ_seq ?_)
      refine ycsak ?_
      refine qao ?_
      refine DJ_q (yv_lss rfl rfl) rfl rfl rfl ?_
      refine qb2 ?_
      refine DJ_case (k := 180) (show _ = Value.bool _ from rfl) (fun hg2 => ?_) (fun hg2 => ?_)
      ·
       replace hg2 := qb hg2
       (exfalso; omega)
      replace hg2 := qb hg2
      refine qal ?_
      refine qat ?_
      refine qal ?_
      refine qal ?_
      refine qat ?_
      refine DJ_q (yv_len tb rfl rfl rfl) rfl rfl rfl ?_
      refine DJ_q (yv_geq rfl rfl) rfl rfl rfl ?_
      refine qbp ?_
      refine qb2 ?_
      refine DJ_case (k := 189) (show _ = Value.bool _ from rfl) (fun hg11 => ?_) (fun hg11 => ?_)
      ·
       replace hg11 := qb hg11
       (exfalso; omega)
      replace hg11 := qb hg11
      refine qal ?_
      refine qal ?_
      refine qat ?_
      refine qal ?_
      refine qat ?_
      refine ycsal ?_
      refine qce ?_
      refine qbl ?_
      refine qal ?_
      refine qal ?_
      refine qat ?_
      refine qao ?_
      refine ycsam ?_
      refine qce ?_
      refine qbl ?_
      refine DJ_q (yv_eql rfl rfl) rfl rfl rfl ?_
      refine qbp ?_
      refine qb2 ?_
      refine DJ_case (k := 207) (show _ = Value.bool _ from rfl) (fun hg29 => ?_) (fun hg29 => ?_)
      ·
       replace hg29 := qb hg29
       (exfalso; omega)
      replace hg29 := qb hg29
      refine qal ?_
      refine ycsan ?_
      refine qal ?_
      refine qat ?_
      refine qal ?_
      refine qat ?_
      refine qao ?_
      refine qao ?_
      refine q_d rfl (Ready_tri s c1 fl z (t + st.wait) _ _ hAk) ?_
      refine DJ_q (yv_neq rfl rfl) rfl rfl rfl ?_
      refine qbp ?_
      refine qbu ?_
      refine q_c (fun hc8 => ?_) (fun hc8 => ?_)
      ·
       (exfalso; omega)
      refine CJ_skip (seqK_normal (CJ_region ?_))
      refine qab ?_
      refine qac ?_
      refine qad ?_
      refine LJ_nil (seqK_normal (CJ_region ?_))
      refine ycsaa ?_
      refine qak ?_
      refine LJ_nil (blockK_normal (blockK_normal (seqK_normal (CJ_region ?_))))
      refine qar ?_
      refine qaa ?_
      refine qav ?_
      exact q_k ⟨(j + 1, t + st.wait, (z, fi, st.person), _, c1, f1, RK), by dsimp only; omega, a6, hln, hcR, hfR, hRK⟩
     have a6 := confirm_err (s := s) (c := c1.l) (fl := fl.l) (r := r) (p := st.person) (t := t + st.wait) rfl hc7
     refine CJ_skip (seqK_normal (CJ_region ?_))
     refine ycsaa ?_
     refine qak ?_
     refine LJ_nil (blockK_normal (blockK_normal (seqK_normal (CJ_region ?_))))
     refine qar ?_
     refine qaa ?_
     refine qav ?_
     exact q_k ⟨(j + 1, t + st.wait, (z, fi, sc), confirmR s c1.l fl.l r st.person (t + st.wait), c1, f1, RK), by dsimp only; omega, by dsimp only; rw [a6]; exact hI, hln, hcR, hfR, hRK⟩
    refine qae ?_
    refine qab ?_
    refine ycsac ?_
    refine qab ?_
    refine qac ?_
    refine qab ?_
    refine qac ?_
    refine ycsaa ?_
    refine qab ?_
    refine ycsae ?_
    refine qaa ?_
    refine LJ_call rfl (Close_tri s c1 fl r f1 (t + st.wait) _ _ hAk hfR (by omega)) rfl ?_
    rintro v L' R' ⟨q2, pc, psw, pz, rp, rfl, ⟨k2, k3, k4⟩, hC, rfl, hR4⟩
    refine LJ_q (yv_move rfl) rfl ?_
    iterate 4 refine qbs ?_
    refine qaq ?_
    intro b17
    refine qaq ?_
    intro b19
    refine qak ?_
    refine qc4 ?_
    refine qak ?_
    refine qad ?_
    refine qco ?_
    refine CJ_frz1 (A := [_, _]) (p := pz) (wd := 1) [] (fun _ => rfl) (by decide) k4 (fun s hs => by cases hs) ?_
    refine CJ_frz1 (A := [_, _]) (p := psw) (wd := 5) [] (fun _ => rfl) (by decide) k3 (fun s hs => by cases hs) ?_
    refine CJ_frz1 (A := [_, _]) (p := pc) (wd := 3) [] (fun _ => rfl) (by decide) k2 (fun s hs => by cases hs) ?_
    obtain ⟨f2, hf2e⟩ : ∃ f2 : XFeeder, f2 = ⟨psw.arr, pz.arr, rp⟩ := ⟨_, rfl⟩
    obtain ⟨R5, hR5e⟩ : ∃ R5, R5 = cusl pc.arr :: swsl psw.arr :: isl pz.arr :: R' := ⟨_, rfl⟩
    have hR5 : ∀ r ∈ R', InR r R5 := fun r hr => inR_self (by rw [hR5e]; exact .tail _ (.tail _ (.tail _ hr)))
    have hc2R : InR (cusl pc.arr) R5 := inR_self (by rw [hR5e]; exact .head _)
    have hf2R : FeederR f2 R5 := by rw [hf2e]; exact ⟨inR_self (by rw [hR5e]; exact .tail _ (.head _)), inR_self (by rw [hR5e]; exact .tail _ (.tail _ (.head _)))⟩
    refine CJ_R (show _ = R5 by rw [hR5e]) ?_
    refine ycsao ?_
    replace hC : CloseIs s c1.l fl.l r f1 (t + st.wait) q2 pc.arr.l f2.switches.l f2.zones.l f2.reply := by rw [hf2e]; exact hC
    obtain ⟨l1, l2, l3⟩ := close_lens hC
    have l4 : pc.l.length = c1.l.length := l1
    refine qay ?_
    refine qaa ?_
    refine qbn ?_
    refine qah ?_
    apply LJ_and (G := [_, _, _, _, _, _, _, _, _, _, _, _, _, _]) (j := 2) (cj := 76) rfl rfl (by rfl) rfl (show _ = Value.bool _ from rfl) rfl
    ·
     intro hg3
     replace hg3 := qb hg3
     obtain ⟨a1, a2, a3⟩ := rclose_ok (s := s) (c := c1.l) (fl := fl.l) (r := r) (f := f1) (t := t + st.wait) (by omega)
     obtain ⟨a4, a5, a6, a7⟩ := hI.held a1.1
     have a8 := spared_of (s := s) (c := c1.l) (c2 := pc.arr.l) (fl := fl.l) (r := r) (f := f1) (f2 := f2) (t := t + st.wait) (q := q2) (by omega) hC
     rw [a4.2.2] at a8
     refine qaa ?_
     refine qaj ?_
     refine qah ?_
     apply LJ_or (G := [_, _]) (j := 5) (cj := 79) rfl rfl (by rfl) rfl (show _ = Value.bool _ from rfl) rfl
     ·
      intro hg6
      replace hg6 := qb hg6
      refine qaa ?_
      refine qaj ?_
      exact qai
     intro junk6
     refine qah ?_
     apply LJ_or (G := [_, _, _, _, _, _]) (j := 9) (cj := 83) rfl rfl (by rfl) rfl (show _ = Value.bool _ from rfl) rfl
     ·
      intro hg10
      replace hg10 := qb hg10
      refine ycsap ?_
      refine qbm ?_
      refine ycsae ?_
      refine qaa ?_
      refine q_l rfl (closes_tri s c1 fl f1 pc.arr f2 z _ _ (hcR.mono (fun r hr => (hR4 r hr).mono hR5)) (hfR.mono (fun r hr => (hR4 r hr).mono hR5)) hc2R hf2R a8) ?_
      refine qb4 ?_
      exact qai
     intro junk10
     exact qai
    intro junk3
    refine qaf ?_
    refine q_c (fun hc9 => ?_) (fun hc9 => ?_)
    ·
     (exfalso; obtain ⟨a1, a2⟩ := hc9; obtain ⟨a3, a4, a5⟩ := rclose_ok (s := s) (c := c1.l) (fl := fl.l) (r := r) (f := f1) (t := t + st.wait) a1; have a6 := hI.held a3.1; rcases a2 with (a2 | a2) | a2 <;> first | omega | (simp at a2; done))
    refine qbo ?_
    refine qaa ?_
    refine qbn ?_
    refine qah ?_
    apply LJ_and (G := [_, _, _, _, _, _]) (j := 2) (cj := 94) rfl rfl (by rfl) rfl (show _ = Value.bool _ from rfl) rfl
    ·
     intro hg3
     replace hg3 := qb hg3
     obtain ⟨a1, a2, a3⟩ := rclose_ok (s := s) (c := c1.l) (fl := fl.l) (r := r) (f := f1) (t := t + st.wait) (by omega)
     obtain ⟨a4, a5, a6, a7⟩ := hI.held a1.1
     have hcg := get_D (l := pc.arr.l) (k := z.toNat) default (by omega)
     refine qbm ?_
     refine qaa ?_
     refine ycsaq ?_
     refine qb0 ?_
     refine qa7 ?_
     refine qb4 ?_
     exact qai
    intro junk3
    refine qaf ?_
    refine q_c (fun hc10 => ?_) (fun hc10 => ?_)
    ·
     refine qay ?_
     iterate 3 refine qad ?_
     refine qaf ?_
     refine ycsaf ?_
     refine ycsag ?_
     refine ycsah ?_
     refine ycsai ?_
     refine qba ?_
     refine qbg ?_
     refine qal ?_
     refine qbw ?_
     refine qal ?_
     refine ycsaj ?_
     refine DJ_nil (blockK_normal (blockK_normal (seqK_normal (CJ_region ?_))))
     refine qar ?_
     refine qaa ?_
     refine qav ?_
     exact q_k ⟨(j + 1, t + st.wait, (-1, -1, -1), q2, pc.arr, f2, R5), by dsimp only; omega, hI.closed hC hc10.1 (by simpa using hc10.2), by dsimp only; omega, hc2R, hf2R, fun r hr => ((hRK r hr).mono hR4).mono hR5⟩
    refine CJ_skip (seqK_normal ?_)
    refine ycsaf ?_
    refine ycsag ?_
    refine ycsah ?_
    refine ycsai ?_
    refine qba ?_
    refine qbg ?_
    refine qal ?_
    refine qbw ?_
    refine qal ?_
    refine ycsaj ?_
    refine DJ_nil (blockK_normal (blockK_normal (seqK_normal (CJ_region ?_))))
    refine qar ?_
    refine qaa ?_
    refine qav ?_
    exact q_k ⟨(j + 1, t + st.wait, (z, fi, sc), q2, pc.arr, f2, R5), by dsimp only; omega, hI.close hC (fun h => hc10.elim (fun h2 => h2 h.1) (fun h2 => absurd (h2.symm.trans h.2) (by decide))), by dsimp only; omega, hc2R, hf2R, fun r hr => ((hRK r hr).mono hR4).mono hR5⟩
   replace hg7 := qb hg7
   iterate 11 refine LJ_skg rfl rfl ?_
   refine ycsad ?_
   refine qaz ?_
   refine qam ?_
   refine qab ?_
   refine qac ?_
   refine LJ_nil (seqK_normal (CJ_block (CJ_seq (CJ_seq (CJ_region ?_)))))
   refine qbn ?_
   refine qaz ?_
   refine qaf ?_
   refine CJ_joinS [107, 109] ((⟨fun g => [(107, .bool g)], fun _ => ⟨b11, st.cells, 83⟩ :: ⟨b5, r.cells, 78⟩ :: ⟨b4, sceneC s c1.val fl.val f1.switches.val f1.zones.val f1.reply, 73⟩ :: [], fun _ => RK, fun _ => 0⟩ : Head Bool)) ?_ ?_
   ·
    skip
    refine q_c (fun hc1 => ?_) (fun hc1 => ?_)
    ·
     refine CJ_skip ?_
     exact q_j _
    refine qay ?_
    refine qbn ?_
    refine qaz ?_
    refine qav ?_
    exact q_j _
   rintro kb1 junk
   try dsimp only
   refine q_c (fun hc2 => ?_) (fun hc2 => ?_)
   ·
    refine qae ?_
    refine qab ?_
    refine ycsac ?_
    refine qab ?_
    refine qac ?_
    refine qab ?_
    refine qac ?_
    refine ycsaa ?_
    refine qab ?_
    refine qac ?_
    refine qab ?_
    refine qac ?_
    refine qaa ?_
    refine q_l rfl (Ask_tri s c1 fl r st.person st.zone (t + st.wait) _ _ hAk) ?_
    refine LJ_q (yv_move rfl) rfl ?_
    refine qbs ?_
    refine qbs ?_
    refine qaq ?_
    intro b13
    refine qak ?_
    refine qad ?_
    refine qaw ?_
    refine qaa ?_
    refine qbn ?_
    refine qaf ?_
    refine q_c (fun hc3 => ?_) (fun hc3 => ?_)
    ·
     obtain ⟨a1, a2, a3, a4⟩ := ask_ok (s := s) (c := c1.l) (fl := fl.l) (r := r) (p := st.person) (k := st.zone) (t := t + st.wait) (by omega)
     have a5 := hI.free a1
     have hqg := pers_get hpers (p := st.person) (by omega)
     have a6 := OnlyI.ask (s := s) (c := c1.l) (fl := fl.l) (r := r) (p := st.person) (k := st.zone) (t := t + st.wait) (nz := nz) (by omega) (by omega) hln.1
     refine qbi ?_
     refine qah ?_
     refine qb4 ?_
     refine qah ?_
     ·
      skip
      (exfalso; first | omega | (simp_all; done))
    have a6 := ask_err (s := s) (c := c1.l) (fl := fl.l) (r := r) (p := st.person) (k := st.zone) (t := t + st.wait) rfl hc3
    refine CJ_skip (seqK_normal (CJ_region ?_))
    refine ycsaa ?_
    refine qak ?_
    refine LJ_nil (blockK_normal (blockK_normal (seqK_normal (CJ_region ?_))))
    refine qar ?_
    refine qaa ?_
    refine qav ?_
    exact q_k ⟨(j + 1, t + st.wait, (z, fi, sc), askR s c1.l fl.l r st.person st.zone (t + st.wait), c1, f1, RK), by dsimp only; omega, by dsimp only; rw [a6]; exact hI, hln, hcR, hfR, hRK⟩
   refine qbi ?_
   refine qbn ?_
   refine qaz ?_
   refine qaf ?_
   refine CJ_joinS [159, 161] ((⟨fun g => [(159, .bool g)], fun _ => ⟨b11, st.cells, 83⟩ :: ⟨b5, r.cells, 78⟩ :: ⟨b4, sceneC s c1.val fl.val f1.switches.val f1.zones.val f1.reply, 73⟩ :: [], fun _ => RK, fun _ => 0⟩ : Head Bool)) ?_ ?_
   ·
    skip
    refine q_c (fun hc5 => ?_) (fun hc5 => ?_)
    ·
     refine CJ_skip ?_
     exact q_j _
    refine qay ?_
    refine qbn ?_
    refine qaz ?_
    refine qav ?_
    exact q_j _
   rintro kb5 junk
   try dsimp only
   refine q_c (fun hc6 => ?_) (fun hc6 => ?_)
   ·
    refine qae ?_
    refine qab ?_
    refine ycsac ?_
    refine qab ?_
    refine qac ?_
    refine qab ?_
    refine qac ?_
    refine ycsaa ?_
    refine qab ?_
    refine qac ?_
    refine qaa ?_
    refine q_l rfl (Confirm_tri s c1 fl r st.person (t + st.wait) _ _ hAk) ?_
    refine LJ_q (yv_move rfl) rfl ?_
    refine qbs ?_
    refine qbs ?_
    refine qaq ?_
    intro b15
    refine qak ?_
    refine qad ?_
    refine qaw ?_
    refine qaa ?_
    refine qbn ?_
    refine qaf ?_
    refine q_c (fun hc7 => ?_) (fun hc7 => ?_)
    ·
     obtain ⟨a1, a2, a4⟩ := confirm_ok (s := s) (c := c1.l) (fl := fl.l) (r := r) (p := st.person) (t := t + st.wait) (by omega)
     obtain ⟨a3, a7, a8, a9⟩ := hI.held a1.1
     rw [BadPair, a8] at a2
     rw [a3.2.2] at a4
     have hqg := pers_get hpers (p := st.person) (by omega)
     have hfg := pers_get hpers (p := fi) (by omega)
     have a6 := OnlyI.confirm (s := s) (c := c1.l) (fl := fl.l) (r := r) (p := st.person) (t := t + st.wait) (nz := nz) hI (by omega)
     refine CJ_seq (CJ_seq ?_)
     refine ycsak ?_
     refine qao ?_
     refine DJ_q (yv_lss rfl rfl) rfl rfl rfl ?_
     refine qb2 ?_
     refine DJ_case (k := 180) (show _ = Value.bool _ from rfl) (fun hg2 => ?_) (fun hg2 => ?_)
     ·
      replace hg2 := qb hg2
      (exfalso; omega)
     replace hg2 := qb hg2
     refine qal ?_
     refine qat ?_
     refine qal ?_
     refine qal ?_
     refine qat ?_
     refine DJ_q (yv_len tb rfl rfl rfl) rfl rfl rfl ?_
     refine DJ_q (yv_geq rfl rfl) rfl rfl rfl ?_
     refine qbp ?_
     refine qb2 ?_
     refine DJ_case (k := 189) (show _ = Value.bool _ from rfl) (fun hg11 => ?_) (fun hg11 => ?_)
     ·
      replace hg11 := qb hg11
      (exfalso; omega)
     replace hg11 := qb hg11
     refine qal ?_
     refine qal ?_
     refine qat ?_
     refine qal ?_
     refine qat ?_
     refine ycsal ?_
     refine qce ?_
     refine qbl ?_
     refine qal ?_
     refine qal ?_
     refine qat ?_
     refine qao ?_
     refine ycsam ?_
     refine qce ?_
     refine qbl ?_
     refine DJ_q (yv_eql rfl rfl) rfl rfl rfl ?_
     refine qbp ?_
     refine qb2 ?_
     refine DJ_case (k := 207) (show _ = Value.bool _ from rfl) (fun hg29 => ?_) (fun hg29 => ?_)
     ·
      replace hg29 := qb hg29
      (exfalso; omega)
     replace hg29 := qb hg29
     refine qal ?_
     refine ycsan ?_
     refine qal ?_
     refine qat ?_
     refine qal ?_
     refine qat ?_
     refine qao ?_
     refine qao ?_
     refine q_d rfl (Ready_tri s c1 fl z (t + st.wait) _ _ hAk) ?_
     refine DJ_q (yv_neq rfl rfl) rfl rfl rfl ?_
     refine qbp ?_
     refine qbu ?_
     refine q_c (fun hc8 => ?_) (fun hc8 => ?_)
     ·
      (exfalso; omega)
     refine CJ_skip (seqK_normal (CJ_region ?_))
     refine qab ?_
     refine qac ?_
     refine qad ?_
     refine LJ_nil (seqK_normal (CJ_region ?_))
     refine ycsaa ?_
     refine qak ?_
     refine LJ_nil (blockK_normal (blockK_normal (seqK_normal (CJ_region ?_))))
     refine qar ?_
     refine qaa ?_
     refine qav ?_
     exact q_k ⟨(j + 1, t + st.wait, (z, fi, st.person), _, c1, f1, RK), by dsimp only; omega, a6, hln, hcR, hfR, hRK⟩
    have a6 := confirm_err (s := s) (c := c1.l) (fl := fl.l) (r := r) (p := st.person) (t := t + st.wait) rfl hc7
    refine CJ_skip (seqK_normal (CJ_region ?_))
    refine ycsaa ?_
    refine qak ?_
    refine LJ_nil (blockK_normal (blockK_normal (seqK_normal (CJ_region ?_))))
    refine qar ?_
    refine qaa ?_
    refine qav ?_
    exact q_k ⟨(j + 1, t + st.wait, (z, fi, sc), confirmR s c1.l fl.l r st.person (t + st.wait), c1, f1, RK), by dsimp only; omega, by dsimp only; rw [a6]; exact hI, hln, hcR, hfR, hRK⟩
   refine qae ?_
   refine qab ?_
   refine ycsac ?_
   refine qab ?_
   refine qac ?_
   refine qab ?_
   refine qac ?_
   refine ycsaa ?_
   refine qab ?_
   refine ycsae ?_
   refine qaa ?_
   refine LJ_call rfl (Close_tri s c1 fl r f1 (t + st.wait) _ _ hAk hfR (by omega)) rfl ?_
   rintro v L' R' ⟨q2, pc, psw, pz, rp, rfl, ⟨k2, k3, k4⟩, hC, rfl, hR4⟩
   refine LJ_q (yv_move rfl) rfl ?_
   iterate 4 refine qbs ?_
   refine qaq ?_
   intro b17
   refine qaq ?_
   intro b19
   refine qak ?_
   refine qc4 ?_
   refine qak ?_
   refine qad ?_
   refine qco ?_
   refine CJ_frz1 (A := [_, _]) (p := pz) (wd := 1) [] (fun _ => rfl) (by decide) k4 (fun s hs => by cases hs) ?_
   refine CJ_frz1 (A := [_, _]) (p := psw) (wd := 5) [] (fun _ => rfl) (by decide) k3 (fun s hs => by cases hs) ?_
   refine CJ_frz1 (A := [_, _]) (p := pc) (wd := 3) [] (fun _ => rfl) (by decide) k2 (fun s hs => by cases hs) ?_
   obtain ⟨f2, hf2e⟩ : ∃ f2 : XFeeder, f2 = ⟨psw.arr, pz.arr, rp⟩ := ⟨_, rfl⟩
   obtain ⟨R5, hR5e⟩ : ∃ R5, R5 = cusl pc.arr :: swsl psw.arr :: isl pz.arr :: R' := ⟨_, rfl⟩
   have hR5 : ∀ r ∈ R', InR r R5 := fun r hr => inR_self (by rw [hR5e]; exact .tail _ (.tail _ (.tail _ hr)))
   have hc2R : InR (cusl pc.arr) R5 := inR_self (by rw [hR5e]; exact .head _)
   have hf2R : FeederR f2 R5 := by rw [hf2e]; exact ⟨inR_self (by rw [hR5e]; exact .tail _ (.head _)), inR_self (by rw [hR5e]; exact .tail _ (.tail _ (.head _)))⟩
   refine CJ_R (show _ = R5 by rw [hR5e]) ?_
   refine ycsao ?_
   replace hC : CloseIs s c1.l fl.l r f1 (t + st.wait) q2 pc.arr.l f2.switches.l f2.zones.l f2.reply := by rw [hf2e]; exact hC
   obtain ⟨l1, l2, l3⟩ := close_lens hC
   have l4 : pc.l.length = c1.l.length := l1
   refine qay ?_
   refine qaa ?_
   refine qbn ?_
   refine qah ?_
   apply LJ_and (G := [_, _, _, _, _, _, _, _, _, _, _, _, _, _]) (j := 2) (cj := 76) rfl rfl (by rfl) rfl (show _ = Value.bool _ from rfl) rfl
   ·
    intro hg3
    replace hg3 := qb hg3
    obtain ⟨a1, a2, a3⟩ := rclose_ok (s := s) (c := c1.l) (fl := fl.l) (r := r) (f := f1) (t := t + st.wait) (by omega)
    obtain ⟨a4, a5, a6, a7⟩ := hI.held a1.1
    have a8 := spared_of (s := s) (c := c1.l) (c2 := pc.arr.l) (fl := fl.l) (r := r) (f := f1) (f2 := f2) (t := t + st.wait) (q := q2) (by omega) hC
    rw [a4.2.2] at a8
    refine qaa ?_
    refine qaj ?_
    refine qah ?_
    apply LJ_or (G := [_, _]) (j := 5) (cj := 79) rfl rfl (by rfl) rfl (show _ = Value.bool _ from rfl) rfl
    ·
     intro hg6
     replace hg6 := qb hg6
     refine qaa ?_
     refine qaj ?_
     exact qai
    intro junk6
    refine qah ?_
    apply LJ_or (G := [_, _, _, _, _, _]) (j := 9) (cj := 83) rfl rfl (by rfl) rfl (show _ = Value.bool _ from rfl) rfl
    ·
     intro hg10
     replace hg10 := qb hg10
     refine ycsap ?_
     refine qbm ?_
     refine ycsae ?_
     refine qaa ?_
     refine q_l rfl (closes_tri s c1 fl f1 pc.arr f2 z _ _ (hcR.mono (fun r hr => (hR4 r hr).mono hR5)) (hfR.mono (fun r hr => (hR4 r hr).mono hR5)) hc2R hf2R a8) ?_
     refine qb4 ?_
     exact qai
    intro junk10
    exact qai
   intro junk3
   refine qaf ?_
   refine q_c (fun hc9 => ?_) (fun hc9 => ?_)
   ·
    (exfalso; obtain ⟨a1, a2⟩ := hc9; obtain ⟨a3, a4, a5⟩ := rclose_ok (s := s) (c := c1.l) (fl := fl.l) (r := r) (f := f1) (t := t + st.wait) a1; have a6 := hI.held a3.1; rcases a2 with (a2 | a2) | a2 <;> first | omega | (simp at a2; done))
   refine qbo ?_
   refine qaa ?_
   refine qbn ?_
   refine qah ?_
   apply LJ_and (G := [_, _, _, _, _, _]) (j := 2) (cj := 94) rfl rfl (by rfl) rfl (show _ = Value.bool _ from rfl) rfl
   ·
    intro hg3
    replace hg3 := qb hg3
    obtain ⟨a1, a2, a3⟩ := rclose_ok (s := s) (c := c1.l) (fl := fl.l) (r := r) (f := f1) (t := t + st.wait) (by omega)
    obtain ⟨a4, a5, a6, a7⟩ := hI.held a1.1
    have hcg := get_D (l := pc.arr.l) (k := z.toNat) default (by omega)
    refine qbm ?_
    refine qaa ?_
    refine ycsaq ?_
    refine qb0 ?_
    refine qa7 ?_
    refine qb4 ?_
    exact qai
   intro junk3
   refine qaf ?_
   refine q_c (fun hc10 => ?_) (fun hc10 => ?_)
   ·
    refine qay ?_
    iterate 3 refine qad ?_
    refine qaf ?_
    refine ycsaf ?_
    refine ycsag ?_
    refine ycsah ?_
    refine ycsai ?_
    refine qba ?_
    refine qbg ?_
    refine qal ?_
    refine qbw ?_
    refine qal ?_
    refine ycsaj ?_
    refine DJ_nil (blockK_normal (blockK_normal (seqK_normal (CJ_region ?_))))
    refine qar ?_
    refine qaa ?_
    refine qav ?_
    exact q_k ⟨(j + 1, t + st.wait, (-1, -1, -1), q2, pc.arr, f2, R5), by dsimp only; omega, hI.closed hC hc10.1 (by simpa using hc10.2), by dsimp only; omega, hc2R, hf2R, fun r hr => ((hRK r hr).mono hR4).mono hR5⟩
   refine CJ_skip (seqK_normal ?_)
   refine ycsaf ?_
   refine ycsag ?_
   refine ycsah ?_
   refine ycsai ?_
   refine qba ?_
   refine qbg ?_
   refine qal ?_
   refine qbw ?_
   refine qal ?_
   refine ycsaj ?_
   refine DJ_nil (blockK_normal (blockK_normal (seqK_normal (CJ_region ?_))))
   refine qar ?_
   refine qaa ?_
   refine qav ?_
   exact q_k ⟨(j + 1, t + st.wait, (z, fi, sc), q2, pc.arr, f2, R5), by dsimp only; omega, hI.close hC (fun h => hc10.elim (fun h2 => h2 h.1) (fun h2 => absurd (h2.symm.trans h.2) (by decide))), by dsimp only; omega, hc2R, hf2R, fun r hr => ((hRK r hr).mono hR4).mono hR5⟩
  obtain rfl : j = p.l.length := by omega
  refine qbk ?_
  refine q_l rfl (awake21_tri _ _) ?_
  refine qaz ?_
  refine qa0 ?_
  refine retK_ret (L' := []) (R' := R) (res1 rfl (rv_tmp (show _ = Value.bool _ from rfl))) ?hp ?hL ?hR
  case hp => exact ⟨rfl, rfl, rfl⟩
  case hL => exact (by repeat (first | exact zs0 _ | exact zs1 _ | apply zs2 | apply zs3 | apply zs4 | apply zs5))
  case hR => exact fun r hr => (hRR r hr).mono hRK
end Go.Proofs.Ytkpfjmibipblhaa
