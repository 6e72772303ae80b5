/-
  Statements about chapter 12: errors; what is found is accepted. By an AI agent; no person has read it.
-/
import Derived.Test.YtjjfpglgonpciaaLaw12a
set_option linter.unusedSimpArgs false
set_option linter.unusedVariables false
namespace Go.Proofs.Ytjjfpglgonpciaa
open Go.Aw Go
set_option maxRecDepth 20000
attribute [local irreducible] CJ LJ DJ Tri YV Gives seqK blockK loopK retK RV mergeK OwL.L

theorem relaxErrors_law (a0 : XAir) (s0 : XSetting) (l0 y : Arr Int) (R : List Sl) (hm0 : AirR a0 R) (hs0 : SetR s0 R) (hl0 : InR (isl l0) R) (_ : ∀ n ∈ l0.l, I64 n) (hy : CodesR y R) :
    Tri Try.prog 6 [a0.val, s0.val, l0.val, y.val].toArray [] R (fun v L' R' => v = .bool true ∧ [] = L' ∧ R = R') := by
  obtain ⟨A0, hA0⟩ := airy_ex a0.mine
  have hmp := hm0.places
  have hmr := hm0.roads
  have hmf := hm0.fans
  have hmd := hm0.doors
  refine tri_enter 114 Try.call6 Try.func6 rfl rfl rfl ?_
  refine qae ?_
  refine qax ?_
  intro b4
  refine qax ?_
  intro b5
  refine qaz ?_
  refine qaw ?_
  refine qab ?_
  refine qab ?_
  refine qac ?_
  refine qag ?_
  refine qa5 ?_
  refine qah ?_
  apply LJ_or (G := [_, _, _, _, _]) (j := 5) (cj := 29) rfl rfl (by rfl) rfl (show _ = Value.bool _ from rfl) rfl
  ·
   intro hg6
   replace hg6 := qb hg6
   refine qab ?_
   refine qab ?_
   refine qac ?_
   refine qag ?_
   refine qa5 ?_
   exact qai
  intro junk6
  refine qah ?_
  apply LJ_or (G := [_, _, _, _]) (j := 12) (cj := 36) rfl rfl (by rfl) rfl (show _ = Value.bool _ from rfl) rfl
  ·
   intro hg13
   replace hg13 := qb hg13
   refine qab ?_
   refine qac ?_
   refine qag ?_
   refine qa5 ?_
   exact qai
  intro junk13
  refine qah ?_
  apply LJ_or (G := [_, _, _, _]) (j := 18) (cj := 42) rfl rfl (by rfl) rfl (show _ = Value.bool _ from rfl) rfl
  ·
   intro hg19
   replace hg19 := qb hg19
   refine qab ?_
   refine qac ?_
   refine qag ?_
   refine qa5 ?_
   exact qai
  intro junk19
  refine qaf ?_
  refine q_c (fun hc0 => ?_) (fun hc0 => ?_)
  ·
   refine qae ?_
   refine q_l rfl (awake12_tri _ _) ?_
   refine qaz ?_
   refine qbh ?_
   refine retK_ret (L' := []) (R' := R) (res1 rfl (rv_tmp (show _ = Value.bool _ from rfl))) ?hp ?hL ?hR
   case hp => exact ⟨rfl, rfl, rfl⟩
   case hL => exact List.nil_sublist _
   case hR => exact fun r hr => inR_self hr
  ·
   refine qbv ?_
   refine qa8 ?_
   refine qbe ?_
   refine qbm ?_
   refine LJ_call rfl (relRise0 a0 s0 l0 A0 _ _ hm0 hs0 hl0 (fun _ => hA0)) rfl ?_
   rintro v L' R' ⟨p1, rfl, o1, e1, rfl, rfl⟩
   refine LJ_q (yv_move rfl) rfl ?_
   refine qbs ?_
   refine qbs ?_
   refine qc4 ?_
   refine qad ?_
   refine qam ?_
   refine qa8 ?_
   refine qbe ?_
   refine qbm ?_
   refine LJ_call rfl (ref12rise_tri a0 s0 l0 A0 _ _ hm0 hs0 hl0 (fun _ => hA0)) rfl ?_
   rintro v L' R' ⟨p2, rfl, o2, e2, rfl, rfl⟩
   refine LJ_q (yv_move rfl) rfl ?_
   refine qbs ?_
   refine qbs ?_
   refine qc4 ?_
   refine qad ?_
   refine qa4 ?_
   refine CJ_weak (sub_app_skip (sub_app_skip (List.Sublist.refl _))) (fun r h => inR_self h) ?_
   refine qay ?_
   refine qbm ?_
   refine LJ_call rfl (new_tri y _ _ hy) rfl ?_
   rintro v L' R' ⟨c, rfl, hx, rfl, rfl⟩
   refine LJ_call rfl (made1 (.consL (.consB (.consB .nil))) hx (Nat.zero_le _)) rfl ?_
   rintro v L' R' ⟨m, k1, S, rfl, hm, hMA, hif, hid, hk1, rfl, rfl⟩
   simp only [List.append_assoc, List.cons_append, List.nil_append]
   refine LJ_q (yv_move rfl) rfl ?_
   refine qbs ?_
   refine qbs ?_
   refine qbs ?_
   refine qaq ?_
   intro b13
   refine qaq ?_
   intro b14
   refine qaq ?_
   intro b15
   refine qak ?_
   refine qak ?_
   refine qak ?_
   refine qa4 ?_
   refine CJ_made (A := [_, _]) hm hMA (fun f hf => (hif f hf).mono fun r hr => inR_self (by simp [hr])) (fun f hf => (hid f hf).mono fun r hr => inR_self (by simp [hr])) fun a s x R1 hMA hA hT hX hR1 => ?_
   refine qb1 ?_
   have hR0 : ∀ r ∈ R, InR r R1 := fun r hr => hR1 r (by simp [hr])
   have hs1 := setR_mono hs0 hR0
   have hl1 := hl0.mono hR0
   obtain ⟨A, hAA⟩ := airy_ex a.mine
   refine qay ?_
   refine qa8 ?_
   refine qbe ?_
   refine qbm ?_
   refine LJ_call rfl (relFall0 a s0 l0 A _ _ hA hs1 hl1 (fun _ => hAA)) rfl ?_
   rintro v L' R' ⟨p3, rfl, o3, e3, rfl, rfl⟩
   refine LJ_q (yv_move rfl) rfl ?_
   refine qbs ?_
   refine qbs ?_
   refine qc4 ?_
   refine qad ?_
   refine qam ?_
   refine qa8 ?_
   refine qbe ?_
   refine qbm ?_
   refine LJ_call rfl (ref12fall_tri a s0 l0 A _ _ hA hs1 hl1 (fun _ => hAA)) rfl ?_
   rintro v L' R' ⟨p4, rfl, o4, e4, rfl, rfl⟩
   refine LJ_q (yv_move rfl) rfl ?_
   refine qbs ?_
   refine qbs ?_
   refine qc4 ?_
   refine qad ?_
   refine qam ?_
   refine qa8 ?_
   refine qbe ?_
   refine qbm ?_
   refine LJ_call rfl (relFall0 a s l0 A _ _ hA hT hl1 (fun _ => hAA)) rfl ?_
   rintro v L' R' ⟨p5, rfl, o5, e5, rfl, rfl⟩
   refine LJ_q (yv_move rfl) rfl ?_
   refine qbs ?_
   refine qbs ?_
   refine qc4 ?_
   refine qad ?_
   refine qam ?_
   refine qa8 ?_
   refine qbe ?_
   refine qbm ?_
   refine LJ_call rfl (ref12fall_tri a s l0 A _ _ hA hT hl1 (fun _ => hAA)) rfl ?_
   rintro v L' R' ⟨p6, rfl, o6, e6, rfl, rfl⟩
   refine LJ_q (yv_move rfl) rfl ?_
   refine qbs ?_
   refine qbs ?_
   refine qc4 ?_
   refine qad ?_
   refine qam ?_
   refine qaa ?_
   refine qaa ?_
   refine qbn ?_
   refine qah ?_
   apply LJ_and (G := [_, _, _]) (j := 3) (cj := 101) rfl rfl (by rfl) rfl (show _ = Value.bool _ from rfl) rfl
   ·
    intro hg4
    replace hg4 := qb hg4
    refine qaa ?_
    refine qaa ?_
    refine qbn ?_
    exact qai
   intro junk4
   refine qah ?_
   apply LJ_and (G := [_, _, _]) (j := 8) (cj := 106) rfl rfl (by rfl) rfl (show _ = Value.bool _ from rfl) rfl
   ·
    intro hg9
    replace hg9 := qb hg9
    refine qaa ?_
    refine qaa ?_
    refine qbn ?_
    exact qai
   intro junk9
   refine qah ?_
   apply LJ_and (G := [_]) (j := 13) (cj := 111) rfl rfl (by rfl) rfl (show _ = Value.bool _ from rfl) rfl
   ·
    intro hg14
    replace hg14 := qb hg14
    refine q_l rfl (awake12_tri _ _) ?_
    exact qai
   intro junk14
   refine qaz ?_
   refine qa0 ?_
   refine retK_ret (L' := []) (R' := R) (res1 rfl (rv_tmp (show _ = Value.bool _ from rfl))) ?hp ?hL ?hR
   case hp => exact ⟨by simp, rfl, rfl⟩
   case hL => exact List.nil_sublist _
   case hR => exact hR0

theorem relaxAccepted_law (y : Arr Int) (R : List Sl) (hy : CodesR y R) :
    Tri Try.prog 10 [y.val].toArray [] R (fun v L' R' => v = .bool true ∧ [] = L' ∧ R = R') := by
  refine tri_enter 102 Try.call10 Try.func10 rfl rfl rfl ?_
  refine qae ?_
  refine qaz ?_
  refine qam ?_
  refine qbm ?_
  refine LJ_call rfl (new_tri y _ _ hy) rfl ?_
  rintro v L' R' ⟨c, rfl, hx, rfl, rfl⟩
  refine LJ_call rfl (made1 (.consL .nil) hx (Nat.zero_le _)) rfl ?_
  rintro v L' R' ⟨m, k1, S, rfl, hm, hMA, hif, hid, hk1, rfl, rfl⟩
  simp only [List.append_assoc, List.cons_append, List.nil_append]
  refine LJ_q (yv_move rfl) rfl ?_
  refine qbs ?_
  refine qbs ?_
  refine qbs ?_
  refine qaq ?_
  intro b3
  refine qaq ?_
  intro b4
  refine qaq ?_
  intro b5
  refine qak ?_
  refine qak ?_
  refine qak ?_
  refine qa4 ?_
  refine CJ_made (A := []) hm hMA (fun f hf => (hif f hf).mono fun r hr => inR_self (by simp [hr])) (fun f hf => (hid f hf).mono fun r hr => inR_self (by simp [hr])) fun a s x R1 hMA hA hT hX hR1 => ?_
  refine qb1 ?_
  obtain ⟨_, hae, hF, hri, hfo⟩ := hMA.b
  have hx1 : CodesR (codes300 y) R1 := hx.mono fun r hr => hR1 r (by simp [hr])
  have hR0 : ∀ r ∈ R, InR r R1 := fun r hr => hR1 r (by simp [hr])
  have hnp := hMA.nplaces
  have hnr := hMA.nroads
  have hnf := hMA.nfans
  have hnd := hMA.ndoors
  have hpn := hF.plen
  have hfn := hF.flen
  obtain ⟨A, hAA⟩ := airy_ex a.mine
  have hAl := hAA.length
  refine qay ?_
  refine qa8 ?_
  refine qbe ?_
  refine LJ_call rfl (relSolve_tri a s A _ _ hA hT (fun _ => hAA) (by omega)) rfl ?_
  rintro v L' R' ⟨lo, hi, rfl, h1, h2, h3, h4, rfl, rfl⟩
  refine LJ_q (yv_move rfl) rfl ?_
  refine qbs ?_
  refine qbs ?_
  refine qaq ?_
  intro b6
  refine qak ?_
  refine qad ?_
  refine qco ?_
  refine CJ_frz1 (A := [_]) (wd := 1) [] (fun _ => rfl) (by decide) h1 (fun s hs => by cases hs) ?_
  refine qb1 ?_
  refine CJ_frz1 (A := [_]) (wd := 1) [] (fun _ => rfl) (by decide) h2 (fun s hs => by cases hs) ?_
  refine qb1 ?_
  have hR2 : ∀ r ∈ R1, InR r (isl hi.arr :: isl lo.arr :: R1) := fun r hr => inR_self (by simp [hr])
  have hB2 : BoundsR ⟨lo.arr, hi.arr⟩ (isl hi.arr :: isl lo.arr :: R1) := ⟨inR_self (.tail _ (.head _)), inR_self (.head _)⟩
  obtain ⟨R2, hR2e⟩ : ∃ R2, R2 = isl hi.arr :: isl lo.arr :: R1 := ⟨_, rfl⟩
  rw [← hR2e] at hR2 hB2 ⊢
  have hA2 := airR_mono hA hR2
  have hT2 := setR_mono hT hR2
  have hX2 := stateR_mono hX hR2
  have hsf := solve_facts (A := A) hMA.err hMA.fit
  refine qay ?_
  refine qaa ?_
  refine qbq ?_
  refine qaf ?_
  refine q_c (fun hc0 => ?_) (fun hc0 => ?_)
  ·
   have hs2 : (solveS a s A).1 = 2 := by rcases hsf with h | h; exact absurd h.1 hc0; exact h
   refine CJ_seq ?_
   rw [hs2]
   refine qay ?_
   refine qaa ?_
   refine qbn ?_
   refine qah ?_
   apply LJ_and (G := [_]) (j := 2) (cj := 28) rfl rfl (by rfl) rfl (show _ = Value.bool _ from rfl) rfl
   ·
    intro hg3
    replace hg3 := qb hg3
    refine q_l rfl (awake12_tri _ _) ?_
    exact qai
   intro junk3
   refine qaz ?_
   refine qbh ?_
   refine retK_ret (L' := []) (R' := R) (res1 rfl (rv_tmp (show _ = Value.bool _ from rfl))) ?hp ?hL ?hR
   case hp => exact ⟨rfl, rfl, rfl⟩
   case hL => exact List.nil_sublist _
   case hR => exact fun r hr => (hR0 r hr).mono hR2
  ·
   have hs0 : (solveS a s A).1 = 0 := by omega
   have hS : Solved a s A lo.l hi.l := by rcases hsf with h | h; rw [h3, h4]; exact h.2; omega
   have hAc := hS.accept (b := ⟨lo.arr, hi.arr⟩) rfl rfl
   have hck := accept_iff.2 hAc
   have hl1 := hS.lok.hl
   have hl2 := hS.hok.hl
   refine qbo ?_
   refine qa8 ?_
   refine qbe ?_
   refine qbe ?_
   refine LJ_call rfl (cert_tri a s ⟨lo.arr, hi.arr⟩ A _ _ hA2 hT2 hB2 (fun _ => hAA)) rfl ?_
   rintro v L' R' ⟨S1, rfl, rfl, rfl⟩
   rw [hck]
   have hR3 : ∀ r ∈ R2, InR r (S1 ++ R2) := fun r hr => inR_self (by simp [hr])
   have hA3 := airR_mono hA2 hR3
   have hB3 := boundsR_mono hB2 hR3
   have hxp := (stateR_mono hX2 hR3).pres
   have hbl := hB3.low
   have hbh := hB3.high
   refine qbq ?_
   refine qah ?_
   apply LJ_or (G := [_, _, _, _, _, _, _]) (j := 5) (cj := 36) rfl rfl (by rfl) rfl (show _ = Value.bool _ from rfl) rfl
   ·
    intro hg6
    replace hg6 := qb hg6
    refine qab ?_
    refine qac ?_
    refine qag ?_
    refine qab ?_
    refine qac ?_
    refine qag ?_
    refine qbq ?_
    exact qai
   intro junk6
   refine qah ?_
   apply LJ_or (G := [_, _, _, _, _, _, _]) (j := 14) (cj := 45) rfl rfl (by rfl) rfl (show _ = Value.bool _ from rfl) rfl
   ·
    intro hg15
    replace hg15 := qb hg15
    refine qab ?_
    refine qac ?_
    refine qag ?_
    refine qab ?_
    refine qac ?_
    refine qag ?_
    refine qbq ?_
    exact qai
   intro junk15
   refine qaf ?_
   refine q_c (fun hc1 => ?_) (fun hc1 => ?_)
   ·
    (exfalso; rcases hc1 with (h | h) | h; exact h trivial; omega; omega)
   ·
    refine qbv ?_
    refine qab ?_
    refine qbe ?_
    refine LJ_call rfl (airy_tri a.mine _ _ hA3.mineR hae.mine) rfl ?_
    rintro v L' R' ⟨p, rfl, hpk, hpA, rfl, rfl⟩
    have hpl : p.l = A := hpA.unique hAA
    have hpl2 : p.l.length = a.mine.places.l.length := by rw [hpl]; exact hAl
    refine qc4 ?_
    refine qco ?_
    refine CJ_turn fun cc w hst => ⟨_, _, hst.perm List.perm_append_comm, ?_⟩
    refine qay ?_
    refine qab ?_
    refine qac ?_
    refine qag ?_
    refine qaa ?_
    refine qa2 ?_
    refine CJ_forget [(6, Value.pointer _), (8, Value.slice _ _ _), (58, Value.slice _ _ _), (59, Value.int _ _), (60, Value.int _ _)] (by repeat' (first | exact trivial | refine And.intro rfl ?_)) fun tq0 => ?_
    refine q_s [2, 9, 10, 60, 61, 62, 63, 64, 65, 66, 67, 68, 69, 70, 71, 72, 73, 74, 75, 76, 77, 78, 79, 80, 81, 82, 83, 84, 85, 86, 87, 88, 89, 90, 91, 92, 93, 94, 95, 96, 97, 98, 99, 100] (fun g : {k : Nat // k ≤ x.pres.l.length} => [(60, .int .i64 ((g.1 : Nat) : Int))]) (fun g => x.pres.l.length - g.1) (⟨0, by omega⟩) ?_
    rintro ⟨k, hk⟩ junk
    try dsimp only
    refine qae ?_
    refine qaj ?_
    refine qa4 ?_
    refine q_c (fun hc2 => ?_) (fun hc2 => ?_)
    ·
     have g1 := get_D (l := x.pres.l) (k := k) 0 (by omega)
     have g2 : p.l[k]? = some (A.getD k false) := by rw [hpl]; exact get_D false (by omega)
     have g3 := get_D (l := lo.l) (k := k) 0 (by omega)
     have g4 := get_D (l := hi.l) (k := k) 0 (by omega)
     have g5 := hS.le k
     refine qbb ?_
     refine qaa ?_
     refine LJ_q (by first | exact yv_index_ro tb rfl rfl rfl rfl (by first | assumption | exact zr (by simp)) (i := k) (by first | rfl | omega | (simp; omega)) (by omega) | exact yv_index tb rfl rfl rfl rfl (i := k) (by first | rfl | omega | (simp; omega)) (by omega)) rfl ?_
     refine qa7 ?_
     refine qad ?_
     refine qad ?_
     refine qa4 ?_
     refine CJ_drawn tb [0, 1, 2, 3, 4, 5, 6, 7, 8, 9, 10, 11, 12, 13, 14, 15, 16, 17, 18, 19, 20, 21, 22, 23, 24, 25, 26, 27, 28, 29, 30, 31, 32, 33, 34] ((p.L 4 blc ++ (⟨b6, [lo.val, hi.val], 41⟩ :: []))) mixed (by kernel_rfl) (by repeat (first | exact zs0 _ | exact zs1 _ | apply zs2 | apply zs3 | apply zs4 | apply zs5)) ?_
     refine qal ?_
     refine qat ?_
     refine qao ?_
     refine qds ?_
     refine qbl ?_
     refine qal ?_
     refine qat ?_
     refine qao ?_
     refine qds ?_
     refine qbl ?_
     refine DJ_q (yv_gtr rfl rfl) rfl rfl rfl ?_
     refine qb2 ?_
     refine DJ_case (k := 76) (show _ = Value.bool _ from rfl) (fun hg11 => ?_) (fun hg11 => ?_)
     ·
      replace hg11 := qb hg11
      exact absurd hg11 (by omega)
     ·
      replace hg11 := qb hg11
      refine DJ_q (yv_move (show _ = Value.slice _ _ _ from rfl)) rfl rfl rfl ?_
      refine qao ?_
      refine DJ_q (yv_index_ow tb (p) _ rfl rfl rfl rfl (by assumption) (i := k) (by first | rfl | omega | (simp; omega)) (by first | omega | (dsimp only; omega) | (dsimp only; rw [List.length_set]; omega))) rfl rfl rfl ?_
      refine DJ_q (yv_load1_ow tb (p) rfl rfl rfl (by repeat (first | apply OSeg.cons | exact OSeg.here | exact OSeg.last | exact OSeg.at (by assumption) | apply OSeg.app)) (by assumption) (fun _ => rfl) (by assumption) (by rfl)) rfl rfl rfl ?_
      refine qb2 ?_
      refine DJ_case (k := 81) (show _ = Value.bool _ from rfl) (fun hg16 => ?_) (fun hg16 => ?_)
      ·
       replace hg16 := qb hg16
       have e5 : lo.l.getD k 0 ≤ x.pres.l.getD k 0 ∧ x.pres.l.getD k 0 ≤ hi.l.getD k 0 := hAc.holds hF hAA (u := k) (by omega) hg16
       refine qao ?_
       refine qal ?_
       refine qat ?_
       refine qao ?_
       refine qds ?_
       refine qbl ?_
       refine DJ_q (yv_lss rfl rfl) rfl rfl rfl ?_
       refine qb2 ?_
       refine DJ_case (k := 89) (show _ = Value.bool _ from rfl) (fun hg24 => ?_) (fun hg24 => ?_)
       ·
        replace hg24 := qb hg24
        exact absurd hg24 (by omega)
       ·
        replace hg24 := qb hg24
        refine qao ?_
        refine qal ?_
        refine qat ?_
        refine qao ?_
        refine qds ?_
        refine qbl ?_
        refine DJ_q (yv_gtr rfl rfl) rfl rfl rfl ?_
        refine qbp ?_
        refine qbp ?_
        refine qbp ?_
        refine qbu ?_
        refine q_c (fun hc3 => ?_) (fun hc3 => ?_)
        ·
         (exfalso; first | omega | simp at hc3)
        ·
         refine qbj ?_
         refine qar ?_
         refine qaa ?_
         refine qav ?_
         exact q_k (⟨k + 1, by omega⟩)
      ·
       replace hg16 := qb hg16
       refine qap ?_
       refine qap ?_
       refine qap ?_
       refine qap ?_
       refine qap ?_
       refine qap ?_
       refine qap ?_
       refine qap ?_
       refine qap ?_
       refine qap ?_
       refine qap ?_
       refine qap ?_
       refine qap ?_
       refine qap ?_
       refine qap ?_
       refine qap ?_
       refine qbp ?_
       refine qbp ?_
       refine qbu ?_
       refine CJ_cond_false rfl ?_
       refine qbj ?_
       refine qar ?_
       refine qaa ?_
       refine qav ?_
       exact q_k (⟨k + 1, by omega⟩)
    ·
     refine qbk ?_
     refine q_l rfl (awake12_tri _ _) ?_
     refine qaz ?_
     refine qa0 ?_
     refine retK_ret (L' := []) (R' := R) (res1 rfl (rv_tmp (show _ = Value.bool _ from rfl))) ?hp ?hL ?hR
     case hp => exact ⟨rfl, rfl, rfl⟩
     case hL => exact List.nil_sublist _
     case hR => exact fun r hr => ((hR0 r hr).mono hR2).mono hR3
end Go.Proofs.Ytjjfpglgonpciaa
