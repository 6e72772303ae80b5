/-
  Statements about chapter 13: what is known is true. By an AI agent; no person has read it.
-/
import Derived.Test.YtjjfpglgonpciaaTrueP
import Derived.Test.YtjjfpglgonpciaaLaw13a
set_option linter.unusedSimpArgs false
set_option linter.unusedVariables false
namespace Go.Proofs.Ytjjfpglgonpciaa
open Go.Aw Go
set_option maxRecDepth 20000
attribute [local irreducible] CJ LJ DJ Tri YV Gives seqK blockK loopK retK RV mergeK OwL.L

theorem fedAt_true {l : List XSpan} {f : XFace} {fl : List Int} (hh : ∀ j : Nat, j < fl.length → (l.getD j default).low ≤ fl.getD j 0 ∧ fl.getD j 0 ≤ (l.getD j default).high) (hl : l.length = fl.length) (hr : 0 ≤ f.road ∧ f.road < fl.length) :
    (fedAt l f = 1 → f.need ≤ max (fl.getD f.road.toNat 0) (-(fl.getD f.road.toNat 0))) ∧ (fedAt l f = -1 → max (fl.getD f.road.toNat 0) (-(fl.getD f.road.toNat 0)) < f.need) := by
  have h := hh f.road.toNat (by omega)
  rw [fedAt, if_pos (by omega), fedS]
  generalize l.getD f.road.toNat default = y at h ⊢
  generalize fl.getD f.road.toNat 0 = q at h ⊢
  constructor
  · split
    · intro h; cases h
    split
    · intro _; omega
    split
    · intro h; cases h
    · intro h; cases h
  · split
    · intro h; cases h
    split
    · intro h; cases h
    split
    · intro _; omega
    · intro h; cases h

theorem airflowTrue_law (y : Arr Int) (R : List Sl) (hy : CodesR y R) :
    Tri Try.prog 13 [y.val].toArray [] R (fun v L' R' => v = .bool true ∧ [] = L' ∧ R = R') := by
  refine tri_enter 230 Try.call13 Try.func13 rfl rfl rfl ?_
  refine qae ?_
  refine qaz ?_
  refine qam ?_
  refine qbm ?_
  refine LJ_call rfl (new_tri y _ _ hy) rfl ?_
  rintro v L' R' ⟨c, rfl, hx, rfl, rfl⟩
  refine qc1 ?_
  refine qam ?_
  refine qa6 ?_
  refine LJ_call rfl (made1 (.consL .nil) hx (Nat.zero_le _)) rfl ?_
  rintro v L' R' ⟨m, k1, S, rfl, hm, hMA, hif, hid, hk1, rfl, rfl⟩
  simp only [List.append_assoc, List.cons_append, List.nil_append]
  refine LJ_q (yv_move rfl) rfl ?_
  refine qbs ?_
  refine qbs ?_
  refine qbs ?_
  refine qaq ?_
  intro b4
  refine qaq ?_
  intro b5
  refine qaq ?_
  intro b6
  refine qak ?_
  refine qak ?_
  refine qak ?_
  refine qco ?_
  refine CJ_made (A := []) hm hMA (fun f hf => (hif f hf).mono fun r hr => inR_self (by simp [hr])) (fun f hf => (hid f hf).mono fun r hr => inR_self (by simp [hr])) fun a s x R1 hMA hA hT hX hR1 => ?_
  refine qb1 ?_
  obtain ⟨_, hae, hF, hri, hfo⟩ := hMA.b
  have hx1 : CodesR (codes300 y) R1 := hx.mono fun r hr => hR1 r (by simp [hr])
  have hR0 : ∀ r ∈ R, InR r R1 := fun r hr => hR1 r (by simp [hr])
  have hnp := hMA.nplaces
  have hnr := hMA.nroads
  have hfn := hF.flen
  obtain ⟨A, hAA⟩ := airy_ex a.mine
  have hxf := hX.flows
  refine qay ?_
  refine qa8 ?_
  refine qbe ?_
  refine qbe ?_
  refine q_l rfl (ref09Fits_tri a s x _ _ hA hT hX) ?_
  refine qbq ?_
  refine qaf ?_
  refine q_c (fun hc0 => ?_) (fun hc0 => ?_)
  ·
   exact absurd hMA.fits hc0
  ·
   refine qbv ?_
   refine qa8 ?_
   refine qbe ?_
   refine LJ_call rfl (analyse_tri a s A _ _ hA hT (fun _ => hAA)) rfl ?_
   rintro v L' R' ⟨l, rfl, hlk, hll, rfl, rfl⟩
   have han := (ana_ok hMA.err hMA.fit hAA).1
   have hln : l.l.length = x.flows.l.length := by rw [hll, hfn]; exact ana_len hMA.err hMA.fit hAA
   have hlh : Holds13 x.flows.l l.l := by rw [hll]; exact ana_holds hMA.err hMA.fit hAA hF
   rw [han]
   refine LJ_q (yv_move rfl) rfl ?_
   refine qbs ?_
   refine qbs ?_
   refine qc4 ?_
   refine qad ?_
   refine qaw ?_
   refine qaa ?_
   refine qbq ?_
   refine qah ?_
   apply LJ_or (G := [_, _, _, _, _, _]) (j := 2) (cj := 41) rfl rfl (by rfl) rfl (show _ = Value.bool _ from rfl) rfl
   ·
    intro hg3
    replace hg3 := qb hg3
    refine qbm ?_
    refine qag ?_
    refine qab ?_
    refine qac ?_
    refine qag ?_
    refine qbq ?_
    exact qai
   intro junk3
   refine qaf ?_
   refine q_c (fun hc1 => ?_) (fun hc1 => ?_)
   ·
    (exfalso; rcases hc1 with h | h; exact h trivial; omega)
   ·
    refine qcl ?_
    refine CJ_frz1 (A := []) (wd := 2) [] (fun _ => rfl) (by decide) hlk (fun s hs => by cases hs) ?_
    refine CJ_L (by simp only [List.nil_append]; rfl) ?_
    obtain ⟨R2, hR2e⟩ : ∃ R2, R2 = spsl l.arr :: R1 := ⟨_, rfl⟩
    have hR2 : ∀ r ∈ R1, InR r R2 := fun r hr => inR_self (by rw [hR2e]; exact .tail _ hr)
    have hlR : InR (spsl l.arr) R2 := inR_self (by rw [hR2e]; exact .head _)
    have hxf2 := hxf.mono hR2
    have hx2 := hx1.mono hR2
    refine CJ_R (show _ = R2 by rw [hR2e]) ?_
    refine qay ?_
    refine qa6 ?_
    refine qab ?_
    refine qac ?_
    refine LJ_call rfl (Tri.spl (.consB (.consB (.consB (.consL .nil)))) (flowing_tri c (codes300 y) k1 x.flows true _ hx2 hk1 hxf2 hF.flow (by omega))) rfl ?_
    rintro v L' R' ⟨_, rfl, sn, me, k2, rfl, ⟨hsk, hmk⟩, ⟨hsn, hmn⟩, hSL, hML, hk2, rfl, rfl⟩
    simp only [List.append_assoc, List.cons_append, List.nil_append]
    refine LJ_q (yv_move rfl) rfl ?_
    refine qbs ?_
    refine qbs ?_
    refine qc4 ?_
    refine qc4 ?_
    refine qa4 ?_
    refine CJ_frz1 (A := [_, _, _]) (wd := 4) [] (fun _ => rfl) (by decide) hmk (fun s hs => by cases hs) ?_
    refine qb1 ?_
    refine CJ_frz1 (A := [_, _, _]) (wd := 8) [] (fun _ => rfl) (by decide) hsk (fun s hs => by cases hs) ?_
    refine qb1 ?_
    obtain ⟨R3, hR3e⟩ : ∃ R3, R3 = sesl sn.arr :: mesl me.arr :: R2 := ⟨_, rfl⟩
    have hR3 : ∀ r ∈ R2, InR r R3 := fun r hr => inR_self (by rw [hR3e]; exact .tail _ (.tail _ hr))
    have hsR : InR (sesl sn.arr) R3 := inR_self (by rw [hR3e]; exact .head _)
    have hmR : InR (mesl me.arr) R3 := inR_self (by rw [hR3e]; exact .tail _ (.head _))
    have hlR3 := hlR.mono hR3
    have hx3 := hx2.mono hR3
    have hxf3 := hxf2.mono hR3
    have hmo : ∀ z ∈ me.l, MeasOk z := fun z hz => by
      obtain ⟨i, hi⟩ := List.mem_iff_getElem?.1 hz
      have := hML i z hi
      rw [MeasQ] at this
      rw [MeasOk]
      omega
    refine CJ_R (show _ = R3 by rw [hR3e]) ?_
    refine qay ?_
    refine qbm ?_
    refine qbm ?_
    refine qbm ?_
    refine qa6 ?_
    refine LJ_call rfl (next1 (by repeat (first | apply USeg.here | apply USeg.cons | apply USeg.app)) hx3 hk2 (by omega)) rfl ?_
    rintro v L' R' ⟨t, k3, rfl, g0, g0', g0'', hk3, rfl, rfl⟩
    have g0q := g0' (by omega)
    refine LJ_call rfl (tighten_tri l.arr sn.arr me.arr t _ _ hlR3 hsR hmR (show l.l.length ≤ 1000 by omega) (show sn.l.length ≤ 1000 by omega) (show me.l.length ≤ 1000 by omega) hmo (by omega)) rfl ?_
    rintro v L' R' ⟨p, q, rfl, ⟨hpk, hqk⟩, hpl, hql, rfl, rfl⟩
    have hTr := nar_true (t := t) hlh hln hSL hML hF.flow me.l.length (Nat.le_refl _)
    have hq0 : q.l.length = 0 := by
      have : q.l = [] := by rw [hql]; show wrongS (narTo l.l nothingS 3 sn.l me.l t me.l.length).bad _ = []; rw [hTr.bad]; exact wrong_none _
      rw [this]; rfl
    have hpl' : p.l = (narTo l.l nothingS 3 sn.l me.l t me.l.length).out := hpl
    have hpn : p.l.length = l.l.length := by rw [hpl']; exact hTr.len
    have hat := hTr.at_
    rw [← hpl'] at hat
    refine LJ_q (yv_move rfl) rfl ?_
    refine qbs ?_
    refine qbs ?_
    refine qc4 ?_
    refine qc4 ?_
    refine qaw ?_
    refine qbm ?_
    refine qag ?_
    refine qbq ?_
    refine qah ?_
    apply LJ_or (G := [_, _, _, _, _]) (j := 3) (cj := 68) rfl rfl (by rfl) rfl (show _ = Value.bool _ from rfl) rfl
    ·
     intro hg4
     replace hg4 := qb hg4
     refine qbm ?_
     refine qag ?_
     refine qbm ?_
     refine qag ?_
     refine qbq ?_
     exact qai
    intro junk4
    refine qaf ?_
    refine q_c (fun hc2 => ?_) (fun hc2 => ?_)
    ·
     (exfalso; omega)
    ·
     refine CJ_skip (seqK_normal (CJ_seq (CJ_seq ?_)))
     refine CJ_frz1 (A := q.L 3 icell) (wd := 2) [] (fun _ => rfl) (by decide) hpk (fun s hs => by cases hs) ?_
     obtain ⟨R4, hR4e⟩ : ∃ R4, R4 = spsl p.arr :: R3 := ⟨_, rfl⟩
     have hR4 : ∀ r ∈ R3, InR r R4 := fun r hr => inR_self (by rw [hR4e]; exact .tail _ hr)
     have hpR : InR (spsl p.arr) R4 := inR_self (by rw [hR4e]; exact .head _)
     have hlR4 := hlR3.mono hR4
     have hx4 := hx3.mono hR4
     have hxf4 := hxf3.mono hR4
     refine CJ_weak (R' := R4) (List.sublist_append_right _ _) (fun r hr => inR_self (by rw [hR4e] at hr; exact hr)) ?_
     refine qay ?_
     refine qab ?_
     refine qac ?_
     refine qag ?_
     refine qaa ?_
     refine qa2 ?_
     refine CJ_forget [(3, Value.pointer _), (4, Value.pointer _), (6, Value.pointer _), (7, Value.slice _ _ _), (11, Value.slice _ _ _), (76, Value.slice _ _ _), (77, Value.int _ _), (78, Value.int _ _)] (by repeat' (first | exact trivial | refine And.intro rfl ?_)) fun tq0 => ?_
     refine q_s [2, 13, 14, 15, 78, 79, 80, 81, 82, 83, 84, 85, 86, 87, 88, 89, 90, 91, 92, 93, 94, 95, 96, 97, 98, 99, 100, 101, 102, 103, 104, 105, 106, 107, 108, 109, 110, 111, 112, 113, 114, 115, 116, 117, 118, 119, 120, 121, 122, 123, 124, 125, 126, 127, 128, 129, 130, 131, 132, 133, 134, 135, 136, 137, 138, 139, 140, 141, 142, 143, 144, 145, 146, 147, 148, 149, 150, 151, 152, 153, 154, 155, 156, 157, 158, 159, 160, 161, 162] (fun g : {i : Nat // i ≤ x.flows.l.length} => [(78, .int .i64 ((g.1 : Nat) : Int))]) (fun g => x.flows.l.length - g.1) (⟨0, by omega⟩) ?_
     rintro ⟨i, hi⟩ junk
     try dsimp only
     refine qae ?_
     refine qaj ?_
     refine qa4 ?_
     refine q_c (fun hc3 => ?_) (fun hc3 => ?_)
     ·
      have hfg := get_D (l := x.flows.l) (k := i) 0 (by omega)
      have hlg := get_D (l := l.l) (k := i) default (by omega)
      have hpg := get_D (l := p.l) (k := i) default (by omega)
      have hi1 := hat i (by omega)
      have hi2 := hlh i (by omega)
      refine qbb ?_
      refine qaa ?_
      refine LJ_q (by first | exact yv_index_ro tb rfl rfl rfl rfl (by first | assumption | exact zr (by simp)) (i := i) (by first | rfl | omega | (simp; omega)) (by omega) | exact yv_index tb rfl rfl rfl rfl (i := i) (by first | rfl | omega | (simp; omega)) (by omega)) rfl ?_
      refine qa7 ?_
      refine qad ?_
      refine qad ?_
      refine qco ?_
      refine CJ_drawn tb [0, 1, 2, 3, 4, 5, 6, 7, 8, 9, 10, 11, 12, 13, 14, 15, 16, 17, 18, 19, 20, 21, 22, 23, 24, 25, 26, 27, 28, 29, 30, 31, 32, 33, 34, 35, 36, 37, 38, 39, 40, 41, 42, 43, 44, 45, 46, 47, 48, 49, 50, 51, 52, 53, 54, 55, 56, 57, 58, 59] _ mixed (by kernel_rfl) (List.Sublist.refl _) ?_
      refine qao ?_
      refine DJ_q (yv_move (show _ = Value.slice _ _ _ from rfl)) rfl rfl rfl ?_
      refine qao ?_
      refine DJ_q (by first | exact yv_index_ro tb rfl rfl rfl rfl (by first | assumption | exact zr (by simp)) (i := i) (by first | rfl | omega | (simp; omega)) (by omega) | exact yv_index tb rfl rfl rfl rfl (i := i) (by first | rfl | omega | (simp; omega)) (by omega)) rfl rfl rfl ?_
      refine qce ?_
      refine qbl ?_
      refine DJ_q (yv_lss rfl rfl) rfl rfl rfl ?_
      refine qb2 ?_
      refine DJ_case (k := 90) (show _ = Value.bool _ from rfl) (fun hg7 => ?_) (fun hg7 => ?_)
      ·
       replace hg7 := qb hg7
       (exfalso; omega)
      ·
       replace hg7 := qb hg7
       refine qao ?_
       refine DJ_q (yv_move (show _ = Value.slice _ _ _ from rfl)) rfl rfl rfl ?_
       refine qao ?_
       refine DJ_q (by first | exact yv_index_ro tb rfl rfl rfl rfl (by first | assumption | exact zr (by simp)) (i := i) (by first | rfl | omega | (simp; omega)) (by omega) | exact yv_index tb rfl rfl rfl rfl (i := i) (by first | rfl | omega | (simp; omega)) (by omega)) rfl rfl rfl ?_
       refine qce ?_
       refine qbl ?_
       refine DJ_q (yv_gtr rfl rfl) rfl rfl rfl ?_
       refine qbp ?_
       refine qb2 ?_
       refine DJ_case (k := 99) (show _ = Value.bool _ from rfl) (fun hg16 => ?_) (fun hg16 => ?_)
       ·
        replace hg16 := qb hg16
        (exfalso; omega)
       ·
        replace hg16 := qb hg16
        refine qao ?_
        refine DJ_q (yv_move (show _ = Value.slice _ _ _ from rfl)) rfl rfl rfl ?_
        refine qao ?_
        refine DJ_q (by first | exact yv_index_ro tb rfl rfl rfl rfl (by first | assumption | exact zr (by simp)) (i := i) (by first | rfl | omega | (simp; omega)) (by omega) | exact yv_index tb rfl rfl rfl rfl (i := i) (by first | rfl | omega | (simp; omega)) (by omega)) rfl rfl rfl ?_
        refine qce ?_
        refine qbl ?_
        refine DJ_q (yv_lss rfl rfl) rfl rfl rfl ?_
        refine qbp ?_
        refine qb2 ?_
        refine DJ_case (k := 108) (show _ = Value.bool _ from rfl) (fun hg25 => ?_) (fun hg25 => ?_)
        ·
         replace hg25 := qb hg25
         (exfalso; omega)
        ·
         replace hg25 := qb hg25
         refine qao ?_
         refine DJ_q (yv_move (show _ = Value.slice _ _ _ from rfl)) rfl rfl rfl ?_
         refine qao ?_
         refine DJ_q (by first | exact yv_index_ro tb rfl rfl rfl rfl (by first | assumption | exact zr (by simp)) (i := i) (by first | rfl | omega | (simp; omega)) (by omega) | exact yv_index tb rfl rfl rfl rfl (i := i) (by first | rfl | omega | (simp; omega)) (by omega)) rfl rfl rfl ?_
         refine qce ?_
         refine qbl ?_
         refine DJ_q (yv_gtr rfl rfl) rfl rfl rfl ?_
         refine qbp ?_
         refine qb2 ?_
         refine DJ_case (k := 117) (show _ = Value.bool _ from rfl) (fun hg34 => ?_) (fun hg34 => ?_)
         ·
          replace hg34 := qb hg34
          (exfalso; omega)
         ·
          replace hg34 := qb hg34
          refine DJ_q (yv_move (show _ = Value.slice _ _ _ from rfl)) rfl rfl rfl ?_
          refine qao ?_
          refine DJ_q (by first | exact yv_index_ro tb rfl rfl rfl rfl (by first | assumption | exact zr (by simp)) (i := i) (by first | rfl | omega | (simp; omega)) (by omega) | exact yv_index tb rfl rfl rfl rfl (i := i) (by first | rfl | omega | (simp; omega)) (by omega)) rfl rfl rfl ?_
          refine qce ?_
          refine qbl ?_
          refine DJ_q (yv_move (show _ = Value.slice _ _ _ from rfl)) rfl rfl rfl ?_
          refine qao ?_
          refine DJ_q (by first | exact yv_index_ro tb rfl rfl rfl rfl (by first | assumption | exact zr (by simp)) (i := i) (by first | rfl | omega | (simp; omega)) (by omega) | exact yv_index tb rfl rfl rfl rfl (i := i) (by first | rfl | omega | (simp; omega)) (by omega)) rfl rfl rfl ?_
          refine qce ?_
          refine qbl ?_
          refine DJ_q (yv_lss rfl rfl) rfl rfl rfl ?_
          refine qbp ?_
          refine qb2 ?_
          refine DJ_case (k := 130) (show _ = Value.bool _ from rfl) (fun hg47 => ?_) (fun hg47 => ?_)
          ·
           replace hg47 := qb hg47
           (exfalso; omega)
          ·
           replace hg47 := qb hg47
           refine DJ_q (yv_move (show _ = Value.slice _ _ _ from rfl)) rfl rfl rfl ?_
           refine qao ?_
           refine DJ_q (by first | exact yv_index_ro tb rfl rfl rfl rfl (by first | assumption | exact zr (by simp)) (i := i) (by first | rfl | omega | (simp; omega)) (by omega) | exact yv_index tb rfl rfl rfl rfl (i := i) (by first | rfl | omega | (simp; omega)) (by omega)) rfl rfl rfl ?_
           refine qce ?_
           refine qbl ?_
           refine DJ_q (yv_move (show _ = Value.slice _ _ _ from rfl)) rfl rfl rfl ?_
           refine qao ?_
           refine DJ_q (by first | exact yv_index_ro tb rfl rfl rfl rfl (by first | assumption | exact zr (by simp)) (i := i) (by first | rfl | omega | (simp; omega)) (by omega) | exact yv_index tb rfl rfl rfl rfl (i := i) (by first | rfl | omega | (simp; omega)) (by omega)) rfl rfl rfl ?_
           refine qce ?_
           refine qbl ?_
           refine DJ_q (yv_gtr rfl rfl) rfl rfl rfl ?_
           refine qbp ?_
           refine qbu ?_
           refine q_c (fun hc4 => ?_) (fun hc4 => ?_)
           ·
            (exfalso; omega)
           ·
            refine qbv ?_
            refine qbm ?_
            refine qaa ?_
            refine LJ_q (by first | exact yv_index_ro tb rfl rfl rfl rfl (by first | assumption | exact zr (by simp)) (i := i) (by first | rfl | omega | (simp; omega)) (by omega) | exact yv_index tb rfl rfl rfl rfl (i := i) (by first | rfl | omega | (simp; omega)) (by omega)) rfl ?_
            refine qdl ?_
            refine q_l rfl (direction_tri _ _ _) ?_
            refine qad ?_
            refine qam ?_
            refine qaa ?_
            refine qbn ?_
            refine qah ?_
            apply LJ_and (G := [_, _]) (j := 2) (cj := 150) rfl rfl (by rfl) rfl (show _ = Value.bool _ from rfl) rfl
            ·
             intro hg3
             replace hg3 := qb hg3
             refine qaa ?_
             refine qbx ?_
             exact qai
            intro junk3
            refine qah ?_
            apply LJ_or (G := [_, _, _, _, _, _]) (j := 6) (cj := 154) rfl rfl (by rfl) rfl (show _ = Value.bool _ from rfl) rfl
            ·
             intro hg7
             replace hg7 := qb hg7
             refine qaa ?_
             refine qbn ?_
             refine qah ?_
             apply LJ_and (G := [_, _]) (j := 9) (cj := 157) rfl rfl (by rfl) rfl (show _ = Value.bool _ from rfl) rfl
             ·
              intro hg10
              replace hg10 := qb hg10
              refine qaa ?_
              refine qbz ?_
              exact qai
             intro junk10
             exact qai
            intro junk7
            refine qaf ?_
            refine q_c (fun hc5 => ?_) (fun hc5 => ?_)
            ·
             (exfalso; rw [dirS] at hc5; omega)
            ·
             refine qbj ?_
             refine qar ?_
             refine qaa ?_
             refine qav ?_
             exact q_k (⟨i + 1, by omega⟩)
     ·
      refine qbk ?_
      refine qa6 ?_
      refine qa8 ?_
      refine LJ_call rfl (Tri.spl (.consB (.consB (.consB (.consL .nil)))) (drawFaces_tri c (codes300 y) k3 a _ hx4 hk3 (by omega))) rfl ?_
      rintro v L' R' ⟨_, rfl, f, k4, rfl, hfk, hfd, hk4, rfl, rfl⟩
      simp only [List.append_assoc, List.cons_append, List.nil_append]
      refine qc4 ?_
      refine qco ?_
      refine CJ_frz1 (A := [_, _, _]) (wd := 2) [] (fun _ => rfl) (by decide) hfk (fun s hs => by cases hs) ?_
      refine qb1 ?_
      have hfo2 : FacesOk f.arr.l := fun z hz => by have := (hfd.at_ z hz).2; omega
      have hfl3 := hfd.len
      obtain ⟨R5, hR5e⟩ : ∃ R5, R5 = fcsl f.arr :: R4 := ⟨_, rfl⟩
      have hR5 : ∀ r ∈ R4, InR r R5 := fun r hr => inR_self (by rw [hR5e]; exact .tail _ hr)
      have hfR : InR (fcsl f.arr) R5 := inR_self (by rw [hR5e]; exact .head _)
      have hpR5 := hpR.mono hR5
      have hxf5 := hxf4.mono hR5
      refine CJ_R (show _ = R5 by rw [hR5e]) ?_
      refine qay ?_
      refine qbm ?_
      refine qbm ?_
      refine LJ_call rfl (fedL_tri p.arr f.arr _ _ hpR5 hfR hfo2 (show f.l.length ≤ 1000 by omega) (show p.l.length ≤ 1000 by omega)) rfl ?_
      rintro v L' R' ⟨v, rfl, hvk, hvl, rfl, rfl⟩
      have hvn : v.l.length = f.l.length := by rw [hvl]; simp [fedL]
      refine qag ?_
      refine qaa ?_
      refine qa2 ?_
      refine CJ_forget [(6, Value.pointer _), (16, Value.slice _ _ _), (168, Value.slice _ _ _), (169, Value.int _ _), (170, Value.int _ _)] (by repeat' (first | exact trivial | refine And.intro rfl ?_)) fun tq1 => ?_
      refine q_s [2, 17, 18, 19, 170, 171, 172, 173, 174, 175, 176, 177, 178, 179, 180, 181, 182, 183, 184, 185, 186, 187, 188, 189, 190, 191, 192, 193, 194, 195, 196, 197, 198, 199, 200, 201, 202, 203, 204, 205, 206, 207, 208, 209, 210, 211, 212, 213, 214, 215, 216, 217, 218, 219, 220, 221, 222, 223, 224, 225, 226, 227, 228] (fun g : {i : Nat // i ≤ v.l.length} => [(170, .int .i64 ((g.1 : Nat) : Int))]) (fun g => v.l.length - g.1) (⟨0, by omega⟩) ?_
      rintro ⟨i, hi⟩ junk
      try dsimp only
      refine qae ?_
      refine qaj ?_
      refine qa4 ?_
      refine q_c (fun hc6 => ?_) (fun hc6 => ?_)
      ·
       have hvg := get_D (l := v.l) (k := i) 0 (by omega)
       have hfg2 := get_D (l := f.l) (k := i) default (by omega)
       have hfa := (hfd.at_ _ (List.mem_of_getElem? hfg2)).1
       have hvi : v.l.getD i 0 = fedAt p.l (f.l.getD i default) := by
         rw [hvl, List.getD_eq_getElem?_getD, fedL, List.getElem?_map, List.getElem?_range (by show i < f.l.length; omega)]; rfl
       obtain ⟨w, hw⟩ : ∃ w, w = f.l.getD i default := ⟨_, rfl⟩
       rw [← hw] at hfg2 hfa hvi
       refine qbb ?_
       refine qaa ?_
       refine LJ_q (yv_index_ow tb (v) _ rfl rfl rfl rfl (by assumption) (i := i) (by first | rfl | omega | (simp; omega)) (by first | omega | (dsimp only; omega) | (dsimp only; rw [List.length_set]; omega))) rfl ?_
       refine LJ_q (yv_load1_ow tb (v) rfl rfl rfl (by repeat (first | apply OSeg.cons | exact OSeg.here | exact OSeg.last | exact OSeg.at (by assumption) | apply OSeg.app)) (by assumption) (fun _ => rfl) (by assumption) (by rfl)) rfl ?_
       refine qad ?_
       refine qad ?_
       refine qco ?_
       refine CJ_drawn tb [0, 1, 2, 3, 4, 5, 6, 7, 8] _ mixed (by kernel_rfl) (List.Sublist.refl _) ?_
       refine DJ_q (yv_move (show _ = Value.slice _ _ _ from rfl)) rfl rfl rfl ?_
       refine qao ?_
       refine DJ_q (by first | exact yv_index_ro tb rfl rfl rfl rfl (by first | assumption | exact zr (by simp)) (i := i) (by first | rfl | omega | (simp; omega)) (by omega) | exact yv_index tb rfl rfl rfl rfl (i := i) (by first | rfl | omega | (simp; omega)) (by omega)) rfl rfl rfl ?_
       refine qce ?_
       refine qbl ?_
       refine qal ?_
       refine qat ?_
       refine DJ_q (yv_len tb rfl rfl rfl) rfl rfl rfl ?_
       refine DJ_q (yv_geq rfl rfl) rfl rfl rfl ?_
       refine qbu ?_
       refine q_c (fun hc7 => ?_) (fun hc7 => ?_)
       ·
        refine CJ_exit (seqK_exit (blockK_exit (seqK_normal (CJ_region ?_))))
        refine qar ?_
        refine qaa ?_
        refine qav ?_
        exact q_k ⟨i + 1, by omega⟩
       ·
        have hqg := get_D (l := x.flows.l) (k := w.road.toNat) 0 (by omega)
        have hqb := hF.flow _ (List.mem_of_getElem? hqg)
        have hft := fedAt_true (fun j hj => (hat j hj).1) (by omega) (f := w) (by omega)
        refine qcl ?_
        refine CJ_drawn tb [0, 1, 2, 3, 4, 5, 6, 7, 8, 9, 10, 11, 12, 13, 14, 15, 16, 17, 18, 19, 20] _ mixed (by kernel_rfl) (List.Sublist.refl _) ?_
        refine qal ?_
        refine qat ?_
        refine DJ_q (yv_move (show _ = Value.slice _ _ _ from rfl)) rfl rfl rfl ?_
        refine qao ?_
        refine DJ_q (by first | exact yv_index_ro tb rfl rfl rfl rfl (by first | assumption | exact zr (by simp)) (i := i) (by first | rfl | omega | (simp; omega)) (by omega) | exact yv_index tb rfl rfl rfl rfl (i := i) (by first | rfl | omega | (simp; omega)) (by omega)) rfl rfl rfl ?_
        refine qce ?_
        refine qbl ?_
        refine DJ_q (by first | exact yv_index_ro tb rfl rfl rfl rfl (by first | assumption | exact zr (by simp)) (i := w.road.toNat) (by first | rfl | omega | (simp; omega)) (by omega) | exact yv_index tb rfl rfl rfl rfl (i := w.road.toNat) (by first | rfl | omega | (simp; omega)) (by omega)) rfl rfl rfl ?_
        refine qbl ?_
        refine qal ?_
        refine qat ?_
        refine DJ_q (yv_move (show _ = Value.slice _ _ _ from rfl)) rfl rfl rfl ?_
        refine qao ?_
        refine DJ_q (by first | exact yv_index_ro tb rfl rfl rfl rfl (by first | assumption | exact zr (by simp)) (i := i) (by first | rfl | omega | (simp; omega)) (by omega) | exact yv_index tb rfl rfl rfl rfl (i := i) (by first | rfl | omega | (simp; omega)) (by omega)) rfl rfl rfl ?_
        refine qce ?_
        refine qbl ?_
        refine DJ_q (by first | exact yv_index_ro tb rfl rfl rfl rfl (by first | assumption | exact zr (by simp)) (i := w.road.toNat) (by first | rfl | omega | (simp; omega)) (by omega) | exact yv_index tb rfl rfl rfl rfl (i := w.road.toNat) (by first | rfl | omega | (simp; omega)) (by omega)) rfl rfl rfl ?_
        refine qbl ?_
        refine DJ_q (yv_neg64 rfl (by omega) (by omega)) rfl rfl rfl ?_
        refine DJ_q (yv_max2 rfl rfl) rfl rfl rfl ?_
        refine qcg ?_
        refine DJ_nil (seqK_normal (CJ_seq (CJ_region ?_)))
        refine qaa ?_
        refine qbn ?_
        refine qah ?_
        apply LJ_and (G := [_, _, _, _, _, _, _]) (j := 2) (cj := 206) rfl rfl (by rfl) rfl (show _ = Value.bool _ from rfl) rfl
        ·
         intro hg3
         replace hg3 := qb hg3
         refine qaa ?_
         refine qbm ?_
         refine qaa ?_
         refine LJ_q (by first | exact yv_index_ro tb rfl rfl rfl rfl (by first | assumption | exact zr (by simp)) (i := i) (by first | rfl | omega | (simp; omega)) (by omega) | exact yv_index tb rfl rfl rfl rfl (i := i) (by first | rfl | omega | (simp; omega)) (by omega)) rfl ?_
         refine qb0 ?_
         refine qa7 ?_
         refine qaj ?_
         exact qai
        intro junk3
        refine qah ?_
        apply LJ_or (G := [_, _, _, _, _, _, _, _, _, _, _]) (j := 11) (cj := 215) rfl rfl (by rfl) rfl (show _ = Value.bool _ from rfl) rfl
        ·
         intro hg12
         replace hg12 := qb hg12
         refine qaa ?_
         refine qbn ?_
         refine qah ?_
         apply LJ_and (G := [_, _, _, _, _, _, _]) (j := 14) (cj := 218) rfl rfl (by rfl) rfl (show _ = Value.bool _ from rfl) rfl
         ·
          intro hg15
          replace hg15 := qb hg15
          refine qaa ?_
          refine qbm ?_
          refine qaa ?_
          refine LJ_q (by first | exact yv_index_ro tb rfl rfl rfl rfl (by first | assumption | exact zr (by simp)) (i := i) (by first | rfl | omega | (simp; omega)) (by omega) | exact yv_index tb rfl rfl rfl rfl (i := i) (by first | rfl | omega | (simp; omega)) (by omega)) rfl ?_
          refine qb0 ?_
          refine qa7 ?_
          refine qbz ?_
          exact qai
         intro junk15
         exact qai
        intro junk12
        refine qaf ?_
        refine q_c (fun hc8 => ?_) (fun hc8 => ?_)
        ·
         (exfalso; rw [hvi] at hc8; rcases hc8 with ⟨e1, e2⟩ | ⟨e1, e2⟩; exact absurd (hft.1 e1) (by omega); exact absurd (hft.2 e1) (by omega))
        ·
         refine qbj ?_
         refine qar ?_
         refine qaa ?_
         refine qav ?_
         exact q_k ⟨i + 1, by omega⟩
      ·
       refine qbk ?_
       refine q_l rfl (awake13_tri _ _) ?_
       refine qaz ?_
       refine qa0 ?_
       refine retK_ret (L' := []) (R' := R) (res1 rfl (rv_tmp (show _ = Value.bool _ from rfl))) ?hp ?hL ?hR
       case hp => exact ⟨rfl, rfl, rfl⟩
       case hL => exact List.nil_sublist _
       case hR => exact fun r hr => ((((hR0 r hr).mono hR2).mono hR3).mono hR4).mono hR5
end Go.Proofs.Ytjjfpglgonpciaa
