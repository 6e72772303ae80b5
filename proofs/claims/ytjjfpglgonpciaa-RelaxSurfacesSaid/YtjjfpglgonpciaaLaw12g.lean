/-
  Statements about chapter 12: one more road between places of the surface. By an AI agent; no person has read it.
-/
import Derived.Test.YtjjfpglgonpciaaTurnW
import Derived.Test.YtjjfpglgonpciaaSurfP
set_option linter.unusedSimpArgs false
set_option linter.unusedVariables false
namespace Go.Proofs.Ytjjfpglgonpciaa
open Go.Aw Go
set_option maxRecDepth 20000
attribute [local irreducible] CJ LJ DJ Tri YV Gives seqK blockK loopK retK RV mergeK OwL.L

theorem ow_cap {α : Type} {f : α → List Value} {wd : Nat} {p : OwL α} (hok : p.ok wd f) : p.l.length ≤ p.o.cap := by
  cases ho : p.o with
  | nil => rw [OwL.ok, ho] at hok; rw [hok.1]; exact Nat.zero_le _
  | own g cap spare => rw [OwL.ok, ho] at hok; exact hok.2.1
theorem relaxSurfaces_law (y : Arr Int) (rest lift : Int) (R : List Sl) (hy : CodesR y R) (hrest : 0 ≤ rest ∧ rest ≤ 65535) (hlift : 0 ≤ lift ∧ lift ≤ 65535) :
    Tri Try.prog 8 [y.val, .int .u16 rest, .int .u16 lift].toArray [] R (fun v L' R' => v = .bool true ∧ [] = L' ∧ R = R') := by
  refine tri_enter 137 Try.call8 Try.func8 rfl rfl rfl ?_
  refine qae ?_
  refine qaz ?_
  refine qam ?_
  refine qbm ?_
  refine LJ_call rfl (new_tri y _ _ hy) rfl ?_
  rintro v L' R' ⟨c, rfl, hx, rfl, rfl⟩
  refine qc1 ?_
  refine qam ?_
  refine qa6 ?_
  refine LJ_call rfl (made1 (.consL .nil) hx (Nat.zero_le _)) rfl ?_
  rintro v L' R' ⟨m, k1, S, rfl, hm, hMA, hif, hid, hk1, rfl, rfl⟩
  simp only [List.append_assoc, List.cons_append, List.nil_append]
  refine LJ_q (yv_move rfl) rfl ?_
  refine qbs ?_
  refine qbs ?_
  refine qbs ?_
  refine qaq ?_
  intro b8
  refine qaq ?_
  intro b9
  refine qaq ?_
  intro b10
  refine qak ?_
  refine qak ?_
  refine qak ?_
  refine qa4 ?_
  refine CJ_made (A := []) hm hMA (fun f hf => (hif f hf).mono fun r hr => inR_self (by simp [hr])) (fun f hf => (hid f hf).mono fun r hr => inR_self (by simp [hr])) fun a s x R1 hMA hA hT hX hR1 => ?_
  refine qb1 ?_
  obtain ⟨_, hae, hF, hri, hfo⟩ := hMA.b
  have hx1 : CodesR (codes300 y) R1 := hx.mono fun r hr => hR1 r (by simp [hr])
  have hR0 : ∀ r ∈ R, InR r R1 := fun r hr => hR1 r (by simp [hr])
  have hnp := hMA.nplaces
  have hnr := hMA.nroads
  have hnf := hMA.nfans
  have hnd := hMA.ndoors
  have hpn := hF.plen
  have hfn := hF.flen
  obtain ⟨A, hAA⟩ := airy_ex a.mine
  have hAl := hAA.length
  refine qay ?_
  refine qab ?_
  refine qbe ?_
  refine LJ_call rfl (refCopy_tri a.mine _ _ hA.mineR hae.mine) rfl ?_
  rintro v L' R' ⟨⟨p0, pl⟩, ⟨q0, ql⟩, rfl, ⟨ok1, ok2⟩, hp, hq, rfl, rfl⟩
  dsimp only at hp hq
  subst hp
  subst hq
  have hnp2 := hae.mine.places
  have hnr2 := hae.mine.roads
  refine qaq ?_
  intro b11
  refine qak ?_
  refine qam ?_
  refine qab ?_
  refine qac ?_
  refine LJ_q (yv_build (qs := [(1, (Value.bool _).cells.toList)]) (out := [_, _]) tb rfl rfl rfl rfl) rfl ?_
  refine LJ_g (gives_buildSlice (qs := [(0, (Value.agg _).cells.toList)]) (out := [_, _]) tb rfl rfl rfl rfl rfl rfl rfl) rfl ?_
  rintro v L' R' ⟨b32, rfl, rfl, hR32⟩
  replace hR32 := hR32.symm; subst hR32
  refine LJ_g (gives_append1 (f := XPlace.cells) (p := (⟨p0, a.mine.places.l⟩ : OwL XPlace)) (a := ⟨0, true⟩) tb rfl rfl rfl rfl (ok1) (by repeat (first | apply OSeg.cons | exact OSeg.here | exact OSeg.last | exact OSeg.at (by assumption) | apply OSeg.app)) (shown_own (by repeat (first | exact zi0 | apply zi1 | apply zi2)) rfl rfl) rfl (by first | omega | (simp only [List.length_cons, List.length_nil, List.length_append]; omega))) rfl ?_
  rintro v L' R' ⟨o33, rfl, hok33, rfl, rfl⟩
  refine qab ?_
  refine qcy ?_
  refine qa4 ?_
  obtain ⟨P2, hP2⟩ : ∃ P2 : OwL XPlace, P2 = ⟨o33, a.mine.places.l ++ [⟨0, true⟩]⟩ := ⟨_, rfl⟩
  have hP2l : P2.l.length = a.mine.places.l.length + 1 := by rw [hP2]; simp
  rw [← hP2] at hok33 ⊢
  refine qay ?_
  refine qab ?_
  refine qac ?_
  refine qab ?_
  refine qac ?_
  refine qag ?_
  refine qa9 ?_
  refine qaa ?_
  refine qdg ?_
  refine qar ?_
  refine qaa ?_
  refine qdg ?_
  refine qar ?_
  refine qcd ?_
  refine qaa ?_
  refine qdg ?_
  refine qcq ?_
  refine qaa ?_
  refine qdg ?_
  refine qcd ?_
  refine LJ_q (yv_build (qs := [(0, (Value.int _ _).cells.toList), (1, (Value.int _ _).cells.toList), (2, (Value.int _ _).cells.toList), (3, (Value.int _ _).cells.toList), (6, (Value.agg _).cells.toList), (7, (Value.agg _).cells.toList)]) (out := [_, _, _, _, _, _, _, _, _, _]) tb rfl rfl rfl rfl) rfl ?_
  refine LJ_g (gives_buildSlice (qs := [(0, (Value.agg _).cells.toList)]) (out := [_, _, _, _, _, _, _, _, _, _]) tb rfl rfl rfl rfl rfl rfl rfl) rfl ?_
  rintro v L' R' ⟨b55, rfl, rfl, hR55⟩
  replace hR55 := hR55.symm; subst hR55
  refine LJ_g (gives_append1 (f := XRoad.cells) (p := (⟨q0, a.mine.roads.l⟩ : OwL XRoad)) (a := ⟨0, (P2.l.length : Int) - 1, 1, 1, false, false, ⟨1 + rest, 1 + rest⟩, ⟨-lift, lift⟩⟩) tb rfl rfl rfl rfl (ok2) (by repeat (first | apply OSeg.cons | exact OSeg.here | exact OSeg.last | exact OSeg.at (by assumption) | apply OSeg.app)) (shown_own (by repeat (first | exact zi0 | apply zi1 | apply zi2)) rfl rfl) rfl (by first | omega | (simp only [List.length_cons, List.length_nil, List.length_append]; omega))) rfl ?_
  rintro v L' R' ⟨o56, rfl, hok56, rfl, rfl⟩
  refine qab ?_
  refine qcy ?_
  refine qa4 ?_
  obtain ⟨rd, hrd⟩ : ∃ rd : XRoad, rd = ⟨0, (P2.l.length : Int) - 1, 1, 1, false, false, ⟨1 + rest, 1 + rest⟩, ⟨-lift, lift⟩⟩ := ⟨_, rfl⟩
  obtain ⟨Q2, hQ2⟩ : ∃ Q2 : OwL XRoad, Q2 = ⟨o56, a.mine.roads.l ++ [rd]⟩ := ⟨_, rfl⟩
  rw [← hrd] at hok56 ⊢
  replace hok56 : Q2.ok 10 XRoad.cells := by rw [hQ2]; exact hok56
  rw [← hQ2]
  refine CJ_frz1 (A := [_, _, _]) (wd := 10) [] (fun _ => rfl) (by decide) hok56 (fun s hs => by cases hs) ?_
  refine qb1 ?_
  refine CJ_frz1 (A := [_, _, _]) (wd := 2) [] (fun _ => rfl) (by decide) hok33 (fun s hs => by cases hs) ?_
  refine qb1 ?_
  obtain ⟨R2, hR2e⟩ : ∃ R2, R2 = psl P2.arr :: rsl Q2.arr :: R1 := ⟨_, rfl⟩
  have hR2 : ∀ r ∈ R1, InR r R2 := fun r hr => inR_self (by rw [hR2e]; exact .tail _ (.tail _ hr))
  have hA2 := airR_mono hA hR2
  have hT2 := setR_mono hT hR2
  obtain ⟨b, hbe⟩ : ∃ b : XAir, b = ⟨⟨P2.arr, Q2.arr⟩, a.fans, a.doors⟩ := ⟨_, rfl⟩
  have hB : AirR b R2 := by
    rw [hbe]
    exact ⟨inR_self (by rw [hR2e]; exact .head _), inR_self (by rw [hR2e]; exact .tail _ (.head _)), hA2.fans, hA2.doors⟩
  refine CJ_weak (R' := R2) (List.Sublist.refl _) (fun r hr => inR_self (by rw [hR2e] at hr; exact hr)) ?_
  have hSu : Surfaced a b ⟨0, true⟩ rd := by
    rw [hbe]
    exact ⟨by show P2.l = _; rw [hP2], by show Q2.l = _; rw [hQ2], rfl, rfl, by rw [hrd], by rw [hrd]; show (P2.l.length : Int) - 1 = _; omega, rfl, hMA.surf0, hae⟩
  have hbn : b.mine.places.l.length = a.mine.places.l.length + 1 := by rw [hSu.places]; simp
  have hbr : b.mine.roads.l.length = a.mine.roads.l.length + 1 := by rw [hSu.roads]; simp
  have hrde : roadErr b.mine.places.l.length rd = none := by
    rw [hrd, hbn]
    exact roadErr_none ⟨by dsimp only; omega, by dsimp only; omega, by dsimp only; omega, by dsimp only; omega, by dsimp only; omega⟩ (by dsimp only; omega) (by dsimp only; omega)
  have hberr : airErr b = 0 := by
    obtain ⟨m1, m2⟩ := mine_parts2 (airErr_mine hMA.err)
    refine airErr_zero (mineErr_zero (by omega) (by omega) (fun q hq => ?_) (fun q hq => ?_)) (by rw [hSu.fans]; exact hae.nfans) (fun f hf => ?_) (by rw [hSu.doors]; exact hae.ndoors) (fun d hd => ?_)
    · rw [hSu.places] at hq
      rcases List.mem_append.1 hq with h | h
      · have := List.findSome?_eq_none_iff.1 m1 q h
        unfold placeErr at this
        split at this
        · cases this
        · omega
      · rw [List.mem_singleton.1 h]; decide
    · rw [hSu.roads] at hq
      rcases List.mem_append.1 hq with h | h
      · obtain ⟨i, hi⟩ := List.mem_iff_getElem?.1 h
        have h1 := hae.mine.road i q hi
        have h2 := List.findSome?_eq_none_iff.1 m2 q h
        rw [hbn]
        unfold roadErr at h2 ⊢
        split at h2
        · cases h2
        · split at h2
          · cases h2
          · rename_i g1 g2
            rw [if_neg (by omega), if_neg g2]
      · rw [List.mem_singleton.1 h]; exact hrde
    · rw [hSu.fans] at hf
      obtain ⟨i, hi⟩ := List.mem_iff_getElem?.1 hf
      have := hae.fan i f hi
      exact ⟨this.1, by omega⟩
    · rw [hSu.doors] at hd
      obtain ⟨i, hi⟩ := List.mem_iff_getElem?.1 hd
      have := hae.door i d hi
      exact ⟨⟨this.1, (hMA.rests d hd).other⟩, by omega⟩
  have hbfit : fitB b s = true := by
    have e : fitB b s = fitB a s := by unfold fitB; rw [hSu.fans, hSu.doors]
    rw [e]; exact hMA.fit
  refine qay ?_
  refine qbe ?_
  refine qab ?_
  refine qac ?_
  refine qab ?_
  refine qac ?_
  refine LJ_q (yv_build (qs := [(0, (Value.agg _).cells.toList), (1, (Value.slice _ _ _).cells.toList), (2, (Value.slice _ _ _).cells.toList)]) (out := [_, _, _, _]) tb rfl rfl rfl rfl) rfl ?_
  refine qaq ?_
  intro b12
  refine qak ?_
  refine qa4 ?_
  refine CJ_L (show _ = ⟨b12, b.cells, 32⟩ :: _ by rw [hbe]; rfl) ?_
  refine qay ?_
  refine qa8 ?_
  refine qbe ?_
  refine LJ_call rfl (relSolve_tri a s A _ _ hA2 hT2 (fun _ => hAA) (by omega)) rfl ?_
  rintro v L' R' ⟨lo, hi, rfl, h1, h2, h3, h4, rfl, rfl⟩
  refine LJ_q (yv_move rfl) rfl ?_
  refine qbs ?_
  refine qbs ?_
  refine qaq ?_
  intro b13
  refine qak ?_
  refine qad ?_
  refine qam ?_
  refine qa8 ?_
  refine qbe ?_
  refine LJ_call rfl (relSolve_tri b s (A ++ [true]) _ _ hB hT2 (fun _ => hSu.airy hAA) (by omega)) rfl ?_
  rintro v L' R' ⟨lo2, hi2, rfl, h5, h6, h7, h8, rfl, rfl⟩
  refine LJ_q (yv_move rfl) rfl ?_
  refine qbs ?_
  refine qbs ?_
  refine qaq ?_
  intro b15
  refine qak ?_
  refine qad ?_
  refine qco ?_
  have hsol := hSu.solve hAl hMA.err hMA.fit hberr hbfit
  have hse : (solveS b s (A ++ [true])).1 = (solveS a s A).1 := by
    rw [hsol]
    split
    · rename_i h; exact h.symm
    · rfl
  rw [hse]
  refine CJ_frz1 (A := [_]) (wd := 1) [] (fun _ => rfl) (by decide) h5 (fun s hs => by cases hs) ?_
  refine qb1 ?_
  refine CJ_frz1 (A := [_]) (wd := 1) [] (fun _ => rfl) (by decide) h6 (fun s hs => by cases hs) ?_
  refine qb1 ?_
  refine CJ_frz1 (A := [_, _]) (wd := 1) [] (fun _ => rfl) (by decide) h1 (fun s hs => by cases hs) ?_
  refine qb1 ?_
  refine CJ_frz1 (A := [_, _]) (wd := 1) [] (fun _ => rfl) (by decide) h2 (fun s hs => by cases hs) ?_
  refine qb1 ?_
  obtain ⟨R3, hR3e⟩ : ∃ R3, R3 = isl hi.arr :: isl lo.arr :: isl hi2.arr :: isl lo2.arr :: R2 := ⟨_, rfl⟩
  have hR3 : ∀ r ∈ R2, InR r R3 := fun r hr => inR_self (by rw [hR3e]; simp [hr])
  have k1R : InR (isl lo.arr) R3 := inR_self (by rw [hR3e]; simp)
  have k2R : InR (isl hi.arr) R3 := inR_self (by rw [hR3e]; simp)
  have k3R : InR (isl lo2.arr) R3 := inR_self (by rw [hR3e]; simp)
  have k4R : InR (isl hi2.arr) R3 := inR_self (by rw [hR3e]; simp)
  refine CJ_weak (R' := R3) (List.Sublist.refl _) (fun r hr => inR_self (by rw [hR3e] at hr; exact hr)) ?_
  refine qay ?_
  refine qaa ?_
  refine qaa ?_
  refine qbq ?_
  refine qaf ?_
  refine q_c (fun hc0 => ?_) (fun hc0 => ?_)
  ·
   exact absurd trivial hc0
  ·
   refine qbo ?_
   refine qaa ?_
   refine qbq ?_
   refine qaf ?_
   refine q_c (fun hc1 => ?_) (fun hc1 => ?_)
   ·
    refine qae ?_
    refine q_l rfl (awake12_tri _ _) ?_
    refine qaz ?_
    refine qbh ?_
    refine retK_ret (L' := []) (R' := R) (res1 rfl (rv_tmp (show _ = Value.bool _ from rfl))) ?hp ?hL ?hR
    case hp => exact ⟨rfl, rfl, rfl⟩
    case hL => exact List.nil_sublist _
    case hR => exact fun r hr => ((hR0 r hr).mono hR2).mono hR3
   ·
    have hs0 : (solveS a s A).1 = 0 := by omega
    rw [hsol, if_pos hs0] at h7 h8
    dsimp only at h7 h8
    rw [← h3] at h7
    rw [← h4] at h8
    obtain ⟨⟨n1, _⟩, ⟨n2, _⟩⟩ := solveS_ok hs0
    rw [← h3] at n1
    rw [← h4] at n2
    have n3 : lo2.l.length = a.mine.places.l.length + 1 := by rw [h7]; simp [n1]
    have n4 : hi2.l.length = a.mine.places.l.length + 1 := by rw [h8]; simp [n2]
    have t1 : lo.l = lo2.l.take a.mine.places.l.length := by rw [h7, ← n1]; simp
    have t2 : hi.l = hi2.l.take a.mine.places.l.length := by rw [h8, ← n2]; simp
    have z1 : lo2.l[a.mine.places.l.length]? = some 0 := by rw [h7, ← n1, List.getElem?_append_right (Nat.le_refl _)]; simp
    have z2 : hi2.l[a.mine.places.l.length]? = some 0 := by rw [h8, ← n2, List.getElem?_append_right (Nat.le_refl _)]; simp
    refine qbv ?_
    refine qab ?_
    refine qab ?_
    refine qac ?_
    refine qag ?_
    refine qad ?_
    refine qa4 ?_
    refine CJ_takeA a.mine.places.l.length k3R ?_
    refine CJ_takeA a.mine.places.l.length (k4R.mono fun r h => inR_self (.tail _ h)) ?_
    obtain ⟨R4, hR4e⟩ : ∃ R4, R4 = isl ⟨hi2.arr.a, hi2.arr.cap, hi2.arr.l.take a.mine.places.l.length⟩ :: isl ⟨lo2.arr.a, lo2.arr.cap, lo2.arr.l.take a.mine.places.l.length⟩ :: R3 := ⟨_, rfl⟩
    have hR4 : ∀ r ∈ R3, InR r R4 := fun r hr => inR_self (by rw [hR4e]; simp [hr])
    have m1R := k1R.mono hR4
    have m2R := k2R.mono hR4
    have m3R := k3R.mono hR4
    have m4R := k4R.mono hR4
    have m5R : InR (isl ⟨lo2.arr.a, lo2.arr.cap, lo2.arr.l.take a.mine.places.l.length⟩) R4 := inR_self (by rw [hR4e]; simp)
    have m6R : InR (isl ⟨hi2.arr.a, hi2.arr.cap, hi2.arr.l.take a.mine.places.l.length⟩) R4 := inR_self (by rw [hR4e]; simp)
    refine CJ_weak (R' := R4) (List.Sublist.refl _) (fun r hr => inR_self (by rw [hR4e] at hr; exact hr)) ?_
    refine CJ_drawn tb [0, 1, 2, 3, 4, 5, 6, 7, 8, 9, 10, 11, 12, 13, 14, 15, 16, 17, 18, 19, 20, 21, 22, 23, 24, 25, 26, 27, 28, 29, 30, 31, 32, 33, 34, 35, 36, 37, 38, 39, 40, 41, 42, 43, 44, 45, 46, 47, 48, 49, 50, 51] ([Blk.mk b15 _ _, Blk.mk b13 _ _]) mixed (by kernel_rfl) (by repeat (first | exact zs0 _ | exact zs1 _ | apply zs2 | apply zs3 | apply zs4 | apply zs5)) ?_
    have c1 := ow_cap h5
    have c2 := ow_cap h6
    have c3 : (lo2.l.take a.mine.places.l.length).length = a.mine.places.l.length := by simp [n3]
    have c4 : (hi2.l.take a.mine.places.l.length).length = a.mine.places.l.length := by simp [n4]
    refine qal ?_
    refine qat ?_
    refine DJ_q (yv_len tb rfl rfl rfl) rfl rfl rfl ?_
    refine qao ?_
    refine qc2 ?_
    refine DJ_q (yv_eql rfl rfl) rfl rfl rfl ?_
    refine qb2 ?_
    refine DJ_case (k := 92) (show _ = Value.bool _ from rfl) (fun hg6 => ?_) (fun hg6 => ?_)
    ·
     replace hg6 := qb hg6
     refine qal ?_
     refine qat ?_
     refine DJ_q (yv_len tb rfl rfl rfl) rfl rfl rfl ?_
     refine qao ?_
     refine qc2 ?_
     refine DJ_q (yv_eql rfl rfl) rfl rfl rfl ?_
     refine qbp ?_
     refine qb2 ?_
     refine DJ_case (k := 100) (show _ = Value.bool _ from rfl) (fun hg14 => ?_) (fun hg14 => ?_)
     ·
      replace hg14 := qb hg14
      refine qal ?_
      refine qat ?_
      refine qal ?_
      refine qat ?_
      refine qao ?_
      refine DJ_q (yv_slice_h tb rfl rfl rfl rfl (n := (lo2.l.take a.mine.places.l.length).length) (by first | rfl | omega | (simp; omega)) (by omega)) rfl rfl rfl ?_
      refine q_d rfl (ints_tri lo.arr ⟨lo2.arr.a, lo2.arr.cap, lo2.arr.l.take a.mine.places.l.length⟩ _ _ m1R m5R t1) ?_
      refine qbp ?_
      refine qb2 ?_
      refine DJ_case (k := 109) (show _ = Value.bool _ from rfl) (fun hg23 => ?_) (fun hg23 => ?_)
      ·
       replace hg23 := qb hg23
       refine qal ?_
       refine qat ?_
       refine qal ?_
       refine qat ?_
       refine qao ?_
       refine DJ_q (yv_slice_h tb rfl rfl rfl rfl (n := (hi2.l.take a.mine.places.l.length).length) (by first | rfl | omega | (simp; omega)) (by omega)) rfl rfl rfl ?_
       refine q_d rfl (ints_tri hi.arr ⟨hi2.arr.a, hi2.arr.cap, hi2.arr.l.take a.mine.places.l.length⟩ _ _ m2R m6R t2) ?_
       refine qbp ?_
       refine qb2 ?_
       refine DJ_case (k := 118) (show _ = Value.bool _ from rfl) (fun hg32 => ?_) (fun hg32 => ?_)
       ·
        replace hg32 := qb hg32
        refine qal ?_
        refine qat ?_
        refine qao ?_
        clear m5R m6R
        refine DJ_q (by first | exact yv_index_ro tb rfl rfl rfl rfl (by first | assumption | exact zr (by simp)) (i := a.mine.places.l.length) (by first | rfl | omega | (simp; omega)) (by omega) | exact yv_index tb rfl rfl rfl rfl (i := a.mine.places.l.length) (by first | rfl | omega | (simp; omega)) (by omega)) rfl rfl rfl ?_
        refine qbl ?_
        refine DJ_q (yv_eql rfl rfl) rfl rfl rfl ?_
        refine qbp ?_
        refine qb2 ?_
        refine DJ_case (k := 126) (show _ = Value.bool _ from rfl) (fun hg40 => ?_) (fun hg40 => ?_)
        ·
         replace hg40 := qb hg40
         refine qal ?_
         refine qat ?_
         refine qao ?_
         refine DJ_q (by first | exact yv_index_ro tb rfl rfl rfl rfl (by first | assumption | exact zr (by simp)) (i := a.mine.places.l.length) (by first | rfl | omega | (simp; omega)) (by omega) | exact yv_index tb rfl rfl rfl rfl (i := a.mine.places.l.length) (by first | rfl | omega | (simp; omega)) (by omega)) rfl rfl rfl ?_
         refine qbl ?_
         refine DJ_q (yv_eql rfl rfl) rfl rfl rfl ?_
         refine qbp ?_
         refine qb2 ?_
         refine DJ_case (k := 134) (show _ = Value.bool _ from rfl) (fun hg48 => ?_) (fun hg48 => ?_)
         ·
          replace hg48 := qb hg48
          refine q_d rfl (awake12_tri _ _) ?_
          refine qbp ?_
          refine DJ_q (yv_assign (show _ = Value.bool _ from rfl)) rfl rfl rfl ?_
          refine DJ_nil (seqK_normal (CJ_ret ?_))
          refine retK_ret (L' := []) (R' := R) (res1 rfl (rv_tmp (show _ = Value.bool _ from rfl))) ?hp ?hL ?hR
          case hp => exact ⟨rfl, rfl, rfl⟩
          case hL => exact List.nil_sublist _
          case hR => exact fun r hr => (((hR0 r hr).mono hR2).mono hR3).mono hR4
         ·
          replace hg48 := qb hg48
          simp at hg48
        ·
         replace hg40 := qb hg40
         simp at hg40
       ·
        replace hg32 := qb hg32
        simp at hg32
      ·
       replace hg23 := qb hg23
       simp at hg23
     ·
      replace hg14 := qb hg14
      exact absurd (show ((hi2.l.length : Nat) : Int) = (a.mine.places.l.length : Int) + 1 by omega) hg14
    ·
     replace hg6 := qb hg6
     exact absurd (show ((lo2.l.length : Nat) : Int) = (a.mine.places.l.length : Int) + 1 by omega) hg6
end Go.Proofs.Ytjjfpglgonpciaa
