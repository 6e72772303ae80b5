/-
  Statements about chapter 10: what holds in a state that fits, and at a least pressure. By an AI agent; no person has read it.
-/
import Derived.Test.YtdnhinkamcfpkaaLaw10a
set_option linter.unusedSimpArgs false
set_option linter.unusedVariables false
namespace Go.Proofs.Ytdnhinkamcfpkaa
open Go.Aw Go
set_option maxRecDepth 20000
attribute [local irreducible] CJ LJ DJ Tri YV Gives seqK blockK loopK retK RV mergeK OwL.L

theorem top_tri (ps : Arr Int) (k : Int) (L : List Blk) (R : List Sl) (hps : InR (isl ps) R) (hk : 0 ≤ k ∧ k < ps.l.length) (hn : ps.l.length ≤ 64) :
    Tri Try.prog 23 [ps.val, .int .i64 k].toArray L R (fun w L' R' => ∃ p : OwL Int, w = p.val ∧ p.ok 1 icell ∧ p.l = ps.l.set k.toNat 70368744177664 ∧ p.L 3 icell ++ L = L' ∧ R = R') := by
  have hg := get_D (l := ps.l) (k := k.toNat) 0 (by omega)
  refine tri_enter 12 Try.call23 Try.func23 rfl rfl rfl ?_
  refine qae ?_
  refine qc4 ?_
  refine qam ?_
  refine qbm ?_
  refine LJ_g (gives_copy (f := icell) (xs := ps) tb rfl rfl rfl (by decide) rfl rfl (hps) (fun _ => rfl) (by omega)) rfl ?_
  rintro v L' R' ⟨o7, rfl, hok7, rfl, rfl⟩
  refine qc4 ?_
  refine qam ?_
  refine qbm ?_
  refine qaa ?_
  refine LJ_q (yv_index_ow tb ((⟨o7, ps.l⟩ : OwL Int)) _ rfl rfl rfl rfl (by assumption) (i := k.toNat) (by first | rfl | omega | (simp; omega)) (by first | omega | (dsimp only; omega) | (dsimp only; rw [List.length_set]; omega))) rfl ?_
  refine LJ_g0 (gives_store1_ow tb ((⟨o7, ps.l⟩ : OwL Int)) (70368744177664) rfl rfl rfl rfl (by repeat (first | apply OSeg.cons | exact OSeg.here | exact OSeg.last | exact OSeg.at (by assumption) | apply OSeg.app)) (by assumption) (fun _ => rfl) (by assumption) (by decide) (by rfl) (by rfl)) ?_
  rintro v L' R' ⟨rfl, rfl⟩
  refine qam ?_
  refine qbm ?_
  refine qc4 ?_
  refine qa0 ?_
  refine q_r (L' := (⟨o7, ps.l.set k.toNat 70368744177664⟩ : OwL Int).L 3 icell ++ L) (R' := R) (res1 rfl (rv_tmp (show _ = Value.slice _ _ _ from rfl))) ?_
  exact ⟨⟨o7, ps.l.set k.toNat 70368744177664⟩, setv, OwL.len_ok icell_len hok7 (by simp), rfl, rfl, rfl⟩
theorem First.start {g : Int → Bool} {st z : Int} (h : First g st true z true) : st ≤ z ∧ z ≤ 70368744177664 ∧ g z = true ∧ (z = st ∨ g (z - 1) = false) := by
  obtain ⟨m, m0, m1, mv, mg, mj⟩ := h.yes rfl
  simp only [sgn, room, if_true, Int.one_mul] at m1 mv mj
  refine ⟨by omega, by omega, mg, ?_⟩
  rcases Int.lt_or_le 0 m with h' | h'
  · right
    have := mj (m - 1) (by omega) (by omega)
    rwa [show st + (m - 1) = z - 1 from by omega] at this
  · left; omega
theorem First.none {g : Int → Bool} {st z : Int} (h : First g st true z false) (hs : -70368744177664 ≤ st ∧ st ≤ 70368744177664) : g 70368744177664 = false := by
  have := (h.no rfl).2 (70368744177664 - st) (by omega) (by simp [room])
  simp only [sgn, if_true, Int.one_mul] at this
  rwa [show st + (70368744177664 - st) = 70368744177664 from by omega] at this

theorem balanceHolds_law (y : Arr Int) (place : Int) (R : List Sl) (hy : CodesR y R) (h1 : I64 place) :
    Tri Try.prog 5 [y.val, .int .i64 place].toArray [] R (fun v L' R' => v = .bool true ∧ [] = L' ∧ R = R') := by
  refine tri_enter 148 Try.call5 Try.func5 rfl rfl rfl ?_
  refine qae ?_
  refine qaz ?_
  refine qam ?_
  refine qbm ?_
  refine LJ_call rfl (new_tri y _ _ hy) rfl ?_
  rintro v L' R' ⟨c, rfl, hx, rfl, rfl⟩
  refine qc1 ?_
  refine qam ?_
  refine qa6 ?_
  refine LJ_call rfl (made1 (.consL .nil) hx (Nat.zero_le _)) rfl ?_
  rintro v L' R' ⟨m, k1, S, rfl, hm, hMA, hif, hid, hk1, rfl, rfl⟩
  simp only [List.append_assoc, List.cons_append, List.nil_append]
  refine LJ_q (yv_move rfl) rfl ?_
  refine qbs ?_
  refine qbs ?_
  refine qbs ?_
  refine qaq ?_
  intro b6
  refine qaq ?_
  intro b7
  refine qaq ?_
  intro b8
  refine qak ?_
  refine qak ?_
  refine qak ?_
  refine qco ?_
  refine CJ_made (A := []) hm hMA (fun f hf => (hif f hf).mono fun r hr => inR_self (by simp [hr])) (fun f hf => (hid f hf).mono fun r hr => inR_self (by simp [hr])) fun a s x R1 hMA hA hT hX hR1 => ?_
  refine qb1 ?_
  obtain ⟨_, hae, hff, hri, hfo⟩ := hMA.b
  have hx1 : CodesR (codes300 y) R1 := hx.mono fun r hr => hR1 r (by simp [hr])
  have hnp := hMA.nplaces
  have hR0 : ∀ r ∈ R, InR r R1 := fun r hr => hR1 r (by simp [hr])
  have hplen := hff.plen
  have hpp : PresOk x.pres.l := hff.pres
  have hpl := hA.places
  have nx : ∀ i : Nat, i < a.mine.places.l.length → netS a s x.pres.l i = ⟨lowN a s x.pres.l i, highN a s x.pres.l i⟩ := fun i hi => by rw [netS, if_pos (rightN_iff.2 ⟨hri, hplen, by omega, by omega, presOk_none hpp⟩)]
  refine qay ?_
  refine qab ?_
  refine qab ?_
  refine qac ?_
  refine qag ?_
  refine qaa ?_
  refine qa2 ?_
  refine CJ_forget [(1, Value.int _ _), (5, Value.pointer _), (6, Value.pointer _), (7, Value.pointer _), (8, Value.pointer _), (28, Value.slice _ _ _), (29, Value.int _ _), (30, Value.int _ _)] (by repeat' (first | exact trivial | refine And.intro rfl ?_)) fun tq0 => ?_
  refine q_s [4, 9, 10, 11, 30, 31, 32, 33, 34, 35, 36, 37, 38, 39, 40, 41, 42, 43, 44, 45, 46, 47, 48, 49, 50, 51, 52, 53, 54] (fun g : {k : Nat // k ≤ a.mine.places.l.length} => [(30, .int .i64 ((g.1 : Nat) : Int))]) (fun g => a.mine.places.l.length - g.1) (⟨0, by omega⟩) ?_
  rintro ⟨i, hi⟩ junk
  try dsimp only
  refine qae ?_
  refine qaj ?_
  refine qa4 ?_
  refine q_c (fun hc0 => ?_) (fun hc0 => ?_)
  ·
   have hpg := get_D (l := a.mine.places.l) (k := i) default (by omega)
   have hbal := fun h => hff.balance hae (v := i) (by omega) h
   refine qbb ?_
   refine qaa ?_
   refine qa3 ?_
   refine qdl ?_
   refine qaq ?_
   intro b10
   refine qad ?_
   refine qak ?_
   refine qam ?_
   refine qa8 ?_
   refine qbe ?_
   refine qab ?_
   refine qac ?_
   refine qaa ?_
   refine q_l rfl (balNet_tri a s x.pres i _ _ hA hT hX.pres) ?_
   rw [nx i (by omega)]
   refine qaq ?_
   intro b11
   refine qak ?_
   refine qam ?_
   refine qab ?_
   refine qac ?_
   refine qb4 ?_
   refine qah ?_
   apply LJ_and (G := [_, _, _, _, _, _, _, _]) (j := 3) (cj := 44) rfl rfl (by rfl) rfl (show _ = Value.bool _ from rfl) rfl
   ·
    intro hg4
    replace hg4 := qb hg4
    refine qab ?_
    refine qac ?_
    refine qa5 ?_
    refine qah ?_
    apply LJ_or (G := [_, _, _]) (j := 7) (cj := 48) rfl rfl (by rfl) rfl (show _ = Value.bool _ from rfl) rfl
    ·
     intro hg8
     replace hg8 := qb hg8
     refine qab ?_
     refine qac ?_
     refine qaj ?_
     exact qai
    intro junk8
    exact qai
   intro junk4
   refine qaf ?_
   refine q_c (fun hc1 => ?_) (fun hc1 => ?_)
   ·
    (exfalso; obtain ⟨hs, hq⟩ := hc1; have := hbal (by simpa using hs); omega)
   ·
    refine qbj ?_
    refine qar ?_
    refine qaa ?_
    refine qav ?_
    exact q_k ⟨i + 1, by omega⟩
  ·
   refine qbk ?_
   refine qa6 ?_
   refine qa8 ?_
   refine qbe ?_
   refine LJ_call rfl (around1 (.consB (.consB (.consB (.consL .nil)))) hx1 hk1 hA hX hMA) rfl ?_
   rintro v L' R' ⟨l, k2, rfl, hl, hal, hk2, rfl, rfl⟩
   simp only [List.append_assoc, List.cons_append, List.nil_append]
   refine qc4 ?_
   refine qa4 ?_
   refine CJ_frz1 (A := [_, _, _]) (wd := 1) [] (fun _ => rfl) (by decide) hl (fun s hs => by cases hs) ?_
   refine qb1 ?_
   have hllen := hal.len
   have hla : l.arr.l.length = l.l.length := rfl
   have hR2 : ∀ r ∈ R1, InR r (isl l.arr :: R1) := fun r hr => inR_self (.tail _ hr)
   have hA2 := airR_mono hA hR2
   have hT2 := setR_mono hT hR2
   have hX2 := stateR_mono hX hR2
   have hl2 : InR (isl l.arr) (isl l.arr :: R1) := inR_self (.head _)
   have hlp := hal.pres
   refine qay ?_
   refine qaa ?_
   refine qbm ?_
   refine qag ?_
   refine q_l rfl (mod_tri _ _ _ _ h1 (by omega)) ?_
   refine qad ?_
   refine qa4 ?_
   have hkb := modS_bounds (k := place) (n := (l.l.length : Int)) (by omega)
   obtain ⟨k, hk⟩ : ∃ k, k = modS place (l.l.length : Int) := ⟨_, rfl⟩
   rw [← hk] at hkb ⊢
   have hkg := get_D (l := l.l) (k := k.toNat) 0 (by omega)
   have hst := hlp.get k.toNat
   have rN : ∀ v, -70368744177664 ≤ v ∧ v ≤ 70368744177664 → ∀ w : List Int, w = l.l.set k.toNat v → netS a s w k = ⟨lowN a s (l.l.set k.toNat v) k, highN a s (l.l.set k.toNat v) k⟩ := fun v hv w hw => by rw [hw, netS, if_pos (rightN_iff.2 ⟨hri, by simp; omega, by omega, by simp; omega, presOk_none (hlp.set _ hv)⟩)]
   refine qay ?_
   refine qa8 ?_
   refine qbe ?_
   refine qbm ?_
   refine qaa ?_
   refine LJ_call rfl (balLeast_tri a s l.arr k _ _ hA2 hT2 hl2) rfl ?_
   rintro v L' R' ⟨z, ok, rfl, hz, rfl, rfl⟩
   have hz : First (lowG a s l.l k) (l.l.getD k.toNat 0) true z ok := by
     have := hz
     rw [LeastS, if_pos (rightN_iff.2 ⟨hri, hllen, by omega, by omega, presOk_none hlp⟩)] at this
     exact this
   refine LJ_q (yv_move rfl) rfl ?_
   refine qbs ?_
   refine qbs ?_
   refine qad ?_
   refine qaz ?_
   refine qaw ?_
   refine qah ?_
   refine qb4 ?_
   refine qah ?_
   apply LJ_or (G := [_, _, _, _, _, _]) (j := 2) (cj := 73) rfl rfl (by rfl) rfl (show _ = Value.bool _ from rfl) rfl
   ·
    intro hg3
    replace hg3 := qb hg3
    refine qaa ?_
    refine qbm ?_
    refine qaa ?_
    refine LJ_q (by first | exact yv_index_ro tb rfl rfl rfl rfl (by first | assumption | exact zr (by simp)) (i := k.toNat) (by first | rfl | omega | (simp; omega)) (by omega) | exact yv_index tb rfl rfl rfl rfl (i := k.toNat) (by first | rfl | omega | (simp; omega)) (by omega)) rfl ?_
    refine qa7 ?_
    refine qaj ?_
    exact qai
   intro junk3
   refine qaf ?_
   refine q_c (fun hc2 => ?_) (fun hc2 => ?_)
   ·
    obtain rfl : ok = false := by
      cases ok with
      | false => rfl
      | true => have := hz.start; rcases hc2 with h | h; cases h; omega
    have hnone := hz.none hst
    rw [decide_eq_false_iff_not] at hnone
    refine CJ_seq ?_
    refine CJ_drawn tb [0, 1, 2, 3, 4, 5, 6, 7, 8, 9, 10, 11, 12, 13, 14, 15, 16, 17, 18, 19, 21, 20, 22, 23, 24, 25, 26, 27] ([Blk.mk b7 _ _, Blk.mk b6 _ _]) mixed (by kernel_rfl) (by repeat (first | exact zs0 _ | exact zs1 _ | apply zs2 | apply zs3 | apply zs4 | apply zs5)) ?_
    refine qb2 ?_
    refine DJ_q (yv_not rfl) rfl rfl rfl ?_
    refine qb2 ?_
    refine DJ_case (k := 83) (show _ = Value.bool _ from rfl) (fun hg2 => ?_) (fun hg2 => ?_)
    ·
     replace hg2 := qb hg2
     refine qal ?_
     refine qal ?_
     refine qat ?_
     refine DJ_q (yv_len tb rfl rfl rfl) rfl rfl rfl ?_
     refine DJ_q (yv_eql rfl rfl) rfl rfl rfl ?_
     refine qbp ?_
     refine qb2 ?_
     refine DJ_case (k := 90) (show _ = Value.bool _ from rfl) (fun hg9 => ?_) (fun hg9 => ?_)
     ·
      replace hg9 := qb hg9
      refine qap ?_
      refine qap ?_
      refine qap ?_
      refine qap ?_
      refine qap ?_
      refine qap ?_
      refine qap ?_
      refine qap ?_
      refine qap ?_
      refine qap ?_
      refine qap ?_
      refine qap ?_
      refine qap ?_
      refine qap ?_
      refine qap ?_
      refine qap ?_
      refine qbp ?_
      refine DJ_q (yv_assign (show _ = Value.bool _ from rfl)) rfl rfl rfl ?_
      refine DJ_nil (seqK_normal (CJ_ret (seqK_ret ?_)))
      refine retK_ret (L' := []) (R' := R) (res1 rfl (rv_tmp (show _ = Value.bool _ from rfl))) ?hp ?hL ?hR
      case hp =>
       refine ⟨?_, rfl, rfl⟩
       first
         | exact congrArg Value.bool hfin
         | rfl
      case hL => exact List.nil_sublist _
      case hR => exact fun r hr => (((hR0 r hr).mono hR2)).mono fun s hs => inR_self (by simp [hs])
     ·
      replace hg9 := qb hg9
      refine qb2 ?_
      refine DJ_q (yv_not rfl) rfl rfl rfl ?_
      refine qb2 ?_
      refine DJ_case (k := 93) (show _ = Value.bool _ from rfl) (fun hg12 => ?_) (fun hg12 => ?_)
      ·
       replace hg12 := qb hg12
       refine q_d rfl (awake10_tri _ _) ?_
       refine qbp ?_
       refine qb2 ?_
       refine DJ_case (k := 96) (show _ = Value.bool _ from rfl) (fun hg15 => ?_) (fun hg15 => ?_)
       ·
        replace hg15 := qb hg15
        refine qbc ?_
        refine qbd ?_
        refine DJ_q (yv_move (show _ = Value.slice _ _ _ from rfl)) rfl rfl rfl ?_
        refine qao ?_
        refine qao ?_
        refine DJ_call rfl (top_tri l.arr k _ _ hl2 (by omega) (by omega)) rfl rfl ?_
        rintro v L' R' ⟨p, rfl, hp, hpl, rfl, rfl⟩
        refine qas ?_
        refine q_d rfl (Tri.lend1 (by repeat (first | exact inB_here | apply inB_cons | apply inB_app)) hp (balNet_tri a s p.arr k [] _ (airR_mono hA2 fun r h => inR_self (.tail _ h)) (setR_mono hT2 fun r h => inR_self (.tail _ h)) (inR_self (.head _)))) ?_
        have hfin : decide ((netS a s p.l k).low < 0) = true := by
          rw [rN 70368744177664 (by omega) p.l hpl]
          exact decide_eq_true (by dsimp only; omega)
        refine DJ_q (yv_fieldv (e := 3) tb rfl (by kernel_rfl) rfl rfl rfl rfl rfl) rfl rfl rfl ?_
        refine DJ_q (yv_lss rfl rfl) rfl rfl rfl ?_
        refine qbp ?_
        refine qbp ?_
        refine DJ_q (yv_assign (show _ = Value.bool _ from rfl)) rfl rfl rfl ?_
        refine DJ_nil (seqK_normal (CJ_ret (seqK_ret ?_)))
        refine retK_ret (L' := []) (R' := R) (res1 rfl (rv_tmp (show _ = Value.bool _ from rfl))) ?hp ?hL ?hR
        case hp =>
         refine ⟨?_, rfl, rfl⟩
         first
           | exact congrArg Value.bool hfin
           | rfl
        case hL => exact List.nil_sublist _
        case hR => exact fun r hr => (((hR0 r hr).mono hR2)).mono fun s hs => inR_self (by simp [hs])
       ·
        replace hg15 := qb hg15
        simp at hg15
      ·
       replace hg12 := qb hg12
       simp at hg12
    ·
     replace hg2 := qb hg2
     simp at hg2
   ·
    obtain rfl : ok = true := by
      cases ok with
      | true => rfl
      | false => exact absurd hc2.1 (by decide)
    obtain ⟨z1, z2, z3, z4⟩ := hz.start
    have z3 := of_decide_eq_true z3
    refine qbv ?_
    refine qbm ?_
    refine LJ_g (gives_copy (f := icell) (xs := l.arr) tb rfl rfl rfl (by decide) rfl rfl (hl2) (fun _ => rfl) (by omega)) rfl ?_
    rintro v L' R' ⟨o109, rfl, hok109, rfl, rfl⟩
    refine qbm ?_
    refine LJ_g (gives_copy (f := icell) (xs := l.arr) tb rfl rfl rfl (by decide) rfl rfl (hl2) (fun _ => rfl) (by omega)) rfl ?_
    rintro v L' R' ⟨o111, rfl, hok111, rfl, rfl⟩
    refine qc4 ?_
    refine qc4 ?_
    refine qam ?_
    refine qbm ?_
    refine qaa ?_
    refine qbm ?_
    refine qaa ?_
    refine qaa ?_
    refine qaa ?_
    refine qa9 ?_
    refine LJ_q (yv_index_ow tb ((⟨o109, l.l⟩ : OwL Int)) _ rfl rfl rfl rfl (by assumption) (i := k.toNat) (by first | rfl | omega | (simp; omega)) (by first | omega | (dsimp only; omega) | (dsimp only; rw [List.length_set]; omega))) rfl ?_
    refine LJ_g0 (gives_store1_ow tb ((⟨o109, l.l⟩ : OwL Int)) (z) rfl rfl rfl rfl (by repeat (first | apply OSeg.cons | exact OSeg.here | exact OSeg.last | exact OSeg.at (by assumption) | apply OSeg.app)) (by assumption) (fun _ => rfl) (by assumption) (by decide) (by rfl) (by rfl)) ?_
    rintro v L' R' ⟨rfl, rfl⟩
    refine LJ_q (yv_index_ow tb ((⟨o111, l.l⟩ : OwL Int)) _ rfl rfl rfl rfl (by assumption) (i := k.toNat) (by first | rfl | omega | (simp; omega)) (by first | omega | (dsimp only; omega) | (dsimp only; rw [List.length_set]; omega))) rfl ?_
    refine LJ_g0 (gives_store1_ow tb ((⟨o111, l.l⟩ : OwL Int)) ((z - 1)) rfl rfl rfl rfl (by repeat (first | apply OSeg.cons | exact OSeg.here | exact OSeg.last | exact OSeg.at (by assumption) | apply OSeg.app)) (by assumption) (fun _ => rfl) (by assumption) (by decide) (by rfl) (by rfl)) ?_
    rintro v L' R' ⟨rfl, rfl⟩
    refine qa4 ?_
    refine CJ_frz1 (A := []) (wd := 1) [] (fun _ => rfl) (by decide) (OwL.len_ok icell_len hok111 (l' := l.l.set k.toNat (z - 1)) (by simp)) (fun s hs => by cases hs) ?_
    refine CJ_frz1 (A := []) (wd := 1) [] (fun _ => rfl) (by decide) (OwL.len_ok icell_len hok109 (l' := l.l.set k.toNat z) (by simp)) (fun s hs => by cases hs) ?_
    have hR3 : ∀ r ∈ isl l.arr :: R1, InR r (isl (⟨o109, l.l.set k.toNat z⟩ : OwL Int).arr :: isl (⟨o111, l.l.set k.toNat (z - 1)⟩ : OwL Int).arr :: isl l.arr :: R1) := fun r hr => inR_self (.tail _ (.tail _ hr))
    have hA3 := airR_mono hA2 hR3
    have hT3 := setR_mono hT2 hR3
    have hl3 := hl2.mono hR3
    have f1 : 0 ≤ (netS a s (l.l.set k.toNat z) k).low := by rw [rN z (by omega) _ rfl]; exact z3
    have f2 : (decide (z = l.l.getD k.toNat 0) || decide ((netS a s (l.l.set k.toNat (z - 1)) k).low < 0)) = true := by
      rcases z4 with h | h
      · rw [decide_eq_true h]; rfl
      · rw [decide_eq_false_iff_not] at h
        by_cases he : z = l.l.getD k.toNat 0
        · rw [decide_eq_true he]; rfl
        · rw [rN (z - 1) (by omega) _ rfl, Bool.or_eq_true]
          exact .inr (decide_eq_true (by dsimp only; omega))
    refine qay ?_
    refine qa8 ?_
    refine qbe ?_
    refine qbm ?_
    refine qaa ?_
    refine q_l rfl (Tri.cast (balNet_tri a s (⟨o109, l.l.set k.toNat z⟩ : OwL Int).arr k _ _ hA3 hT3 (inR_self (.head _))) (by show #[_, _, Value.slice _ (List.length _) _, _] = _; rw [List.length_set]; rfl)) ?_
    refine qcz ?_
    refine qbz ?_
    refine qah ?_
    apply LJ_and (G := [_, _, _, _, _, _, _, _, _, _, _, _, _, _, _]) (j := 7) (cj := 128) rfl rfl (by rfl) rfl (show _ = Value.bool _ from rfl) rfl
    ·
     intro hg8
     replace hg8 := qb hg8
     refine qaa ?_
     refine qbm ?_
     refine qaa ?_
     refine LJ_q (by first | exact yv_index_ro tb rfl rfl rfl rfl (by first | assumption | exact zr (by simp)) (i := k.toNat) (by first | rfl | omega | (simp; omega)) (by omega) | exact yv_index tb rfl rfl rfl rfl (i := k.toNat) (by first | rfl | omega | (simp; omega)) (by omega)) rfl ?_
     refine qa7 ?_
     refine qbn ?_
     refine qah ?_
     apply LJ_or (G := [_, _, _, _, _, _, _]) (j := 14) (cj := 135) rfl rfl (by rfl) rfl (show _ = Value.bool _ from rfl) rfl
     ·
      intro hg15
      replace hg15 := qb hg15
      refine qa8 ?_
      refine qbe ?_
      refine qbm ?_
      refine qaa ?_
      refine q_l rfl (Tri.cast (balNet_tri a s (⟨o111, l.l.set k.toNat (z - 1)⟩ : OwL Int).arr k _ _ hA3 hT3 (inR_self (.tail _ (.head _)))) (by show #[_, _, Value.slice _ (List.length _) _, _] = _; rw [List.length_set]; rfl)) ?_
      refine qcz ?_
      refine qaj ?_
      exact qai
     intro junk15
     exact qai
    intro junk8
    refine qah ?_
    apply LJ_and (G := [_]) (j := 24) (cj := 145) rfl rfl (by rfl) rfl (show _ = Value.bool _ from rfl) rfl
    ·
     intro hg25
     replace hg25 := qb hg25
     refine q_l rfl (awake10_tri _ _) ?_
     exact qai
    intro junk25
    refine qaz ?_
    refine qa0 ?_
    refine retK_ret (L' := []) (R' := R) (res1 rfl (rv_tmp (show _ = Value.bool _ from rfl))) ?hp ?hL ?hR
    case hp => exact ⟨by rw [decide_eq_true f1, f2]; rfl, rfl, rfl⟩
    case hL => exact List.nil_sublist _
    case hR => exact fun r hr => ((((hR0 r hr).mono hR2)).mono hR3).mono fun s hs => inR_self (by simp [hs])
end Go.Proofs.Ytdnhinkamcfpkaa
