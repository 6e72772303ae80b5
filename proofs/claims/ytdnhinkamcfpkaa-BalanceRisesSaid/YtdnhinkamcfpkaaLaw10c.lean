/-
  Statements about chapter 10: what leaves a place rises. By an AI agent; no person has read it.
-/
import Derived.Test.YtdnhinkamcfpkaaLaw10a
import Derived.Test.YtdnhinkamcfpkaaNets
set_option linter.unusedSimpArgs false
set_option linter.unusedVariables false
namespace Go.Proofs.Ytdnhinkamcfpkaa
open Go.Aw Go
set_option maxRecDepth 20000
attribute [local irreducible] CJ LJ DJ Tri YV Gives seqK blockK loopK retK RV mergeK OwL.L

theorem above_own {l : List Int} {k : Int} {m : Int} (hk : k.toNat < l.length) (hm : 0 ≤ m) : Above l (l.set k.toNat (l.getD k.toNat 0 + m)) k :=
  ⟨by rw [getD_setK hk, if_pos rfl]; omega, fun j hj => by rw [getD_setK hk, if_neg hj]; exact Int.le_refl _⟩
theorem above_other {l : List Int} {k o : Int} {m : Int} (ho : o.toNat < l.length) (hne : o.toNat ≠ k.toNat) (hm : 0 ≤ m) : Above (l.set o.toNat (l.getD o.toNat 0 + m)) l k :=
  ⟨by rw [getD_setK ho, if_neg (fun e => hne e.symm)]; exact Int.le_refl _, fun j hj => by rw [getD_setK ho]; split; rename_i e; rw [e]; omega; exact Int.le_refl _⟩

theorem balanceRises_law (y : Arr Int) (place other more : Int) (R : List Sl) (hy : CodesR y R) (h1 : I64 place) (h2 : I64 other) (h3 : 0 ≤ more ∧ more ≤ 65535) :
    Tri Try.prog 4 [y.val, .int .i64 place, .int .i64 other, .int .u16 more].toArray [] R (fun v L' R' => v = .bool true ∧ [] = L' ∧ R = R') := by
  refine tri_enter 97 Try.call4 Try.func4 rfl rfl rfl ?_
  refine qae ?_
  refine qaz ?_
  refine qam ?_
  refine qbm ?_
  refine LJ_call rfl (new_tri y _ _ hy) rfl ?_
  rintro v L' R' ⟨c, rfl, hx, rfl, rfl⟩
  refine qc1 ?_
  refine qam ?_
  refine qa6 ?_
  refine LJ_call rfl (made1 (.consL .nil) hx (Nat.zero_le _)) rfl ?_
  rintro v L' R' ⟨m, k1, S, rfl, hm, hMA, hif, hid, hk1, rfl, rfl⟩
  simp only [List.append_assoc, List.cons_append, List.nil_append]
  refine LJ_q (yv_move rfl) rfl ?_
  refine qbs ?_
  refine qbs ?_
  refine qbs ?_
  refine qaq ?_
  intro b10
  refine qaq ?_
  intro b11
  refine qaq ?_
  intro b12
  refine qak ?_
  refine qak ?_
  refine qak ?_
  refine qa4 ?_
  refine CJ_made (A := []) hm hMA (fun f hf => (hif f hf).mono fun r hr => inR_self (by simp [hr])) (fun f hf => (hid f hf).mono fun r hr => inR_self (by simp [hr])) fun a s x R1 hMA hA hT hX hR1 => ?_
  refine qb1 ?_
  obtain ⟨_, hae, hff, hri, hfo⟩ := hMA.b
  have hx1 : CodesR (codes300 y) R1 := hx.mono fun r hr => hR1 r (by simp [hr])
  have hnp := hMA.nplaces
  have hR0 : ∀ r ∈ R, InR r R1 := fun r hr => hR1 r (by simp [hr])
  refine qay ?_
  refine qa6 ?_
  refine qa8 ?_
  refine qbe ?_
  refine LJ_call rfl (around1 (.consB (.consB (.consB (.consL .nil)))) hx1 hk1 hA hX hMA) rfl ?_
  rintro v L' R' ⟨l, k2, rfl, hl, hal, hk2, rfl, rfl⟩
  simp only [List.append_assoc, List.cons_append, List.nil_append]
  refine qc4 ?_
  refine qa4 ?_
  refine CJ_frz1 (A := [_, _, _]) (wd := 1) [] (fun _ => rfl) (by decide) hl (fun s hs => by cases hs) ?_
  refine qb1 ?_
  have hllen := hal.len
  have hla : l.arr.l.length = l.l.length := rfl
  have hR2 : ∀ r ∈ R1, InR r (isl l.arr :: R1) := fun r hr => inR_self (.tail _ hr)
  have hA2 := airR_mono hA hR2
  have hT2 := setR_mono hT hR2
  have hX2 := stateR_mono hX hR2
  have hl2 : InR (isl l.arr) (isl l.arr :: R1) := inR_self (.head _)
  refine qay ?_
  refine qaa ?_
  refine qbm ?_
  refine qag ?_
  refine q_l rfl (mod_tri _ _ _ _ h1 (by omega)) ?_
  refine qaa ?_
  refine qbm ?_
  refine qag ?_
  refine q_l rfl (mod_tri _ _ _ _ h2 (by omega)) ?_
  refine qad ?_
  refine qad ?_
  refine qa4 ?_
  have hkb := modS_bounds (k := place) (n := (l.l.length : Int)) (by omega)
  have hob := modS_bounds (k := other) (n := (l.l.length : Int)) (by omega)
  obtain ⟨k, hk⟩ : ∃ k, k = modS place (l.l.length : Int) := ⟨_, rfl⟩
  obtain ⟨o, ho⟩ : ∃ o, o = modS other (l.l.length : Int) := ⟨_, rfl⟩
  rw [← hk] at hkb ⊢
  rw [← ho] at hob ⊢
  have hog := get_D (l := l.l) (k := o.toNat) 0 (by omega)
  have hobb := hal.val _ (List.mem_of_getElem? hog)
  refine qay ?_
  refine qbm ?_
  refine LJ_g (gives_copy (f := icell) (xs := l.arr) tb rfl rfl rfl (by decide) rfl rfl (hl2) (fun _ => rfl) (by omega)) rfl ?_
  rintro v L' R' ⟨o40, rfl, hok40, rfl, rfl⟩
  refine qc4 ?_
  refine qam ?_
  refine qbm ?_
  refine qaa ?_
  refine LJ_q (yv_index_ow tb ((⟨o40, l.l⟩ : OwL Int)) _ rfl rfl rfl rfl (by assumption) (i := o.toNat) (by first | rfl | omega | (simp; omega)) (by first | omega | (dsimp only; omega) | (dsimp only; rw [List.length_set]; omega))) rfl ?_
  refine LJ_q (yv_load1_ow tb ((⟨o40, l.l⟩ : OwL Int)) rfl rfl rfl (by repeat (first | apply OSeg.cons | exact OSeg.here | exact OSeg.last | exact OSeg.at (by assumption) | apply OSeg.app)) (by assumption) (fun _ => rfl) (by assumption) (by rfl)) rfl ?_
  refine qaa ?_
  refine qdg ?_
  refine qar ?_
  refine LJ_q (yv_index_ow tb ((⟨o40, l.l⟩ : OwL Int)) _ rfl rfl rfl rfl (by assumption) (i := o.toNat) (by first | rfl | omega | (simp; omega)) (by first | omega | (dsimp only; omega) | (dsimp only; rw [List.length_set]; omega))) rfl ?_
  refine LJ_g0 (gives_store1_ow tb ((⟨o40, l.l⟩ : OwL Int)) ((l.l.getD o.toNat 0 + more)) rfl rfl rfl rfl (by repeat (first | apply OSeg.cons | exact OSeg.here | exact OSeg.last | exact OSeg.at (by assumption) | apply OSeg.app)) (by assumption) (fun _ => rfl) (by assumption) (by decide) (by rfl) (by rfl)) ?_
  rintro v L' R' ⟨rfl, rfl⟩
  refine qa4 ?_
  refine CJ_frz1 (A := []) (wd := 1) [] (fun _ => rfl) (by decide) (OwL.len_ok icell_len hok40 (l' := l.l.set o.toNat (l.l.getD o.toNat 0 + more)) (by simp)) (fun s hs => by cases hs) ?_
  refine qb1 ?_
  obtain ⟨up, hup⟩ : ∃ up : Arr Int, up = (⟨o40, l.l.set o.toNat (l.l.getD o.toNat 0 + more)⟩ : OwL Int).arr := ⟨_, rfl⟩
  have hupl : up.l = l.l.set o.toNat (l.l.getD o.toNat 0 + more) := by rw [hup]
  have hupn : up.l.length = l.arr.l.length := by rw [hupl]; simp
  have hupa : up.a = o40.addr := by rw [hup]
  have hupc : up.cap = o40.cap := by rw [hup]
  refine CJ_weak (R' := isl up :: isl l.arr :: R1) (List.Sublist.refl _) (fun r hr => inR_self (by rw [hup] at hr; exact hr)) ?_
  have hR3 : ∀ r ∈ isl l.arr :: R1, InR r (isl up :: isl l.arr :: R1) := fun r hr => inR_self (.tail _ hr)
  have r1 : rightN a s l.l k = true := rightN_iff.2 ⟨hri, hllen, by omega, by omega, presOk_none hal.pres⟩
  have r2 : rightN a s up.l k = true := rightN_iff.2 ⟨hri, by omega, by omega, by omega, presOk_none (by rw [hupl]; exact hal.pres.set _ (by omega))⟩
  have n1 : netS a s l.l k = ⟨lowN a s l.l k, highN a s l.l k⟩ := by rw [netS, if_pos r1]
  have n2 : netS a s up.l k = ⟨lowN a s up.l k, highN a s up.l k⟩ := by rw [netS, if_pos r2]
  have hle := lowN_le_highN (s := s) (ps := l.l) (v := k) hae
  refine CJ_drawn tb [0, 1, 2, 3, 5, 6, 7, 8, 4, 9, 10, 11, 12, 13] _ mixed (by kernel_rfl) (List.Sublist.refl _) ?_
  refine qbc ?_
  refine qbd ?_
  refine DJ_q (yv_move (show _ = Value.slice _ _ _ from rfl)) rfl rfl rfl ?_
  refine qao ?_
  refine qbc ?_
  refine qbd ?_
  refine DJ_q (yv_move (show _ = Value.slice _ _ _ from rfl)) rfl rfl rfl ?_
  refine qao ?_
  refine q_d rfl (balNet_tri a s l.arr k _ _ (airR_mono hA2 hR3) (setR_mono hT2 hR3) (hl2.mono hR3)) ?_
  refine q_d rfl (Tri.cast (balNet_tri a s up k _ _ (airR_mono hA2 hR3) (setR_mono hT2 hR3) (inR_self (.head _))) (by show #[_, _, Value.slice up.a up.l.length up.cap, _] = _; rw [hupa, hupn, hupc]; rfl)) ?_
  refine qbr ?_
  intro b17
  refine qbr ?_
  intro b18
  refine qbg ?_
  refine qbg ?_
  refine DJ_nil (seqK_normal (CJ_seq (CJ_seq ?_)))
  rw [n1, n2]
  refine qay ?_
  refine qab ?_
  refine qac ?_
  refine qab ?_
  refine qac ?_
  refine qa5 ?_
  refine qaf ?_
  refine q_c (fun hc0 => ?_) (fun hc0 => ?_)
  ·
   (exfalso; omega)
  ·
   refine qbo ?_
   refine qaa ?_
   refine qaa ?_
   refine qbn ?_
   refine qaf ?_
   refine q_c (fun hc1 => ?_) (fun hc1 => ?_)
   ·
    have hab : Above l.l up.l k := by rw [hupl, hc1]; exact above_own (by omega) h3.1
    have b1 := lowN_mono (s := s) hae hab
    have b2 := highN_mono (s := s) hae hab
    refine qae ?_
    refine qab ?_
    refine qac ?_
    refine qab ?_
    refine qac ?_
    refine qbz ?_
    refine qah ?_
    apply LJ_and (G := [_, _, _, _, _]) (j := 5) (cj := 72) rfl rfl (by rfl) rfl (show _ = Value.bool _ from rfl) rfl
    ·
     intro hg6
     replace hg6 := qb hg6
     refine qab ?_
     refine qac ?_
     refine qab ?_
     refine qac ?_
     refine qbz ?_
     exact qai
    intro junk6
    refine qah ?_
    apply LJ_and (G := [_]) (j := 12) (cj := 79) rfl rfl (by rfl) rfl (show _ = Value.bool _ from rfl) rfl
    ·
     intro hg13
     replace hg13 := qb hg13
     refine q_l rfl (awake10_tri _ _) ?_
     exact qai
    intro junk13
    refine qaz ?_
    refine qbh ?_
    refine retK_ret (L' := []) (R' := R) (res1 rfl (rv_tmp (show _ = Value.bool _ from rfl))) ?hp ?hL ?hR
    case hp => exact ⟨by rw [decide_eq_true b1, decide_eq_true b2]; rfl, rfl, rfl⟩
    case hL => exact List.nil_sublist _
    case hR => exact fun r hr => (((hR0 r hr).mono hR2).mono hR3).mono fun s hs => inR_self (by simp [hs])
   ·
    have hab : Above up.l l.l k := by rw [hupl]; exact above_other (by omega) (by omega) h3.1
    have b1 := lowN_mono (s := s) hae hab
    have b2 := highN_mono (s := s) hae hab
    refine qbv ?_
    refine qab ?_
    refine qac ?_
    refine qab ?_
    refine qac ?_
    refine qbx ?_
    refine qah ?_
    apply LJ_and (G := [_, _, _, _, _]) (j := 5) (cj := 87) rfl rfl (by rfl) rfl (show _ = Value.bool _ from rfl) rfl
    ·
     intro hg6
     replace hg6 := qb hg6
     refine qab ?_
     refine qac ?_
     refine qab ?_
     refine qac ?_
     refine qbx ?_
     exact qai
    intro junk6
    refine qah ?_
    apply LJ_and (G := [_]) (j := 12) (cj := 94) rfl rfl (by rfl) rfl (show _ = Value.bool _ from rfl) rfl
    ·
     intro hg13
     replace hg13 := qb hg13
     refine q_l rfl (awake10_tri _ _) ?_
     exact qai
    intro junk13
    refine qaz ?_
    refine qa0 ?_
    refine retK_ret (L' := []) (R' := R) (res1 rfl (rv_tmp (show _ = Value.bool _ from rfl))) ?hp ?hL ?hR
    case hp => exact ⟨by rw [decide_eq_true b1, decide_eq_true b2]; rfl, rfl, rfl⟩
    case hL => exact List.nil_sublist _
    case hR => exact fun r hr => (((hR0 r hr).mono hR2).mono hR3).mono fun s hs => inR_self (by simp [hs])
end Go.Proofs.Ytdnhinkamcfpkaa
