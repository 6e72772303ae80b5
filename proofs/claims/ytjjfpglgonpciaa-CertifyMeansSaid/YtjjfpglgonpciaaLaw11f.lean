/-
  Statements about chapter 11: what acceptance means. By an AI agent; no person has read it.
-/
import Derived.Test.YtjjfpglgonpciaaLaw11c
set_option linter.unusedSimpArgs false
set_option linter.unusedVariables false
namespace Go.Proofs.Ytjjfpglgonpciaa
open Go.Aw Go
set_option maxRecDepth 20000
attribute [local irreducible] CJ LJ DJ Tri YV Gives seqK blockK loopK retK RV mergeK OwL.L

/-- what one asks of place k -/
def okAt (a : XAir) (s : XSetting) (b : XBounds) (A : List Bool) (k : Nat) : Bool :=
  if fixB a A k = true then decide (b.low.l.getD k 0 = 0) && decide (b.high.l.getD k 0 = 0)
  else decide (0 ≤ lowN a s b.high.l (k : Int)) && decide (highN a s b.low.l (k : Int) ≤ 0)
def goodN (a : XAir) (s : XSetting) (b : XBounds) (A : List Bool) : Nat → Bool
  | 0 => true
  | k + 1 => goodN a s b A k && okAt a s b A k
theorem goodN_iff {a : XAir} {s : XSetting} {b : XBounds} {A : List Bool} : ∀ n, goodN a s b A n = true ↔ ∀ k, k < n → okAt a s b A k = true
  | 0 => ⟨fun _ k hk => by omega, fun _ => rfl⟩
  | n + 1 => by
    rw [goodN, Bool.and_eq_true, goodN_iff n]
    refine ⟨fun h k hk => ?_, fun h => ⟨fun k hk => h k (by omega), h n (by omega)⟩⟩
    rcases Nat.lt_or_ge k n with h1 | h1
    · exact h.1 k h1
    · obtain rfl : k = n := by omega
      exact h.2
theorem goodN_accept {a : XAir} {s : XSetting} {b : XBounds} {A : List Bool} (hC : CheckOk a s b) : goodN a s b A a.mine.places.l.length = true ↔ checkS a s b A = 0 := by
  rw [accept_iff, goodN_iff]
  constructor
  · intro h
    refine ⟨hC, fun i hi hf => ?_, fun i hi hf => ?_⟩
    · have := h i hi
      rw [okAt, if_pos hf, Bool.and_eq_true, decide_eq_true_eq, decide_eq_true_eq] at this
      exact this
    · have := h i hi
      rw [okAt, if_neg hf, Bool.and_eq_true, decide_eq_true_eq, decide_eq_true_eq] at this
      exact this
  · intro h k hk
    rw [okAt]
    split
    · rename_i hf
      have := h.fix k hk hf
      rw [decide_eq_true this.1, decide_eq_true this.2]; rfl
    · rename_i hf
      have := h.net k hk hf
      rw [decide_eq_true this.1, decide_eq_true this.2]; rfl
theorem netS_right {a : XAir} {s : XSetting} {ps : List Int} {v : Int} (h : rightB a s = true) (hl : ps.length = a.mine.places.l.length) (hp : PresOk ps) (hv : 0 ≤ v ∧ v < ps.length) : netS a s ps v = ⟨lowN a s ps v, highN a s ps v⟩ := by
  rw [netS, if_pos (rightN_iff.2 ⟨h, hl, hv.1, hv.2, presOk_none hp⟩)]

theorem certifyMeans_law (y : Arr Int) (R : List Sl) (hy : CodesR y R) :
    Tri Try.prog 3 [y.val].toArray [] R (fun v L' R' => v = .bool true ∧ [] = L' ∧ R = R') := by
  refine tri_enter 96 Try.call3 Try.func3 rfl rfl rfl ?_
  refine qae ?_
  refine qaz ?_
  refine qam ?_
  refine qbm ?_
  refine LJ_call rfl (new_tri y _ _ hy) rfl ?_
  rintro v L' R' ⟨c, rfl, hx, rfl, rfl⟩
  refine qc1 ?_
  refine qam ?_
  refine qa6 ?_
  refine LJ_call rfl (made1 (.consL .nil) hx (Nat.zero_le _)) rfl ?_
  rintro v L' R' ⟨m, k1, S, rfl, hm, hMA, hif, hid, hk1, rfl, rfl⟩
  simp only [List.append_assoc, List.cons_append, List.nil_append]
  refine LJ_q (yv_move rfl) rfl ?_
  refine qbs ?_
  refine qbs ?_
  refine qbs ?_
  refine qaq ?_
  intro b4
  refine qaq ?_
  intro b5
  refine qaq ?_
  intro b6
  refine qak ?_
  refine qak ?_
  refine qak ?_
  refine qa4 ?_
  refine CJ_made (A := []) hm hMA (fun f hf => (hif f hf).mono fun r hr => inR_self (by simp [hr])) (fun f hf => (hid f hf).mono fun r hr => inR_self (by simp [hr])) fun a s x R1 hMA hA hT hX hR1 => ?_
  refine qb1 ?_
  obtain ⟨_, hae, hF, hri, hfo⟩ := hMA.b
  have hx1 : CodesR (codes300 y) R1 := hx.mono fun r hr => hR1 r (by simp [hr])
  have hR0 : ∀ r ∈ R, InR r R1 := fun r hr => hR1 r (by simp [hr])
  have hnp := hMA.nplaces
  obtain ⟨A, hAA⟩ := airy_ex a.mine
  have hAl := hAA.length
  refine qay ?_
  refine qa6 ?_
  refine qa8 ?_
  refine qbe ?_
  refine qbe ?_
  refine LJ_call rfl (bounds1 (.consB (.consB (.consB (.consL .nil)))) hx1 hk1 hA hT hX hMA hAA) rfl ?_
  rintro v L' R' ⟨lo, hi, k2, rfl, ⟨h1, h2⟩, ⟨h3, h4⟩, ⟨h5, h6⟩, hk2, rfl, rfl⟩
  simp only [List.append_assoc, List.cons_append, List.nil_append]
  refine qaq ?_
  intro b7
  refine qak ?_
  refine qa4 ?_
  refine CJ_frz1 (A := [_, _, _, _]) (wd := 1) [] (fun _ => rfl) (by decide) h2 (fun s hs => by cases hs) ?_
  refine qb1 ?_
  refine CJ_frz1 (A := [_, _, _, _]) (wd := 1) [] (fun _ => rfl) (by decide) h1 (fun s hs => by cases hs) ?_
  refine qb1 ?_
  have hR2 : ∀ r ∈ R1, InR r (isl lo.arr :: isl hi.arr :: R1) := fun r hr => inR_self (by simp [hr])
  have hB2 : BoundsR ⟨lo.arr, hi.arr⟩ (isl lo.arr :: isl hi.arr :: R1) := ⟨inR_self (.head _), inR_self (.tail _ (.head _))⟩
  obtain ⟨R2, hR2e⟩ : ∃ R2, R2 = isl lo.arr :: isl hi.arr :: R1 := ⟨_, rfl⟩
  rw [← hR2e] at hR2 hB2 ⊢
  have hA2 := airR_mono hA hR2
  have hT2 := setR_mono hT hR2
  have hRR : ∀ r ∈ R, InR r R2 := fun r hr => (hR0 r hr).mono hR2
  have hmp := hA2.places
  have hbl := hB2.low
  have hbh := hB2.high
  have hC : CheckOk a s ⟨lo.arr, hi.arr⟩ := ⟨hMA.err, hMA.fit, h3, h4, h5, h6⟩
  obtain ⟨B, hBe⟩ : ∃ B : XBounds, B = ⟨lo.arr, hi.arr⟩ := ⟨_, rfl⟩
  have eN : ∀ k : Nat, k < a.mine.places.l.length → netS a s hi.l (k : Int) = ⟨lowN a s hi.l (k : Int), highN a s hi.l (k : Int)⟩ := fun k hk => netS_right hri h4 h6 (by omega)
  have eM : ∀ k : Nat, k < a.mine.places.l.length → netS a s lo.l (k : Int) = ⟨lowN a s lo.l (k : Int), highN a s lo.l (k : Int)⟩ := fun k hk => netS_right hri h3 h5 (by omega)
  refine qay ?_
  refine qab ?_
  refine qbe ?_
  refine LJ_call rfl (airy_tri a.mine _ _ hA2.mineR hae.mine) rfl ?_
  rintro v L' R' ⟨p, rfl, hpk, hpA, rfl, rfl⟩
  have hpl : p.l = A := hpA.unique hAA
  have hpl2 : p.l.length = a.mine.places.l.length := by rw [hpl]; exact hAl
  refine qc4 ?_
  refine qam ?_
  refine qaz ?_
  refine qco ?_
  refine CJ_turn fun cc w hst => ⟨_, _, hst.perm List.perm_append_comm, ?_⟩
  refine qay ?_
  refine qab ?_
  refine qab ?_
  refine qac ?_
  refine qag ?_
  refine qaa ?_
  refine qa2 ?_
  refine CJ_forget [(4, Value.pointer _), (5, Value.pointer _), (7, Value.pointer _), (8, Value.slice _ _ _), (9, Value.bool _), (31, Value.slice _ _ _), (32, Value.int _ _), (33, Value.int _ _)] (by repeat' (first | exact trivial | refine And.intro rfl ?_)) fun tq0 => ?_
  refine q_s [9, 10, 11, 33, 34, 35, 36, 37, 38, 39, 40, 41, 42, 43, 44, 45, 46, 47, 48, 49, 50, 51, 52, 53, 54, 55, 56, 57, 58, 59, 60, 61, 62, 63, 64, 65, 66, 67, 68, 69, 70, 71, 72, 73, 74, 75, 76, 77, 78, 79, 80, 81, 82, 83, 84, 85] (fun g : {k : Nat // k ≤ a.mine.places.l.length} => [(33, .int .i64 ((g.1 : Nat) : Int)), (9, .bool (goodN a s B A g.1))]) (fun g => a.mine.places.l.length - g.1) (⟨0, by omega⟩) ?_
  rintro ⟨k, hk⟩ junk
  try dsimp only
  refine qae ?_
  refine qaj ?_
  refine qa4 ?_
  refine q_c (fun hc0 => ?_) (fun hc0 => ?_)
  ·
   have g1 := get_D (l := a.mine.places.l) (k := k) default (by omega)
   have g2 : p.l[k]? = some (A.getD k false) := by rw [hpl]; exact get_D false (by omega)
   have g3 := get_D (l := lo.l) (k := k) 0 (by omega)
   have g4 := get_D (l := hi.l) (k := k) 0 (by omega)
   have eg : goodN a s B A (k + 1) = (goodN a s B A k && okAt a s B A k) := rfl
   refine qbb ?_
   refine qaa ?_
   refine LJ_q (by first | exact yv_index_ro tb rfl rfl rfl rfl (by first | assumption | exact zr (by simp)) (i := k) (by first | rfl | omega | (simp; omega)) (by omega) | exact yv_index tb rfl rfl rfl rfl (i := k) (by first | rfl | omega | (simp; omega)) (by omega)) rfl ?_
   refine qdl ?_
   refine qaq ?_
   intro b11
   refine qad ?_
   refine qak ?_
   refine qaw ?_
   refine qab ?_
   refine qac ?_
   refine qah ?_
   apply LJ_or (G := [_, _, _, _, _]) (j := 2) (cj := 40) rfl rfl (by rfl) rfl (show _ = Value.bool _ from rfl) rfl
   ·
    intro hg3
    replace hg3 := qb hg3
    refine qbm ?_
    refine qaa ?_
    refine LJ_q (yv_index_ow tb (p) _ rfl rfl rfl rfl (by assumption) (i := k) (by first | rfl | omega | (simp; omega)) (by first | omega | (dsimp only; omega) | (dsimp only; rw [List.length_set]; omega))) rfl ?_
    refine LJ_q (yv_load1_ow tb (p) rfl rfl rfl (by repeat (first | apply OSeg.cons | exact OSeg.here | exact OSeg.last | exact OSeg.at (by assumption) | apply OSeg.app)) (by assumption) (fun _ => rfl) (by assumption) (by rfl)) rfl ?_
    refine qb4 ?_
    exact qai
   intro junk3
   refine qaf ?_
   refine q_c (fun hc1 => ?_) (fun hc1 => ?_)
   ·
    have hok : okAt a s B A k = (decide (lo.l.getD k 0 = 0) && decide (hi.l.getD k 0 = 0)) := by rw [okAt, if_pos (by rw [fixB]; rcases hc1 with h | h; rw [h, Bool.or_true]; rw [h]; rfl), hBe]
    refine qae ?_
    refine qah ?_
    refine qah ?_
    apply LJ_and (G := [_, _, _, _, _, _]) (j := 1) (cj := 48) rfl rfl (by rfl) rfl (show _ = Value.bool _ from rfl) rfl
    ·
     intro hg2
     replace hg2 := qb hg2
     refine qab ?_
     refine qac ?_
     refine qaa ?_
     refine LJ_q (by first | exact yv_index_ro tb rfl rfl rfl rfl (by first | assumption | exact zr (by simp)) (i := k) (by first | rfl | omega | (simp; omega)) (by omega) | exact yv_index tb rfl rfl rfl rfl (i := k) (by first | rfl | omega | (simp; omega)) (by omega)) rfl ?_
     refine qa7 ?_
     refine qbn ?_
     exact qai
    intro junk2
    refine qah ?_
    apply LJ_and (G := [_, _, _, _, _, _]) (j := 9) (cj := 56) rfl rfl (by rfl) rfl (show _ = Value.bool _ from rfl) rfl
    ·
     intro hg10
     replace hg10 := qb hg10
     refine qab ?_
     refine qac ?_
     refine qaa ?_
     refine LJ_q (by first | exact yv_index_ro tb rfl rfl rfl rfl (by first | assumption | exact zr (by simp)) (i := k) (by first | rfl | omega | (simp; omega)) (by omega) | exact yv_index tb rfl rfl rfl rfl (i := k) (by first | rfl | omega | (simp; omega)) (by omega)) rfl ?_
     refine qa7 ?_
     refine qbn ?_
     exact qai
    intro junk10
    refine qaz ?_
    refine LJ_nil (seqK_normal (CJ_exit (seqK_exit (blockK_exit (seqK_normal (CJ_region ?_))))))
    refine qar ?_
    refine qaa ?_
    refine qav ?_
    exact loopK_mk ⟨k + 1, by omega⟩ (by repeat (first | exact Off.refl | apply Off.upd rfl | apply Off.havoc rfl | apply Off.updL rfl | apply Off.left rfl)) ⟨rfl, (show _ = Value.bool _ from rfl).trans (congrArg Value.bool (by rw [eg, hok, Bool.and_assoc])), trivial⟩ (by repeat (first | exact zs0 _ | exact zs1 _ | apply zs2 | apply zs3 | apply zs4 | apply zs5)) (allR_self _) (by dsimp only; omega)
   ·
    have hok : okAt a s B A k = (decide (0 ≤ lowN a s hi.l (k : Int)) && decide (highN a s lo.l (k : Int) ≤ 0)) := by rw [okAt, if_neg (by rw [fixB, hc1.1, hc1.2]; decide), hBe]
    refine CJ_skip (seqK_normal (CJ_region ?_))
    refine qah ?_
    refine qah ?_
    apply LJ_and (G := [_, _, _, _, _, _, _, _]) (j := 1) (cj := 65) rfl rfl (by rfl) rfl (show _ = Value.bool _ from rfl) rfl
    ·
     intro hg2
     replace hg2 := qb hg2
     refine qa8 ?_
     refine qbe ?_
     refine qab ?_
     refine qac ?_
     refine qaa ?_
     refine q_l rfl (balNet_tri a s hi.arr (k : Int) _ _ hA2 hT2 hbh) ?_
     rw [eN k (by omega)]
     refine qcz ?_
     refine qbz ?_
     exact qai
    intro junk2
    refine qah ?_
    apply LJ_and (G := [_, _, _, _, _, _, _, _]) (j := 11) (cj := 75) rfl rfl (by rfl) rfl (show _ = Value.bool _ from rfl) rfl
    ·
     intro hg12
     replace hg12 := qb hg12
     refine qa8 ?_
     refine qbe ?_
     refine qab ?_
     refine qac ?_
     refine qaa ?_
     refine q_l rfl (balNet_tri a s lo.arr (k : Int) _ _ hA2 hT2 hbl) ?_
     rw [eM k (by omega)]
     refine qcz ?_
     refine qbx ?_
     exact qai
    intro junk12
    refine qaz ?_
    refine qcs ?_
    refine qar ?_
    refine qaa ?_
    refine qav ?_
    exact loopK_mk ⟨k + 1, by omega⟩ (by repeat (first | exact Off.refl | apply Off.upd rfl | apply Off.havoc rfl | apply Off.updL rfl | apply Off.left rfl)) ⟨rfl, (show _ = Value.bool _ from rfl).trans (congrArg Value.bool (by rw [eg, hok, Bool.and_assoc])), trivial⟩ (by repeat (first | exact zs0 _ | exact zs1 _ | apply zs2 | apply zs3 | apply zs4 | apply zs5)) (allR_self _) (by dsimp only; omega)
  ·
   obtain rfl : k = a.mine.places.l.length := by omega
   have hgo := goodN_accept (A := A) hC
   rw [← hBe] at hgo
   refine qbk ?_
   refine qad ?_
   refine qaw ?_
   refine qah ?_
   refine qaf ?_
   refine q_c (fun hc2 => ?_) (fun hc2 => ?_)
   ·
    have hck : checkS a s ⟨lo.arr, hi.arr⟩ A = 0 := by rw [← hBe]; exact hgo.1 hc2
    refine qay ?_
    refine qad ?_
    refine qam ?_
    refine qa8 ?_
    refine qbe ?_
    refine qbe ?_
    refine LJ_call rfl (cert_tri a s ⟨lo.arr, hi.arr⟩ A _ _ hA2 hT2 hB2 (fun _ => hAA)) rfl ?_
    rintro v L' R' ⟨S1, rfl, rfl, rfl⟩
    rw [hck]
    refine qaa ?_
    refine qbn ?_
    refine qah ?_
    apply LJ_and (G := [_]) (j := 6) (cj := 93) rfl rfl (by rfl) rfl (show _ = Value.bool _ from rfl) rfl
    ·
     intro hg7
     replace hg7 := qb hg7
     refine q_l rfl (awake11_tri _ _) ?_
     exact qai
    intro junk7
    refine qaz ?_
    refine qa0 ?_
    refine retK_ret (L' := []) (R' := R) (res1 rfl (rv_tmp (show _ = Value.bool _ from rfl))) ?hp ?hL ?hR
    case hp => exact ⟨rfl, rfl, rfl⟩
    case hL => exact List.nil_sublist _
    case hR => exact fun r hr => (hRR r hr).mono fun r hr => inR_self (by simp [hr])
   ·
    have hck : checkS a s ⟨lo.arr, hi.arr⟩ A = 12 := by
      rcases checkS_two (A := A) hC with h | h
      · rw [← hBe] at h
        have := hgo.2 h
        rw [hc2] at this
        cases this
      · exact h
    refine qbv ?_
    refine qa8 ?_
    refine qbe ?_
    refine qbe ?_
    refine LJ_call rfl (cert_tri a s ⟨lo.arr, hi.arr⟩ A _ _ hA2 hT2 hB2 (fun _ => hAA)) rfl ?_
    rintro v L' R' ⟨S1, rfl, rfl, rfl⟩
    rw [hck]
    refine qaa ?_
    refine qbn ?_
    refine qah ?_
    apply LJ_and (G := [_]) (j := 6) (cj := 93) rfl rfl (by rfl) rfl (show _ = Value.bool _ from rfl) rfl
    ·
     intro hg7
     replace hg7 := qb hg7
     refine q_l rfl (awake11_tri _ _) ?_
     exact qai
    intro junk7
    refine qaz ?_
    refine qa0 ?_
    refine retK_ret (L' := []) (R' := R) (res1 rfl (rv_tmp (show _ = Value.bool _ from rfl))) ?hp ?hL ?hR
    case hp => exact ⟨rfl, rfl, rfl⟩
    case hL => exact List.nil_sublist _
    case hR => exact fun r hr => (hRR r hr).mono fun r hr => inR_self (by simp [hr])
end Go.Proofs.Ytjjfpglgonpciaa
