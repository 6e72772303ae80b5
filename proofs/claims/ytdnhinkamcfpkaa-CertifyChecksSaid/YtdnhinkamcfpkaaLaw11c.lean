/-
  Statements about chapter 11: what accepted bounds prove of a state that fits. By an AI agent; no person has read it.
-/
import Derived.Test.YtdnhinkamcfpkaaLaw11b
import Derived.Test.YtdnhinkamcfpkaaBounds
set_option linter.unusedSimpArgs false
set_option linter.unusedVariables false
namespace Go.Proofs.Ytdnhinkamcfpkaa
open Go.Aw Go
set_option maxRecDepth 20000
attribute [local irreducible] CJ LJ DJ Tri YV Gives seqK blockK loopK retK RV mergeK OwL.L

/-- drawn bounds, at another place -/
theorem bounds1 {c : Nat} {x : Arr Int} {k : Nat} {a : XAir} {s : XSetting} {st : XState} {A : List Bool} {L B : List Blk} {R : List Sl} (hu : Spl L B [cblk c x k]) (hx : CodesR x R) (hk : k ≤ x.l.length) (hm : AirR a R) (hs : SetR s R) (hX : StateR st R) (hM : MadeA a s st) (hA : AiryIs a.mine A) :
    Tri Try.prog 27 [.pointer (some ⟨c, 0, none⟩), a.val, s.val, st.val].toArray L R
      (fun w L' R' => ∃ (lo hi : OwL Int) (k' : Nat), w = .agg #[lo.val, hi.val] ∧ (lo.ok 1 icell ∧ hi.ok 1 icell) ∧ (lo.l.length = a.mine.places.l.length ∧ hi.l.length = a.mine.places.l.length) ∧ k' ≤ x.l.length ∧ B ++ (hi.L 3 icell ++ (lo.L 3 icell ++ (cblk c x k' :: []))) = L' ∧ R = R') :=
  (Tri.spl hu (bounds_tri c x k a s st A R hx hk hm hs hX hM.b.fits.plen hM.press (by have := hM.nplaces; omega) (fun _ => hA))).mono fun v L'' R' ⟨L', e, lo, hi, k', a1, a2, a3, a4, a5, a6⟩ => ⟨lo, hi, k', a1, a2, a3, a4, by rw [a5]; exact e, a6⟩

theorem boundsR_mono {b : XBounds} {R R' : List Sl} (h : BoundsR b R) (k : ∀ r ∈ R, InR r R') : BoundsR b R' := ⟨h.low.mono k, h.high.mono k⟩

theorem certifyProves_law (y : Arr Int) (R : List Sl) (hy : CodesR y R) :
    Tri Try.prog 13 [y.val].toArray [] R (fun v L' R' => v = .bool true ∧ [] = L' ∧ R = R') := by
  refine tri_enter 108 Try.call13 Try.func13 rfl rfl rfl ?_
  refine qae ?_
  refine qaz ?_
  refine qam ?_
  refine qbm ?_
  refine LJ_call rfl (new_tri y _ _ hy) rfl ?_
  rintro v L' R' ⟨c, rfl, hx, rfl, rfl⟩
  refine qc1 ?_
  refine qam ?_
  refine qa6 ?_
  refine LJ_call rfl (made1 (.consL .nil) hx (Nat.zero_le _)) rfl ?_
  rintro v L' R' ⟨m, k1, S, rfl, hm, hMA, hif, hid, hk1, rfl, rfl⟩
  simp only [List.append_assoc, List.cons_append, List.nil_append]
  refine LJ_q (yv_move rfl) rfl ?_
  refine qbs ?_
  refine qbs ?_
  refine qbs ?_
  refine qaq ?_
  intro b4
  refine qaq ?_
  intro b5
  refine qaq ?_
  intro b6
  refine qak ?_
  refine qak ?_
  refine qak ?_
  refine qa4 ?_
  refine CJ_made (A := []) hm hMA (fun f hf => (hif f hf).mono fun r hr => inR_self (by simp [hr])) (fun f hf => (hid f hf).mono fun r hr => inR_self (by simp [hr])) fun a s x R1 hMA hA hT hX hR1 => ?_
  refine qb1 ?_
  obtain ⟨_, hae, hF, hri, hfo⟩ := hMA.b
  have hx1 : CodesR (codes300 y) R1 := hx.mono fun r hr => hR1 r (by simp [hr])
  have hR0 : ∀ r ∈ R, InR r R1 := fun r hr => hR1 r (by simp [hr])
  have hnp := hMA.nplaces
  have hnr := hMA.nroads
  have hpn := hF.plen
  have hfn := hF.flen
  obtain ⟨A, hAA⟩ := airy_ex a.mine
  refine qay ?_
  refine qa6 ?_
  refine qa8 ?_
  refine qbe ?_
  refine qbe ?_
  refine LJ_call rfl (bounds1 (.consB (.consB (.consB (.consL .nil)))) hx1 hk1 hA hT hX hMA hAA) rfl ?_
  rintro v L' R' ⟨lo, hi, k2, rfl, ⟨h1, h2⟩, ⟨h3, h4⟩, hk2, rfl, rfl⟩
  simp only [List.append_assoc, List.cons_append, List.nil_append]
  refine qaq ?_
  intro b7
  refine qak ?_
  refine qco ?_
  refine CJ_frz1 (A := [_, _, _, _]) (wd := 1) [] (fun _ => rfl) (by decide) h2 (fun s hs => by cases hs) ?_
  refine qb1 ?_
  refine CJ_frz1 (A := [_, _, _, _]) (wd := 1) [] (fun _ => rfl) (by decide) h1 (fun s hs => by cases hs) ?_
  refine qb1 ?_
  have hR2 : ∀ r ∈ R1, InR r (isl lo.arr :: isl hi.arr :: R1) := fun r hr => inR_self (by simp [hr])
  have hA2 := airR_mono hA hR2
  have hT2 := setR_mono hT hR2
  have hX2 := stateR_mono hX hR2
  have hB2 : BoundsR ⟨lo.arr, hi.arr⟩ (isl lo.arr :: isl hi.arr :: R1) := ⟨inR_self (.head _), inR_self (.tail _ (.head _))⟩
  obtain ⟨R2, hR2e⟩ : ∃ R2, R2 = isl lo.arr :: isl hi.arr :: R1 := ⟨_, rfl⟩
  rw [← hR2e] at hR2 hA2 hT2 hX2 hB2 ⊢
  have hRR : ∀ r ∈ R, InR r R2 := fun r hr => (hR0 r hr).mono hR2
  refine qay ?_
  refine qa8 ?_
  refine qbe ?_
  refine qbe ?_
  refine q_l rfl (branchFits_tri a s x _ _ hA2 hT2 hX2) ?_
  refine qbq ?_
  refine qaf ?_
  refine q_c (fun hc0 => ?_) (fun hc0 => ?_)
  ·
   exact absurd hMA.fits hc0
  ·
   refine qbo ?_
   refine qa8 ?_
   refine qbe ?_
   refine qbe ?_
   refine LJ_call rfl (cert_tri a s ⟨lo.arr, hi.arr⟩ A _ _ hA2 hT2 hB2 (fun _ => hAA)) rfl ?_
   rintro v L' R' ⟨S1, rfl, rfl, rfl⟩
   have hR3 : ∀ r ∈ R2, InR r (S1 ++ R2) := fun r hr => inR_self (by simp [hr])
   have hA3 := airR_mono hA2 hR3
   have hT3 := setR_mono hT2 hR3
   have hX3 := stateR_mono hX2 hR3
   have hB3 := boundsR_mono hB2 hR3
   have hxp := hX3.pres
   have hxf := hX3.flows
   have hbl := hB3.low
   have hbh := hB3.high
   refine qbq ?_
   refine qaf ?_
   refine q_c (fun hc1 => ?_) (fun hc1 => ?_)
   ·
    refine qae ?_
    refine q_l rfl (awake11_tri _ _) ?_
    refine qaz ?_
    refine qbh ?_
    refine retK_ret (L' := []) (R' := R) (res1 rfl (rv_tmp (show _ = Value.bool _ from rfl))) ?hp ?hL ?hR
    case hp => exact ⟨rfl, rfl, rfl⟩
    case hL => exact List.nil_sublist _
    case hR => exact fun r hr => (hRR r hr).mono hR3
   ·
    have hck : checkS a s ⟨lo.arr, hi.arr⟩ A = 0 := by omega
    have hAc := accept_iff.1 hck
    refine qbv ?_
    refine qab ?_
    refine qbe ?_
    refine LJ_call rfl (airy_tri a.mine _ _ hA3.mineR hae.mine) rfl ?_
    rintro v L' R' ⟨p, rfl, hpk, hpA, rfl, rfl⟩
    have hpl : p.l = A := hpA.unique hAA
    have hAl := hAA.length
    have hpl2 : p.l.length = a.mine.places.l.length := by rw [hpl]; exact hAl
    refine qc4 ?_
    refine qco ?_
    refine CJ_turn fun cc w hst => ⟨_, _, hst.perm List.perm_append_comm, ?_⟩
    refine qay ?_
    refine qab ?_
    refine qac ?_
    refine qag ?_
    refine qaa ?_
    refine qa2 ?_
    refine CJ_forget [(4, Value.pointer _), (5, Value.pointer _), (6, Value.pointer _), (7, Value.pointer _), (8, Value.slice _ _ _), (42, Value.slice _ _ _), (43, Value.int _ _), (44, Value.int _ _)] (by repeat' (first | exact trivial | refine And.intro rfl ?_)) fun tq0 => ?_
    refine q_s [2, 9, 10, 44, 45, 46, 47, 48, 49, 50, 51, 52, 53, 54, 55, 56, 57, 58, 59, 60, 61, 62, 63, 64, 65, 66, 67, 68, 69, 70, 71] (fun g : {k : Nat // k ≤ x.pres.l.length} => [(44, .int .i64 ((g.1 : Nat) : Int))]) (fun g => x.pres.l.length - g.1) (⟨0, by omega⟩) ?_
    rintro ⟨k, hk⟩ junk
    try dsimp only
    refine qae ?_
    refine qaj ?_
    refine qa4 ?_
    refine q_c (fun hc2 => ?_) (fun hc2 => ?_)
    ·
     have g1 := get_D (l := x.pres.l) (k := k) 0 (by omega)
     have g2 : p.l[k]? = some (A.getD k false) := by rw [hpl]; exact get_D false (by omega)
     have g3 := get_D (l := lo.l) (k := k) 0 (by omega)
     have g4 := get_D (l := hi.l) (k := k) 0 (by omega)
     refine qbb ?_
     refine qaa ?_
     refine LJ_q (by first | exact yv_index_ro tb rfl rfl rfl rfl (by first | assumption | exact zr (by simp)) (i := k) (by first | rfl | omega | (simp; omega)) (by omega) | exact yv_index tb rfl rfl rfl rfl (i := k) (by first | rfl | omega | (simp; omega)) (by omega)) rfl ?_
     refine qa7 ?_
     refine qad ?_
     refine qad ?_
     refine qam ?_
     refine qbm ?_
     refine qaa ?_
     refine LJ_q (yv_index_ow tb (p) _ rfl rfl rfl rfl (by assumption) (i := k) (by first | rfl | omega | (simp; omega)) (by first | omega | (dsimp only; omega) | (dsimp only; rw [List.length_set]; omega))) rfl ?_
     refine LJ_q (yv_load1_ow tb (p) rfl rfl rfl (by repeat (first | apply OSeg.cons | exact OSeg.here | exact OSeg.last | exact OSeg.at (by assumption) | apply OSeg.app)) (by assumption) (fun _ => rfl) (by assumption) (by rfl)) rfl ?_
     refine qah ?_
     apply LJ_and (G := [_, _, _, _, _, _, _, _, _, _, _, _, _, _, _, _]) (j := 4) (cj := 53) rfl rfl (by rfl) rfl (show _ = Value.bool _ from rfl) rfl
     ·
      intro hg5
      replace hg5 := qb hg5
      refine qaa ?_
      refine qab ?_
      refine qac ?_
      refine qaa ?_
      refine LJ_q (by first | exact yv_index_ro tb rfl rfl rfl rfl (by first | assumption | exact zr (by simp)) (i := k) (by first | rfl | omega | (simp; omega)) (by omega) | exact yv_index tb rfl rfl rfl rfl (i := k) (by first | rfl | omega | (simp; omega)) (by omega)) rfl ?_
      refine qa7 ?_
      refine qaj ?_
      refine qah ?_
      apply LJ_or (G := [_, _, _, _, _, _, _]) (j := 12) (cj := 61) rfl rfl (by rfl) rfl (show _ = Value.bool _ from rfl) rfl
      ·
       intro hg13
       replace hg13 := qb hg13
       refine qaa ?_
       refine qab ?_
       refine qac ?_
       refine qaa ?_
       refine LJ_q (by first | exact yv_index_ro tb rfl rfl rfl rfl (by first | assumption | exact zr (by simp)) (i := k) (by first | rfl | omega | (simp; omega)) (by omega) | exact yv_index tb rfl rfl rfl rfl (i := k) (by first | rfl | omega | (simp; omega)) (by omega)) rfl ?_
       refine qa7 ?_
       refine qa5 ?_
       exact qai
      intro junk13
      exact qai
     intro junk5
     refine qaf ?_
     refine q_c (fun hc3 => ?_) (fun hc3 => ?_)
     ·
      exact absurd hc3 (by rintro ⟨e1, e2⟩; have e5 : lo.l.getD k 0 ≤ x.pres.l.getD k 0 ∧ x.pres.l.getD k 0 ≤ hi.l.getD k 0 := hAc.holds hF hAA (u := k) (by omega) e1; omega)
     ·
      refine qbj ?_
      refine qar ?_
      refine qaa ?_
      refine qav ?_
      exact q_k (⟨k + 1, by omega⟩)
    ·
     refine qbk ?_
     refine qa8 ?_
     refine qbe ?_
     refine qbe ?_
     refine LJ_call rfl (bflow_tri a s ⟨lo.arr, hi.arr⟩ A _ _ hA3 hT3 hB3 (fun _ => hAA)) rfl ?_
     rintro v L' R' ⟨q, S2, rfl, hqk, hql, rfl, rfl⟩
     rw [boundFlows, if_pos hck] at hql
     have hqn : q.l.length = a.mine.roads.l.length := by rw [hql]; simp
     have hR4 : ∀ r ∈ S1 ++ R2, InR r (S2 ++ (S1 ++ R2)) := fun r hr => inR_self (by simp only [List.mem_append] at hr ⊢; exact .inr hr)
     have hxf4 := hxf.mono hR4
     refine qc4 ?_
     refine qaw ?_
     refine qbm ?_
     refine qag ?_
     refine qab ?_
     refine qac ?_
     refine qag ?_
     refine qbq ?_
     refine qaf ?_
     refine q_c (fun hc4 => ?_) (fun hc4 => ?_)
     ·
      exact absurd hc4 (by omega)
     ·
      refine qbo ?_
      refine qab ?_
      refine qac ?_
      refine qag ?_
      refine qaa ?_
      refine qa2 ?_
      refine CJ_forget [(11, Value.slice _ _ _), (83, Value.slice _ _ _), (84, Value.int _ _), (85, Value.int _ _)] (by repeat' (first | exact trivial | refine And.intro rfl ?_)) fun tq1 => ?_
      refine q_s [2, 12, 13, 85, 86, 87, 88, 89, 90, 91, 92, 93, 94, 95, 96, 97, 98, 99, 100, 101, 102, 103, 104, 105, 106] (fun g : {k : Nat // k ≤ x.flows.l.length} => [(85, .int .i64 ((g.1 : Nat) : Int))]) (fun g => x.flows.l.length - g.1) (⟨0, by omega⟩) ?_
      rintro ⟨j, hj⟩ junk
      try dsimp only
      refine qae ?_
      refine qaj ?_
      refine qa4 ?_
      refine q_c (fun hc5 => ?_) (fun hc5 => ?_)
      ·
       have g1 := get_D (l := x.flows.l) (k := j) 0 (by omega)
       have g2 : q.l[j]? = some (roadFlow a s ⟨lo.arr, hi.arr⟩ A j) := by rw [hql, List.getElem?_map, List.getElem?_range (by omega)]; rfl
       refine qbb ?_
       refine qaa ?_
       refine LJ_q (by first | exact yv_index_ro tb rfl rfl rfl rfl (by first | assumption | exact zr (by simp)) (i := j) (by first | rfl | omega | (simp; omega)) (by omega) | exact yv_index tb rfl rfl rfl rfl (i := j) (by first | rfl | omega | (simp; omega)) (by omega)) rfl ?_
       refine qa7 ?_
       refine qad ?_
       refine qad ?_
       refine qam ?_
       refine qaa ?_
       refine qbm ?_
       refine qaa ?_
       refine LJ_q (yv_index_ow tb (q) _ rfl rfl rfl rfl (by assumption) (i := j) (by first | rfl | omega | (simp; omega)) (by first | omega | (dsimp only; omega) | (dsimp only; rw [List.length_set]; omega))) rfl ?_
       refine qb0 ?_
       refine LJ_q (yv_load1_ow tb (q) rfl rfl rfl (by repeat (first | apply OSeg.cons | exact OSeg.here | exact OSeg.last | exact OSeg.at (by assumption) | apply OSeg.app)) (by assumption) (fun _ => rfl) (by assumption) (by rfl)) rfl ?_
       refine qaj ?_
       refine qah ?_
       apply LJ_or (G := [_, _, _, _, _, _, _]) (j := 7) (cj := 97) rfl rfl (by rfl) rfl (show _ = Value.bool _ from rfl) rfl
       ·
        intro hg8
        replace hg8 := qb hg8
        refine qaa ?_
        refine qbm ?_
        refine qaa ?_
        refine LJ_q (yv_index_ow tb (q) _ rfl rfl rfl rfl (by assumption) (i := j) (by first | rfl | omega | (simp; omega)) (by first | omega | (dsimp only; omega) | (dsimp only; rw [List.length_set]; omega))) rfl ?_
        refine qb0 ?_
        refine LJ_q (yv_load1_ow tb (q) rfl rfl rfl (by repeat (first | apply OSeg.cons | exact OSeg.here | exact OSeg.last | exact OSeg.at (by assumption) | apply OSeg.app)) (by assumption) (fun _ => rfl) (by assumption) (by rfl)) rfl ?_
        refine qa5 ?_
        exact qai
       intro junk8
       refine qaf ?_
       refine q_c (fun hc6 => ?_) (fun hc6 => ?_)
       ·
        exact absurd hc6 (by have := hAc.flows hF hAA (k := j) (by omega); omega)
       ·
        refine qbj ?_
        refine qar ?_
        refine qaa ?_
        refine qav ?_
        exact q_k (⟨j + 1, by omega⟩)
      ·
       refine qbk ?_
       refine q_l rfl (awake11_tri _ _) ?_
       refine qaz ?_
       refine qa0 ?_
       refine retK_ret (L' := []) (R' := R) (res1 rfl (rv_tmp (show _ = Value.bool _ from rfl))) ?hp ?hL ?hR
       case hp => exact ⟨rfl, rfl, rfl⟩
       case hL => exact List.nil_sublist _
       case hR => exact fun r hr => ((hRR r hr).mono hR3).mono hR4
end Go.Proofs.Ytdnhinkamcfpkaa
