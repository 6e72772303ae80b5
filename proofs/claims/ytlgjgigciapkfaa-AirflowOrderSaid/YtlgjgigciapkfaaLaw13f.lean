/-
  Statements about chapter 13: the order of measurements. By an AI agent; no person has read it.
-/
import Derived.Test.YtlgjgigciapkfaaOrderQ
import Derived.Test.YtlgjgigciapkfaaWindow
import Derived.Test.YtlgjgigciapkfaaFlowing
import Derived.Test.YtlgjgigciapkfaaLaw13a
import Derived.Test.YtlgjgigciapkfaaApp0
set_option linter.unusedSimpArgs false
set_option linter.unusedVariables false
namespace Go.Proofs.Ytlgjgigciapkfaa
open Go.Aw Go
set_option maxRecDepth 20000
attribute [local irreducible] CJ LJ DJ Tri YV Gives seqK blockK loopK retK RV mergeK OwL.L

theorem airflowOrder_law (y : Arr Int) (t : Int) (R : List Sl) (hy : CodesR y R) (ht : 0 ≤ t ∧ t ≤ 255) :
    Tri Try.prog 10 [y.val, .int .u8 t].toArray [] R (fun v L' R' => v = .bool true ∧ [] = L' ∧ R = R') := by
  refine tri_enter 147 Try.call10 Try.func10 rfl rfl rfl ?_
  refine qae ?_
  refine qaz ?_
  refine qam ?_
  refine qbm ?_
  refine LJ_call rfl (new_tri y _ _ hy) rfl ?_
  rintro v L' R' ⟨c, rfl, hx, rfl, rfl⟩
  refine qc1 ?_
  refine qam ?_
  refine qa6 ?_
  refine LJ_call rfl (made1 (.consL .nil) hx (Nat.zero_le _)) rfl ?_
  rintro v L' R' ⟨m, k1, S, rfl, hm, hMA, hif, hid, hk1, rfl, rfl⟩
  simp only [List.append_assoc, List.cons_append, List.nil_append]
  refine LJ_q (yv_move rfl) rfl ?_
  refine qbs ?_
  refine qbs ?_
  refine qbs ?_
  refine qaq ?_
  intro b6
  refine qaq ?_
  intro b7
  refine qaq ?_
  intro b8
  refine qak ?_
  refine qak ?_
  refine qak ?_
  refine qa4 ?_
  refine CJ_made (A := []) hm hMA (fun f hf => (hif f hf).mono fun r hr => inR_self (by simp [hr])) (fun f hf => (hid f hf).mono fun r hr => inR_self (by simp [hr])) fun a s x R1 hMA hA hT hX hR1 => ?_
  refine qb1 ?_
  obtain ⟨_, hae, hF, hri, hfo⟩ := hMA.b
  have hx1 : CodesR (codes300 y) R1 := hx.mono fun r hr => hR1 r (by simp [hr])
  have hR0 : ∀ r ∈ R, InR r R1 := fun r hr => hR1 r (by simp [hr])
  have hnp := hMA.nplaces
  have hnr := hMA.nroads
  have hfn := hF.flen
  have hxf := hX.flows
  refine qay ?_
  refine qa6 ?_
  refine qab ?_
  refine qac ?_
  refine LJ_call rfl (Tri.spl (.consB (.consB (.consB (.consL .nil)))) (drawSpans_tri c (codes300 y) k1 x.flows _ hx1 hk1 hxf (fun q hq => by have := hF.flow q hq; omega) (by omega))) rfl ?_
  rintro v L' R' ⟨_, rfl, l, k2, rfl, hlk, hN, hk2, rfl, rfl⟩
  simp only [List.append_assoc, List.cons_append, List.nil_append]
  refine qc4 ?_
  refine qa4 ?_
  refine CJ_frz1 (A := [_, _, _]) (wd := 2) [] (fun _ => rfl) (by decide) hlk (fun s hs => by cases hs) ?_
  refine qb1 ?_
  have hln := hN.len
  obtain ⟨R2, hR2e⟩ : ∃ R2, R2 = spsl l.arr :: R1 := ⟨_, rfl⟩
  have hR2 : ∀ r ∈ R1, InR r R2 := fun r hr => inR_self (by rw [hR2e]; exact .tail _ hr)
  have hlR : InR (spsl l.arr) R2 := inR_self (by rw [hR2e]; exact .head _)
  have hxf2 := hxf.mono hR2
  have hx2 := hx1.mono hR2
  refine CJ_R (show _ = R2 by rw [hR2e]) ?_
  refine qay ?_
  refine qa6 ?_
  refine qab ?_
  refine qac ?_
  refine LJ_call rfl (Tri.spl (.consB (.consB (.consB (.consL .nil)))) (flowing_tri c (codes300 y) k2 x.flows false _ hx2 hk2 hxf2 hF.flow (by omega))) rfl ?_
  rintro v L' R' ⟨_, rfl, sn, me, k3, rfl, ⟨hsk, hmk⟩, ⟨hsn, hmn⟩, hSL, hML, hk3, rfl, rfl⟩
  simp only [List.append_assoc, List.cons_append, List.nil_append]
  refine LJ_q (yv_move rfl) rfl ?_
  refine qbs ?_
  refine qbs ?_
  refine qc4 ?_
  refine qc4 ?_
  refine qa4 ?_
  refine CJ_frz1 (A := [_, _, _]) (wd := 4) [] (fun _ => rfl) (by decide) hmk (fun s hs => by cases hs) ?_
  refine qb1 ?_
  refine CJ_frz1 (A := [_, _, _]) (wd := 8) [] (fun _ => rfl) (by decide) hsk (fun s hs => by cases hs) ?_
  refine qb1 ?_
  obtain ⟨R3, hR3e⟩ : ∃ R3, R3 = sesl sn.arr :: mesl me.arr :: R2 := ⟨_, rfl⟩
  have hR3 : ∀ r ∈ R2, InR r R3 := fun r hr => inR_self (by rw [hR3e]; exact .tail _ (.tail _ hr))
  have hsR : InR (sesl sn.arr) R3 := inR_self (by rw [hR3e]; exact .head _)
  have hmR : InR (mesl me.arr) R3 := inR_self (by rw [hR3e]; exact .tail _ (.head _))
  have hlR3 := hlR.mono hR3
  have hmo : ∀ z ∈ me.l, MeasOk z := fun z hz => by
    obtain ⟨i, hi⟩ := List.mem_iff_getElem?.1 hz
    have := hML i z hi
    rw [MeasQ] at this
    rw [MeasOk]
    omega
  refine CJ_R (show _ = R3 by rw [hR3e]) ?_
  refine CJ_weak (L' := []) (R' := R3) (List.nil_sublist _) (fun r hr => inR_self hr) ?_
  refine qay ?_
  refine qc4 ?_
  refine qaw ?_
  refine qbm ?_
  refine qag ?_
  refine qaa ?_
  refine qa2 ?_
  refine CJ_forget [(1, Value.int _ _), (9, Value.slice _ _ _), (10, Value.slice _ _ _), (11, Value.slice _ _ _), (12, Value.slice _ _ _), (41, Value.int _ _), (42, Value.int _ _)] (by repeat' (first | exact trivial | refine And.intro rfl ?_)) fun tq0 => ?_
  refine CJ_loop [12, 13, 42, 43, 44, 45, 46, 47, 48, 49, 50, 51, 52] ((⟨fun g => [(42, .int .i64 ((g.1.1 : Nat) : Int)), (12, g.1.2.val)], fun g => g.1.2.L 88 XMeas.cells ++ [], fun _ => R3, fun g => me.l.length - g.1.1⟩ : Head {g : Nat × OwL XMeas // g.1 ≤ me.l.length ∧ g.2.ok 4 XMeas.cells ∧ g.2.l = (me.l.take g.1).reverse})) (⟨(0, OwL.nil), by dsimp only; omega, OwL.nil_ok, rfl⟩) (by repeat' (first | exact trivial | refine And.intro rfl ?_)) (by dsimp only; rw [nil_L, List.nil_append]; exact List.Sublist.refl _) (allR_self _) ?_
  rintro ⟨⟨i, b⟩, hi, hbk, hbl⟩ junk
  try dsimp only
  dsimp only at hi hbk hbl
  refine qae ?_
  refine qaj ?_
  refine qa4 ?_
  refine q_c (fun hc0 => ?_) (fun hc0 => ?_)
  ·
   have hmg := get_D (l := me.l) (k := i) default (by omega)
   obtain ⟨z, hz⟩ : ∃ z, z = me.l.getD i default := ⟨_, rfl⟩
   rw [← hz] at hmg
   have hbn : b.l.length ≤ 4 := by rw [hbl]; simp; omega
   have htk : me.l.take (i + 1) = me.l.take i ++ [z] := by rw [List.take_add_one, hmg]; rfl
   refine qbb ?_
   refine qaa ?_
   refine qad ?_
   refine LJ_nil (seqK_normal (CJ_region ?_))
   refine qbm ?_
   refine qaa ?_
   refine LJ_q (by first | exact yv_index_ro tb rfl rfl rfl rfl (by first | assumption | exact zr (by simp)) (i := i) (by first | rfl | omega | (simp; omega)) (by omega) | exact yv_index tb rfl rfl rfl rfl (i := i) (by first | rfl | omega | (simp; omega)) (by omega)) rfl ?_
   refine qdr ?_
   refine LJ_g (gives_buildSlice (qs := [(0, (Value.agg _).cells.toList)]) (out := [_, _, _, _]) tb rfl rfl rfl rfl rfl rfl rfl) rfl ?_
   rintro v L' R' ⟨b49, rfl, rfl, hR49⟩
   replace hR49 := hR49.symm; subst hR49
   refine qbm ?_
   refine LJ_L (built_ow (f := XMeas.cells) (n := 1) [z] rfl _) ?_
   refine LJ_g (gives_appendQ tb (⟨.own b49 1 [], [z]⟩ : OwL XMeas) b rfl rfl rfl rfl rfl (built_ok (fun _ => rfl) rfl (by decide)) hbk (fun _ => rfl) (by repeat (first | apply OSeg.cons | exact OSeg.here | exact OSeg.last | exact OSeg.at (by assumption) | apply OSeg.app)) (by repeat (first | exact inB_here | apply inB_cons | apply inB_app)) (show 0 < 1 by decide) (fun _ => rfl) (by dsimp only [List.length_cons, List.length_nil]; omega)) rfl ?_
   rintro v L' R' ⟨o51, rfl, hok51, rfl, rfl⟩
   refine qc4 ?_
   refine qcs ?_
   refine qar ?_
   refine qaa ?_
   refine qav ?_
   exact q_k ⟨(i + 1, (⟨o51, [z] ++ b.l⟩ : OwL XMeas)), by dsimp only; omega, hok51, by dsimp only; rw [htk, hbl]; simp⟩
  ·
   obtain rfl : i = me.l.length := by omega
   refine qc3 ?_
   rw [List.take_of_length_le (Nat.le_refl _)] at hbl
   refine CJ_frz1 (A := []) (wd := 4) [] (fun _ => rfl) (by decide) hbk (fun s hs => by cases hs) ?_
   refine CJ_L (by simp only [List.nil_append]; rfl) ?_
   obtain ⟨R4, hR4e⟩ : ∃ R4, R4 = mesl b.arr :: R3 := ⟨_, rfl⟩
   have hR4 : ∀ r ∈ R3, InR r R4 := fun r hr => inR_self (by rw [hR4e]; exact .tail _ hr)
   have hbR : InR (mesl b.arr) R4 := inR_self (by rw [hR4e]; exact .head _)
   have hbn : b.l.length = me.l.length := by rw [hbl]; simp
   have hbo : ∀ z ∈ b.l, MeasOk z := fun z hz => hmo z (by rw [hbl] at hz; exact List.mem_reverse.1 hz)
   refine CJ_R (show _ = R4 by rw [hR4e]) ?_
   have hlow : ∀ j : Nat, j < l.l.length → (l.l.getD j default).low ≤ (l.l.getD j default).high := fun j hj => by
     have := hN.at_ j _ (get_D (l := l.l) (k := j) default hj)
     omega
   have hO1 := ord_to (S := sn.l) (m := me.l) (t := t) hlow me.l.length (Nat.le_refl _)
   have hO2 := ord_to (S := sn.l) (m := b.l) (t := t) hlow b.l.length (Nat.le_refl _)
   rw [List.take_of_length_le (Nat.le_refl _)] at hO1 hO2
   have hmm : ∀ z, z ∈ me.l ↔ z ∈ b.l := fun z => by rw [hbl]; exact List.mem_reverse.symm
   refine qay ?_
   refine qbm ?_
   refine qbm ?_
   refine qbm ?_
   refine qaa ?_
   refine qdg ?_
   refine LJ_call rfl (tighten_tri l.arr sn.arr me.arr t _ _ (hlR3.mono hR4) (hsR.mono hR4) (hmR.mono hR4) (show l.l.length ≤ 1000 by omega) (show sn.l.length ≤ 1000 by omega) (show me.l.length ≤ 1000 by omega) hmo (by omega)) rfl ?_
   rintro v L' R' ⟨p, q, rfl, ⟨hpk, hqk⟩, hpl, hql, rfl, rfl⟩
   have hpl' : p.l = (narTo l.l nothingS 3 sn.l me.l t me.l.length).out := hpl
   have hql' : q.l = wrongS (narTo l.l nothingS 3 sn.l me.l t me.l.length).bad sn.l.length := hql
   have hpn : p.l.length = l.l.length := by rw [hpl']; exact hO1.len.1
   have hqn : q.l.length ≤ sn.l.length := by rw [hql']; exact wrongS_len
   refine LJ_q (yv_move rfl) rfl ?_
   refine qbs ?_
   refine qbs ?_
   refine qc4 ?_
   refine qc4 ?_
   refine qa4 ?_
   refine CJ_frz1 (A := []) (wd := 1) [] (fun _ => rfl) (by decide) hqk (fun s hs => by cases hs) ?_
   refine CJ_L (by simp only [List.nil_append]; rfl) ?_
   refine CJ_frz1 (A := []) (wd := 2) [] (fun _ => rfl) (by decide) hpk (fun s hs => by cases hs) ?_
   refine CJ_L (by simp only [List.nil_append]; rfl) ?_
   obtain ⟨R5, hR5e⟩ : ∃ R5, R5 = spsl p.arr :: isl q.arr :: R4 := ⟨_, rfl⟩
   have hR5 : ∀ r ∈ R4, InR r R5 := fun r hr => inR_self (by rw [hR5e]; exact .tail _ (.tail _ hr))
   have hpR : InR (spsl p.arr) R5 := inR_self (by rw [hR5e]; exact .head _)
   have hqR : InR (isl q.arr) R5 := inR_self (by rw [hR5e]; exact .tail _ (.head _))
   refine CJ_R (show _ = R5 by rw [hR5e]) ?_
   refine qay ?_
   refine qbm ?_
   refine qbm ?_
   refine qbm ?_
   refine qaa ?_
   refine qdg ?_
   refine LJ_call rfl (tighten_tri l.arr sn.arr b.arr t _ _ ((hlR3.mono hR4).mono hR5) ((hsR.mono hR4).mono hR5) (hbR.mono hR5) (show l.l.length ≤ 1000 by omega) (show sn.l.length ≤ 1000 by omega) (show b.l.length ≤ 1000 by omega) hbo (by omega)) rfl ?_
   rintro v L' R' ⟨p2, q2, rfl, ⟨hpk2, hqk2⟩, hpl2, hql2, rfl, rfl⟩
   have hpl2' : p2.l = (narTo l.l nothingS 3 sn.l b.l t b.l.length).out := hpl2
   have hql2' : q2.l = wrongS (narTo l.l nothingS 3 sn.l b.l t b.l.length).bad sn.l.length := hql2
   have hpn2 : p2.l.length = l.l.length := by rw [hpl2']; exact hO2.len.1
   have hsame := hO1.same_bad hO2 hmm
   rw [← hql', ← hql2'] at hsame
   have hqq : (q.l.length = 0) ↔ (q2.l.length = 0) := by rw [List.length_eq_zero_iff, List.length_eq_zero_iff]; exact hsame
   have hout : q.l.length = 0 → p.l = p2.l := fun h0 => by rw [hpl', hpl2']; exact hO1.same_out hO2 hmm (by rw [← hql']; exact List.length_eq_zero_iff.1 h0)
   refine LJ_q (yv_move rfl) rfl ?_
   refine qbs ?_
   refine qbs ?_
   refine qc4 ?_
   refine qc4 ?_
   refine qco ?_
   refine CJ_frz1 (A := q2.L 3 icell) (wd := 2) [] (fun _ => rfl) (by decide) hpk2 (fun s hs => by cases hs) ?_
   obtain ⟨R6, hR6e⟩ : ∃ R6, R6 = spsl p2.arr :: R5 := ⟨_, rfl⟩
   have hR6 : ∀ r ∈ R5, InR r R6 := fun r hr => inR_self (by rw [hR6e]; exact .tail _ hr)
   have hp2R : InR (spsl p2.arr) R6 := inR_self (by rw [hR6e]; exact .head _)
   have hpR6 := hpR.mono hR6
   have hqR6 := hqR.mono hR6
   have hsR6 := ((hsR.mono hR4).mono hR5).mono hR6
   have hmR6 := ((hmR.mono hR4).mono hR5).mono hR6
   have hlR6 := ((hlR3.mono hR4).mono hR5).mono hR6
   refine CJ_weak (L' := []) (R' := R6) (List.nil_sublist _) (fun r hr => inR_self (by rw [hR6e] at hr; exact hr)) ?_
   refine qay ?_
   refine qbm ?_
   refine qag ?_
   refine qbm ?_
   refine qag ?_
   refine qbq ?_
   refine qah ?_
   apply LJ_or (G := [_, _, _, _, _]) (j := 5) (cj := 76) rfl rfl (by rfl) rfl (show _ = Value.bool _ from rfl) rfl
   ·
    intro hg6
    replace hg6 := qb hg6
    refine qbm ?_
    refine qag ?_
    refine qbm ?_
    refine qag ?_
    refine qbq ?_
    exact qai
   intro junk6
   refine qah ?_
   apply LJ_or (G := [_, _, _, _, _, _, _]) (j := 12) (cj := 83) rfl rfl (by rfl) rfl (show _ = Value.bool _ from rfl) rfl
   ·
    intro hg13
    replace hg13 := qb hg13
    refine qbm ?_
    refine qag ?_
    refine qbn ?_
    refine qbm ?_
    refine qag ?_
    refine qbn ?_
    refine LJ_q (yv_neq_bool tb rfl rfl rfl) rfl ?_
    exact qai
   intro junk13
   refine qaf ?_
   refine q_c (fun hc1 => ?_) (fun hc1 => ?_)
   ·
    (exfalso; simp [hsame] at hc1; omega)
   ·
    refine qbo ?_
    refine qbm ?_
    refine qag ?_
    refine qaa ?_
    refine qa2 ?_
    refine CJ_forget [(1, Value.int _ _), (9, Value.slice _ _ _), (10, Value.slice _ _ _), (11, Value.slice _ _ _), (14, Value.slice _ _ _), (15, Value.slice _ _ _), (16, Value.slice _ _ _), (92, Value.slice _ _ _), (93, Value.int _ _), (94, Value.int _ _)] (by repeat' (first | exact trivial | refine And.intro rfl ?_)) fun tq1 => ?_
    refine q_s [4, 19, 20, 94, 95, 96, 97, 98, 99, 100, 101, 102, 103, 104, 105, 106, 107, 108, 109, 110, 111, 112, 113, 114, 115, 116, 117, 118, 119, 120, 121, 122, 123, 124, 125, 126, 127, 128, 129, 130, 131, 132, 133, 134, 135] (fun g : {i : Nat // i ≤ q.l.length} => [(94, .int .i64 ((g.1 : Nat) : Int))]) (fun g => q.l.length - g.1) (⟨0, by omega⟩) ?_
    rintro ⟨i, hi⟩ junk
    try dsimp only
    refine qae ?_
    refine qaj ?_
    refine qa4 ?_
    refine q_c (fun hc2 => ?_) (fun hc2 => ?_)
    ·
     have hqg := get_D (l := q.l) (k := i) 0 (by omega)
     have hqm := List.mem_of_getElem? hqg
     rw [hql'] at hqm
     obtain ⟨k, hk1, hk2, hk3⟩ := wrongS_mem.1 hqm
     rw [← hql'] at hk3
     rw [hk3] at hqg
     obtain ⟨⟨b1, b2⟩, b3, b4⟩ := hO1.bad k hk1 hk2
     have hsg := get_D (l := sn.l) (k := k) default hk1
     obtain ⟨s1, hs1⟩ : ∃ s1, s1 = sn.l.getD k default := ⟨_, rfl⟩
     rw [← hs1] at hsg b1 b2 b3 b4
     obtain ⟨d1, d2⟩ := hO1.lost s1.target.toNat (by omega) b4
     have hpg := get_D (l := p.l) (k := s1.target.toNat) default (by omega)
     rw [hpl', d2, ← hpl'] at hpg
     refine qbb ?_
     refine LJ_q (by first | exact yv_index_ro tb rfl rfl rfl rfl (by first | assumption | exact zr (by simp)) (i := i) (by first | rfl | omega | (simp; omega)) (by omega) | exact yv_index tb rfl rfl rfl rfl (i := i) (by first | rfl | omega | (simp; omega)) (by omega)) rfl ?_
     refine qa7 ?_
     refine qad ?_
     refine qaw ?_
     refine qaa ?_
     refine qaj ?_
     refine qah ?_
     apply LJ_or (G := [_, _, _, _]) (j := 2) (cj := 100) rfl rfl (by rfl) rfl (show _ = Value.bool _ from rfl) rfl
     ·
      intro hg3
      replace hg3 := qb hg3
      refine qaa ?_
      refine qbm ?_
      refine qag ?_
      refine qbz ?_
      exact qai
     intro junk3
     refine qaf ?_
     refine q_c (fun hc3 => ?_) (fun hc3 => ?_)
     ·
      (exfalso; omega)
     ·
      refine qbv ?_
      refine qbm ?_
      refine qbm ?_
      refine qaa ?_
      refine LJ_q (by first | exact yv_index_ro tb rfl rfl rfl rfl (by first | assumption | exact zr (by simp)) (i := k) (by first | rfl | omega | (simp; omega)) (by omega) | exact yv_index tb rfl rfl rfl rfl (i := k) (by first | rfl | omega | (simp; omega)) (by omega)) rfl ?_
      refine qb0 ?_
      refine qa7 ?_
      refine LJ_q (by first | exact yv_index_ro tb rfl rfl rfl rfl (by first | assumption | exact zr (by simp)) (i := s1.target.toNat) (by first | rfl | omega | (simp; omega)) (by omega) | exact yv_index tb rfl rfl rfl rfl (i := s1.target.toNat) (by first | rfl | omega | (simp; omega)) (by omega)) rfl ?_
      refine qdl ?_
      refine qaq ?_
      intro b20
      refine qak ?_
      refine qam ?_
      refine qab ?_
      refine qac ?_
      refine qbq ?_
      refine qah ?_
      refine LJ_case (k := 117) (show _ = Value.bool _ from rfl) (fun hg4 => ?_) (fun hg4 => ?_)
      ·
       replace hg4 := qb hg4
       (exfalso; simp [nothingS] at hg4)
      ·
       replace hg4 := qb hg4
       refine LJ_qg (yv_field tb rfl rfl rfl) rfl rfl ?_
       refine LJ_qg (yv_load1 tb rfl rfl rfl (by repeat (first | exact zi0 | apply zi1 | apply zi2)) (by rfl)) rfl rfl ?_
       refine LJ_qg (yv_neq rfl rfl) rfl rfl ?_
       refine LJ_q (by first | exact yv_pick_true rfl rfl | exact yv_pick_false rfl rfl | exact yv_pick rfl) rfl ?_
       refine qah ?_
       refine LJ_case (k := 122) (show _ = Value.bool _ from rfl) (fun hg9 => ?_) (fun hg9 => ?_)
       ·
        replace hg9 := qb hg9
        (exfalso; simp [nothingS] at hg9)
       ·
        replace hg9 := qb hg9
        refine LJ_qg (yv_move (show _ = Value.slice _ _ _ from rfl)) rfl rfl ?_
        refine LJ_qg (yv_move (show _ = Value.slice _ _ _ from rfl)) rfl rfl ?_
        refine LJ_qg (yv_move (show _ = Value.slice _ _ _ from rfl)) rfl rfl ?_
        refine LJ_qg (yv_move (show _ = Value.slice _ _ _ from rfl)) rfl rfl ?_
        refine LJ_qg (yv_move (show _ = Value.int _ _ from rfl)) rfl rfl ?_
        refine LJ_qg (by first | exact yv_index_ro tb rfl rfl rfl rfl (by first | assumption | exact zr (by simp)) (i := k) (by first | rfl | omega | (simp; omega)) (by omega) | exact yv_index tb rfl rfl rfl rfl (i := k) (by first | rfl | omega | (simp; omega)) (by omega)) rfl rfl ?_
        refine LJ_qg (yv_field_eo tb rfl rfl rfl) rfl rfl ?_
        refine LJ_qg (by first | exact yv_load1_ro tb rfl rfl rfl (by first | assumption | exact zr (by simp)) (by assumption) (by rfl) | exact yv_load1 tb rfl rfl rfl (by repeat (first | exact zi0 | apply zi1 | apply zi2)) (by rfl) | exact yv_load1 tb rfl rfl rfl (by repeat (first | exact zi0 | apply zi1 | apply zi2)) (icell_get (by assumption)) | exact yv_load1 tb rfl rfl rfl (by repeat (first | exact zi0 | apply zi1 | apply zi2)) (rcell_get (fun _ => rfl) (by assumption) rfl)) rfl rfl ?_
        refine LJ_qg (yv_move (show _ = Value.int _ _ from rfl)) rfl rfl ?_
        refine LJ_qg (by first | exact yv_convert64 tb rfl rfl rfl (by omega) (by omega) | exact yv_convertU tb rfl rfl rfl (by omega) (by omega) | exact yv_convert tb rfl rfl rfl) rfl rfl ?_
        refine LJ_callg rfl (Tri.cast (window_tri sn.arr me.arr l.arr s1.target.toNat t _ _ hsR6 hmR6 hlR6 (show _ < l.l.length by omega) (show me.l.length ≤ 900 by omega) hmo (by omega) (show sn.l.length ≤ 1000 by omega) (show l.l.length ≤ 1000 by omega)) (by rw [show ((s1.target.toNat : Nat) : Int) = s1.target by omega]; rfl)) rfl rfl ?_
        rintro v L' R' ⟨rfl, rfl, rfl⟩
        refine LJ_q (by first | exact yv_pick_true rfl rfl | exact yv_pick_false rfl rfl | exact yv_pick rfl) rfl ?_
        refine qaf ?_
        refine q_c (fun hc4 => ?_) (fun hc4 => ?_)
        ·
         (exfalso; omega)
        ·
         refine qbj ?_
         refine qar ?_
         refine qaa ?_
         refine qav ?_
         exact q_k (⟨i + 1, by omega⟩)
    ·
     refine qbk ?_
     refine qbm ?_
     refine qag ?_
     refine qa5 ?_
     refine qah ?_
     refine LJ_case (k := 139) (show _ = Value.bool _ from rfl) (fun hg4 => ?_) (fun hg4 => ?_)
     ·
      replace hg4 := qb hg4
      refine LJ_skg rfl rfl ?_
      refine LJ_skg rfl rfl ?_
      refine LJ_skg rfl rfl ?_
      refine LJ_q (by first | exact yv_pick_true rfl rfl | exact yv_pick_false rfl rfl | exact yv_pick rfl) rfl ?_
      refine qah ?_
      ·
       skip
       refine LJ_callg rfl (awake13_tri _ _) rfl rfl ?_
       rintro v L' R' ⟨rfl, rfl, rfl⟩
       refine LJ_q (by first | exact yv_pick_true rfl rfl | exact yv_pick_false rfl rfl | exact yv_pick rfl) rfl ?_
       refine qaz ?_
       refine qa0 ?_
       refine retK_ret (L' := []) (R' := R) (res1 rfl (rv_tmp (show _ = Value.bool _ from rfl))) ?hp ?hL ?hR
       case hp => exact ⟨rfl, rfl, rfl⟩
       case hL => exact List.nil_sublist _
       case hR => exact fun r hr => (((((hR0 r hr).mono hR2).mono hR3).mono hR4).mono hR5).mono hR6
     ·
      replace hg4 := qb hg4
      refine LJ_qg (yv_move (show _ = Value.slice _ _ _ from rfl)) rfl rfl ?_
      refine LJ_qg (yv_move (show _ = Value.slice _ _ _ from rfl)) rfl rfl ?_
      refine LJ_callg rfl (spans_tri p.arr p2.arr _ _ hpR6 hp2R (hout (by omega))) rfl rfl ?_
      rintro v L' R' ⟨rfl, rfl, rfl⟩
      refine LJ_q (by first | exact yv_pick_true rfl rfl | exact yv_pick_false rfl rfl | exact yv_pick rfl) rfl ?_
      refine qah ?_
      refine LJ_case (k := 144) (show _ = Value.bool _ from rfl) (fun hg9 => ?_) (fun hg9 => ?_)
      ·
       replace hg9 := qb hg9
       refine LJ_callg rfl (awake13_tri _ _) rfl rfl ?_
       rintro v L' R' ⟨rfl, rfl, rfl⟩
       refine LJ_q (by first | exact yv_pick_true rfl rfl | exact yv_pick_false rfl rfl | exact yv_pick rfl) rfl ?_
       refine qaz ?_
       refine qa0 ?_
       refine retK_ret (L' := []) (R' := R) (res1 rfl (rv_tmp (show _ = Value.bool _ from rfl))) ?hp ?hL ?hR
       case hp => exact ⟨rfl, rfl, rfl⟩
       case hL => exact List.nil_sublist _
       case hR => exact fun r hr => (((((hR0 r hr).mono hR2).mono hR3).mono hR4).mono hR5).mono hR6
      ·
       replace hg9 := qb hg9
       (exfalso; cases hg9)
end Go.Proofs.Ytlgjgigciapkfaa
