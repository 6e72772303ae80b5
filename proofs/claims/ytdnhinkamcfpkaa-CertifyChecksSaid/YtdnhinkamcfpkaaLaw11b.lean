/-
  Statements about chapter 11: errors; bounds as arguments. By an AI agent; no person has read it.
-/
import Derived.Test.YtdnhinkamcfpkaaLaw11a
import Derived.Test.YtdnhinkamcfpkaaOpen
set_option linter.unusedSimpArgs false
set_option linter.unusedVariables false
namespace Go.Proofs.Ytdnhinkamcfpkaa
open Go.Aw Go
set_option maxRecDepth 20000
attribute [local irreducible] CJ LJ DJ Tri YV Gives seqK blockK loopK retK RV mergeK OwL.L

theorem op_bounds : Opens Try.prog 63 XBounds.cells (fun s => [isl s.low, isl s.high]) (fun s => (∀ n ∈ s.low.l, (Lit.int .i64 n).wf = true) ∧ ∀ n ∈ s.high.l, (Lit.int .i64 n).wf = true) := by
  intro w cs h
  obtain ⟨hl, hf⟩ := rd_struct Try.underlying63 (m := 2) (by kernel_rfl) h
  obtain ⟨c0, c1, rfl⟩ : ∃ c0 c1, cs = [c0, c1] := by match cs, hl with | [c0, c1], _ => exact ⟨c0, c1, rfl⟩
  obtain ⟨a0, e0, k0, r0⟩ := op_ints w [c0] (hf 0 _ 1 rfl (by kernel_rfl))
  obtain ⟨a1, e1, k1, r1⟩ := op_ints w [c1] (hf 1 _ 1 rfl (by kernel_rfl))
  cases e0; cases e1
  refine ⟨⟨a0, a1⟩, rfl, ⟨k0, k1⟩, ?_⟩
  simp only [List.mem_cons, List.not_mem_nil, or_false, forall_eq_or_imp, forall_eq, List.forall_mem_nil] at r0 r1 ⊢
  simp_all

/-- a call that is lent own lists, and gives a value -/
theorem Tri.lendU {P : Program} {f : FuncId} {args : Array Value} {A : List Blk} {R S : List Sl} {u : Value}
    (hS : ∀ w, ∀ G : Nat → Prop, Holds (A ++ []) G R w → ∀ s ∈ S, Rep w (fun b => G b ∨ ∃ e ∈ A, e.b = b) s)
    (h : Tri P f args [] (S ++ R) (fun v L' R' => v = u ∧ [] = L' ∧ S ++ R = R')) : Tri P f args A R (fun v L' R' => v = u ∧ A = L' ∧ R = R') := by
  have h2 := Tri.lend (S := S) (Post := fun v L' => v = u ∧ [] = L') (Spl.rest (L := A)) hS (h.mono fun v L' R' ⟨a1, a2, a3⟩ => ⟨⟨a1, a2⟩, a3⟩)
  exact h2.mono fun v L'' R' ⟨L', e, ⟨a1, a2⟩, a3⟩ => ⟨a1, by rw [← a2, List.append_nil] at e; exact e, a3⟩
theorem spans_own {A : List Blk} {R : List Sl} {p q : OwL XSpan} (hp : InB (p.L 44 XSpan.cells) A) (hq : InB (q.L 44 XSpan.cells) A) (okp : p.ok 2 XSpan.cells) (okq : q.ok 2 XSpan.cells) (he : p.l = q.l) :
    Tri Try.prog 30 [p.val, q.val].toArray A R (fun v L' R' => v = .bool true ∧ A = L' ∧ R = R') :=
  Tri.lendU (S := [spsl p.arr, spsl q.arr]) (fun w G hh s hs => by
    simp only [List.mem_cons, List.not_mem_nil, or_false] at hs
    rcases hs with rfl | rfl
    · exact lend_rep hh hp okp (fun _ => rfl) (by decide) (fun s hs => by cases hs)
    · exact lend_rep hh hq okq (fun _ => rfl) (by decide) (fun s hs => by cases hs)) (spans_tri p.arr q.arr [] _ (inR_self (.head _)) (inR_self (.tail _ (.head _))) he)

theorem airy_ex (m : XMine) : ∃ A, AiryIs m A := by
  refine ⟨(List.range (surf m).length).map fun i => @decide (∃ j : Nat, j < (surf m).length ∧ (surf m).getD j false = true ∧ Conn m j i) (Classical.propDecidable _), by simp, fun i hi => ?_⟩
  rw [List.getD_eq_getElem?_getD, List.getElem?_map, List.getElem?_range hi]
  exact ⟨fun h => @of_decide_eq_true _ (Classical.propDecidable _) h, fun h => @decide_eq_true _ (Classical.propDecidable _) h⟩

theorem certifyErrors_law (a : XAir) (s : XSetting) (b : XBounds) (R : List Sl) (hm : AirR a R) (hs : SetR s R) (hb : BoundsR b R) :
    Tri Try.prog 10 [a.val, s.val, b.val].toArray [] R (fun v L' R' => v = .bool true ∧ [] = L' ∧ R = R') := by
  obtain ⟨A, hA⟩ := airy_ex a.mine
  have hmp := hm.places
  have hmr := hm.roads
  refine tri_enter 43 Try.call10 Try.func10 rfl rfl rfl ?_
  refine qae ?_
  refine qax ?_
  intro b3
  refine qax ?_
  intro b4
  refine qax ?_
  intro b5
  refine qaz ?_
  refine qaw ?_
  refine qab ?_
  refine qab ?_
  refine qac ?_
  refine qag ?_
  refine qa5 ?_
  refine qah ?_
  apply LJ_or (G := [_, _, _, _, _]) (j := 5) (cj := 12) rfl rfl (by rfl) rfl (show _ = Value.bool _ from rfl) rfl
  ·
   intro hg6
   replace hg6 := qb hg6
   refine qab ?_
   refine qab ?_
   refine qac ?_
   refine qag ?_
   refine qa5 ?_
   exact qai
  intro junk6
  refine qaf ?_
  refine q_c (fun hc0 => ?_) (fun hc0 => ?_)
  ·
   refine qae ?_
   refine q_l rfl (awake11_tri _ _) ?_
   refine qaz ?_
   refine qbh ?_
   refine retK_ret (L' := []) (R' := R) (res1 rfl (rv_tmp (show _ = Value.bool _ from rfl))) ?hp ?hL ?hR
   case hp => exact ⟨rfl, rfl, rfl⟩
   case hL => exact List.nil_sublist _
   case hR => exact fun r h => inR_self (by simp [h])
  ·
   refine qcl ?_
   refine CJ_drawn tb [0, 1, 2, 4, 5, 6, 3, 7, 8, 9, 10, 11, 12, 14, 15, 16, 13, 17, 18, 19, 20, 21, 22, 23] ([Blk.mk b5 _ _, Blk.mk b4 _ _, Blk.mk b3 _ _]) mixed (by kernel_rfl) (by repeat (first | exact zs0 _ | exact zs1 _ | apply zs2 | apply zs3 | apply zs4 | apply zs5)) ?_
   refine qbc ?_
   refine qbd ?_
   refine qbd ?_
   refine qbc ?_
   refine qbd ?_
   refine qbd ?_
   refine DJ_call rfl (cert_tri a s b A _ _ hm hs hb (fun _ => hA)) rfl rfl ?_
   rintro v L' R' ⟨S1, rfl, rfl, rfl⟩
   refine qas ?_
   refine q_d rfl (refCert_tri a s b A _ _ (airR_mono hm fun r h => inR_self (by simp [h])) (setR_mono hs fun r h => inR_self (by simp [h])) ⟨hb.low.mono fun r h => inR_self (by simp [h]), hb.high.mono fun r h => inR_self (by simp [h])⟩ (fun _ => hA)) ?_
   refine DJ_q (yv_eql rfl rfl) rfl rfl rfl ?_
   refine qb2 ?_
   refine DJ_case (k := 29) (show _ = Value.bool _ from rfl) (fun hg9 => ?_) (fun hg9 => ?_)
   ·
    replace hg9 := qb hg9
    refine qbc ?_
    refine qbd ?_
    refine qbd ?_
    refine qbc ?_
    refine qbd ?_
    refine qbd ?_
    refine DJ_call rfl (bflow_tri a s b A _ _ (airR_mono hm fun r h => inR_self (by simp [h])) (setR_mono hs fun r h => inR_self (by simp [h])) ⟨hb.low.mono fun r h => inR_self (by simp [h]), hb.high.mono fun r h => inR_self (by simp [h])⟩ (fun _ => hA)) rfl rfl ?_
    rintro v L' R' ⟨p, S2, rfl, hpk, hpl, rfl, rfl⟩
    refine qas ?_
    refine DJ_call rfl (refBflow_tri a s b A _ _ (airR_mono hm fun r h => inR_self (by simp [h])) (setR_mono hs fun r h => inR_self (by simp [h])) ⟨hb.low.mono fun r h => inR_self (by simp [h]), hb.high.mono fun r h => inR_self (by simp [h])⟩ (fun _ => hA)) rfl rfl ?_
    rintro v L' R' ⟨q, rfl, hqk, hql, rfl, rfl⟩
    refine qas ?_
    refine q_d rfl (spans_own (by repeat (first | exact inB_here | apply inB_cons | apply inB_app)) (by repeat (first | exact inB_here | apply inB_cons | apply inB_app)) hpk hqk (hpl.trans hql.symm)) ?_
    refine qbp ?_
    refine qb2 ?_
    refine DJ_case (k := 40) (show _ = Value.bool _ from rfl) (fun hg20 => ?_) (fun hg20 => ?_)
    ·
     replace hg20 := qb hg20
     refine q_d rfl (awake11_tri _ _) ?_
     refine qbp ?_
     refine DJ_q (yv_assign (show _ = Value.bool _ from rfl)) rfl rfl rfl ?_
     refine DJ_nil (seqK_normal (CJ_ret ?_))
     refine retK_ret (L' := []) (R' := R) (res1 rfl (rv_tmp (show _ = Value.bool _ from rfl))) ?hp ?hL ?hR
     case hp => exact ⟨rfl, rfl, rfl⟩
     case hL => exact List.nil_sublist _
     case hR => exact fun r h => inR_self (by simp [h])
    ·
     replace hg20 := qb hg20
     simp at hg20
   ·
    replace hg9 := qb hg9
    simp at hg9
end Go.Proofs.Ytdnhinkamcfpkaa
