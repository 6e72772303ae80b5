/-
  Statements about chapter 13: directions, faces. By an AI agent; no person has read it.
-/
import Derived.Test.YtjjfpglgonpciaaDraw13
import Derived.Test.YtjjfpglgonpciaaLaw13a
set_option linter.unusedSimpArgs false
set_option linter.unusedVariables false
namespace Go.Proofs.Ytjjfpglgonpciaa
open Go.Aw Go
set_option maxRecDepth 20000
attribute [local irreducible] CJ LJ DJ Tri YV Gives seqK blockK loopK retK RV mergeK OwL.L

theorem fed13_tri (c : Nat) (x : Arr Int) (k : Nat) (a : XAir) (l : Arr XSpan) (R : List Sl) (hx : CodesR x R) (hk : k ≤ x.l.length) (hn : a.mine.roads.l.length ≤ 1000) (hl : InR (spsl l) R) (hln : l.l.length ≤ 1000) :
    Tri Try.prog 44 [.pointer (some ⟨c, 0, none⟩), a.val, l.val].toArray [cblk c x k] R
      (fun v L' R' => ∃ k' : Nat, v = .bool true ∧ k' ≤ x.l.length ∧ cblk c x k' :: [] = L' ∧ R = R') := by
  refine tri_enter 18 Try.call44 Try.func44 rfl rfl rfl ?_
  refine qae ?_
  refine qax ?_
  intro b4
  refine qaz ?_
  refine qam ?_
  refine qa6 ?_
  refine qa8 ?_
  refine LJ_call rfl (Tri.spl (.consB (.consL .nil)) (drawFaces_tri c x k a _ hx hk hn)) rfl ?_
  rintro v L' R' ⟨_, rfl, f, k1, rfl, hfk, hfd, hk1, rfl, rfl⟩
  simp only [List.append_assoc, List.cons_append, List.nil_append]
  refine qc4 ?_
  refine qa4 ?_
  refine CJ_frz1 (A := [_]) (wd := 2) [] (fun _ => rfl) (by decide) hfk (fun s hs => by cases hs) ?_
  refine qb1 ?_
  have hfo : FacesOk f.arr.l := fun y hy => by have := (hfd.at_ y hy).2; omega
  have hfn := hfd.len
  obtain ⟨R2, hR2e⟩ : ∃ R2, R2 = fcsl f.arr :: R := ⟨_, rfl⟩
  have hR2 : ∀ r ∈ R, InR r R2 := fun r hr => inR_self (by rw [hR2e]; exact .tail _ hr)
  have hfR : InR (fcsl f.arr) R2 := inR_self (by rw [hR2e]; exact .head _)
  have hl2 := hl.mono hR2
  refine CJ_R (show _ = R2 by rw [hR2e]) ?_
  refine qay ?_
  refine qbm ?_
  refine qbm ?_
  refine LJ_call rfl (fedL_tri l f.arr _ _ hl2 hfR hfo (show f.l.length ≤ 1000 by omega) hln) rfl ?_
  rintro v L' R' ⟨p, rfl, hpk, hpl, rfl, rfl⟩
  refine qbm ?_
  refine qbm ?_
  refine LJ_call rfl (refFedL_tri l f.arr _ _ hl2 hfR hfo (show f.l.length ≤ 1000 by omega) hln) rfl ?_
  rintro v L' R' ⟨q, rfl, hqk, hql, rfl, rfl⟩
  refine q_l rfl (ints_own (by repeat (first | exact inB_here | apply inB_cons | apply inB_app)) (by repeat (first | exact inB_here | apply inB_cons | apply inB_app)) hpk hqk (hpl.trans hql.symm)) ?_
  refine qaz ?_
  refine qa0 ?_
  refine retK_ret (L' := [cblk c x k1]) (R' := R) (res1 rfl (rv_tmp (show _ = Value.bool _ from rfl))) ?hp ?hL ?hR
  case hp => exact ⟨k1, rfl, hk1, rfl, rfl⟩
  case hL => exact (by repeat (first | exact zs0 _ | exact zs1 _ | apply zs2 | apply zs3 | apply zs4 | apply zs5))
  case hR => exact hR2

theorem airflowDirections_law (y : Arr Int) (raw : Arr XSpan) (fc : Arr XFace) (R : List Sl) (hy : CodesR y R) (hraw : InR (spsl raw) R) (hfc : InR (fcsl fc) R) :
    Tri Try.prog 12 [y.val, raw.val, fc.val].toArray [] R (fun v L' R' => v = .bool true ∧ [] = L' ∧ R = R') := by
  refine tri_enter 81 Try.call12 Try.func12 rfl rfl rfl ?_
  refine qae ?_
  refine qaz ?_
  refine qaw ?_
  refine qbm ?_
  refine qag ?_
  refine qa5 ?_
  refine qah ?_
  apply LJ_or (G := [_, _, _]) (j := 3) (cj := 19) rfl rfl (by rfl) rfl (show _ = Value.bool _ from rfl) rfl
  ·
   intro hg4
   replace hg4 := qb hg4
   refine qbm ?_
   refine qag ?_
   refine qa5 ?_
   exact qai
  intro junk4
  refine qaf ?_
  refine q_c (fun hc0 => ?_) (fun hc0 => ?_)
  ·
   refine qae ?_
   refine q_l rfl (awake13_tri _ _) ?_
   refine qaz ?_
   refine qbh ?_
   refine retK_ret (L' := []) (R' := R) (res1 rfl (rv_tmp (show _ = Value.bool _ from rfl))) ?hp ?hL ?hR
   case hp => exact ⟨rfl, rfl, rfl⟩
   case hL => exact List.nil_sublist _
   case hR => exact allR_self _
  ·
   have hrn : raw.l.length ≤ 30 := by omega
   have hcn : fc.l.length ≤ 30 := by omega
   refine qbo ?_
   refine qbm ?_
   refine qag ?_
   refine qaa ?_
   refine qa2 ?_
   refine CJ_forget [(0, Value.slice _ _ _), (1, Value.slice _ _ _), (2, Value.slice _ _ _), (25, Value.slice _ _ _), (26, Value.int _ _), (27, Value.int _ _)] (by repeat' (first | exact trivial | refine And.intro rfl ?_)) fun tq0 => ?_
   refine q_s [6, 8, 27, 28, 29, 30, 31, 32, 33, 34, 35, 36] (fun g : {i : Nat // i ≤ raw.l.length} => [(27, .int .i64 ((g.1 : Nat) : Int))]) (fun g => raw.l.length - g.1) (⟨0, by omega⟩) ?_
   rintro ⟨i, hi⟩ junk
   try dsimp only
   refine qae ?_
   refine qaj ?_
   refine qa4 ?_
   refine q_c (fun hc1 => ?_) (fun hc1 => ?_)
   ·
    have hrg := get_D (l := raw.l) (k := i) default (by omega)
    refine qbb ?_
    refine LJ_q (by first | exact yv_index_ro tb rfl rfl rfl rfl (by first | assumption | exact zr (by simp)) (i := i) (by first | rfl | omega | (simp; omega)) (by omega) | exact yv_index tb rfl rfl rfl rfl (i := i) (by first | rfl | omega | (simp; omega)) (by omega)) rfl ?_
    refine qdl ?_
    refine qaq ?_
    intro b8
    refine qak ?_
    refine qa4 ?_
    refine CJ_drawn tb [0, 2, 1, 3, 4] _ mixed (by kernel_rfl) (List.Sublist.refl _) ?_
    refine qbd ?_
    refine qbd ?_
    refine q_d rfl (direction_tri _ _ _) ?_
    refine q_d rfl (refDirection_tri _ _ _) ?_
    refine DJ_q (yv_neq rfl rfl) rfl rfl rfl ?_
    refine qbu ?_
    refine q_c (fun hc2 => ?_) (fun hc2 => ?_)
    ·
     exact absurd trivial hc2
    ·
     refine qbj ?_
     refine qar ?_
     refine qaa ?_
     refine qav ?_
     exact q_k (⟨i + 1, by omega⟩)
   ·
    refine qcf ?_
    refine qbm ?_
    refine qag ?_
    refine qaa ?_
    refine qa2 ?_
    refine CJ_forget [(0, Value.slice _ _ _), (1, Value.slice _ _ _), (2, Value.slice _ _ _), (37, Value.slice _ _ _), (38, Value.int _ _), (39, Value.int _ _)] (by repeat' (first | exact trivial | refine And.intro rfl ?_)) fun tq1 => ?_
    refine q_s [6, 10, 39, 40, 41, 42, 43, 44, 45, 46, 47, 48, 49, 50, 51, 52] (fun g : {i : Nat // i ≤ fc.l.length ∧ ∀ j : Nat, j < i → -1099511627776 ≤ (fc.l.getD j default).need ∧ (fc.l.getD j default).need ≤ 1099511627776} => [(39, .int .i64 ((g.1 : Nat) : Int))]) (fun g => fc.l.length - g.1) (⟨0, by omega, fun j hj => by omega⟩) ?_
    rintro ⟨i, hi, hal⟩ junk
    try dsimp only
    refine qae ?_
    refine qaj ?_
    refine qa4 ?_
    refine q_c (fun hc3 => ?_) (fun hc3 => ?_)
    ·
     have hcg := get_D (l := fc.l) (k := i) default (by omega)
     refine qbb ?_
     refine LJ_q (by first | exact yv_index_ro tb rfl rfl rfl rfl (by first | assumption | exact zr (by simp)) (i := i) (by first | rfl | omega | (simp; omega)) (by omega) | exact yv_index tb rfl rfl rfl rfl (i := i) (by first | rfl | omega | (simp; omega)) (by omega)) rfl ?_
     refine qdl ?_
     refine qaq ?_
     intro b10
     refine qak ?_
     refine qam ?_
     refine qab ?_
     refine qac ?_
     refine qaj ?_
     refine qah ?_
     apply LJ_or (G := [_, _, _]) (j := 3) (cj := 46) rfl rfl (by rfl) rfl (show _ = Value.bool _ from rfl) rfl
     ·
      intro hg4
      replace hg4 := qb hg4
      refine qab ?_
      refine qac ?_
      refine qa5 ?_
      exact qai
     intro junk4
     refine qaf ?_
     refine q_c (fun hc4 => ?_) (fun hc4 => ?_)
     ·
      refine qae ?_
      refine q_l rfl (awake13_tri _ _) ?_
      refine qaz ?_
      refine qbt ?_
      refine retK_ret (L' := []) (R' := R) (res1 rfl (rv_tmp (show _ = Value.bool _ from rfl))) ?hp ?hL ?hR
      case hp => exact ⟨rfl, rfl, rfl⟩
      case hL => exact List.nil_sublist _
      case hR => exact allR_self _
     ·
      refine qbj ?_
      refine qar ?_
      refine qaa ?_
      refine qav ?_
      exact loopK_mk (⟨i + 1, by omega, fun j hj => by
      rcases Nat.lt_or_ge j i with h | h
      · exact hal j h
      · obtain rfl : j = i := by omega
        omega⟩) (by repeat (first | exact Off.refl | apply Off.upd rfl | apply Off.havoc rfl | apply Off.updL rfl | apply Off.left rfl)) (by repeat' (first | exact trivial | refine And.intro rfl ?_)) (by repeat (first | exact zs0 _ | exact zs1 _ | apply zs2 | apply zs3 | apply zs4 | apply zs5)) (allR_self _) (by dsimp only; omega)
    ·
     have hfo : FacesOk fc.l := fun z hz => by
       obtain ⟨j, hj⟩ := List.mem_iff_getElem?.1 hz
       have hjl := (List.getElem?_eq_some_iff.1 hj).1
       have := hal j (by omega)
       rw [getD_some hj] at this
       omega
     refine qbk ?_
     refine qbm ?_
     refine LJ_call rfl (new_tri y _ _ hy) rfl ?_
     rintro v L' R' ⟨c, rfl, hx, rfl, rfl⟩
     refine qc1 ?_
     refine qam ?_
     refine qa6 ?_
     refine LJ_call rfl (made1 (.consL .nil) hx (Nat.zero_le _)) rfl ?_
     rintro v L' R' ⟨m, k1, S, rfl, hm, hMA, hif, hid, hk1, rfl, rfl⟩
     simp only [List.append_assoc, List.cons_append, List.nil_append]
     refine LJ_q (yv_move rfl) rfl ?_
     refine qbs ?_
     refine qbs ?_
     refine qbs ?_
     refine qaq ?_
     intro b12
     refine qaq ?_
     intro b13
     refine qaq ?_
     intro b14
     refine qak ?_
     refine qak ?_
     refine qak ?_
     refine qa4 ?_
     refine CJ_made (A := []) hm hMA (fun f hf => (hif f hf).mono fun r hr => inR_self (by simp [hr])) (fun f hf => (hid f hf).mono fun r hr => inR_self (by simp [hr])) fun a s x R1 hMA hA hT hX hR1 => ?_
     refine qb1 ?_
     obtain ⟨_, hae, hF, hri, hfow⟩ := hMA.b
     have hx1 : CodesR (codes300 y) R1 := hx.mono fun r hr => hR1 r (by simp [hr])
     have hR0 : ∀ r ∈ R, InR r R1 := fun r hr => hR1 r (by simp [hr])
     have hnp := hMA.nplaces
     have hnr := hMA.nroads
     have hfn := hF.flen
     refine qay ?_
     refine qa6 ?_
     refine qab ?_
     refine qac ?_
     refine LJ_call rfl (Tri.spl (.consB (.consB (.consB (.consL .nil)))) (drawSpans_tri c (codes300 y) k1 x.flows _ hx1 hk1 hX.flows (fun q hq => by have := hF.flow q hq; omega) (by omega))) rfl ?_
     rintro v L' R' ⟨_, rfl, l, k2, rfl, hlk, hlN, hk2, rfl, rfl⟩
     simp only [List.append_assoc, List.cons_append, List.nil_append]
     refine qc4 ?_
     refine qa4 ?_
     refine CJ_frz1 (A := [_, _, _]) (wd := 2) [] (fun _ => rfl) (by decide) hlk (fun s hs => by cases hs) ?_
     refine qb1 ?_
     have hln := hlN.len
     obtain ⟨R2, hR2e⟩ : ∃ R2, R2 = spsl l.arr :: R1 := ⟨_, rfl⟩
     have hR2 : ∀ r ∈ R1, InR r R2 := fun r hr => inR_self (by rw [hR2e]; exact .tail _ hr)
     have hlR : InR (spsl l.arr) R2 := inR_self (by rw [hR2e]; exact .head _)
     have hraw2 := (hraw.mono hR0).mono hR2
     have hfc2 := (hfc.mono hR0).mono hR2
     refine CJ_R (show _ = R2 by rw [hR2e]) ?_
     refine qay ?_
     refine qbm ?_
     refine qbm ?_
     refine LJ_call rfl (fedL_tri raw fc _ _ hraw2 hfc2 hfo (by omega) (by omega)) rfl ?_
     rintro v L' R' ⟨p, rfl, hpk, hpl, rfl, rfl⟩
     refine qbm ?_
     refine qbm ?_
     refine LJ_call rfl (refFedL_tri raw fc _ _ hraw2 hfc2 hfo (by omega) (by omega)) rfl ?_
     rintro v L' R' ⟨q, rfl, hqk, hql, rfl, rfl⟩
     refine q_l rfl (ints_own (by repeat (first | exact inB_here | apply inB_cons | apply inB_app)) (by repeat (first | exact inB_here | apply inB_cons | apply inB_app)) hpk hqk (hpl.trans hql.symm)) ?_
     refine qah ?_
     refine LJ_case (k := 72) (show _ = Value.bool _ from rfl) (fun hg8 => ?_) (fun hg8 => ?_)
     ·
      replace hg8 := qb hg8
      refine LJ_qg (yv_move (show _ = Value.pointer _ from rfl)) rfl rfl ?_
      refine LJ_qg (yv_loadN (row := [_, _, _, _]) tb rfl rfl rfl (by repeat (first | exact zi0 | apply zi1 | apply zi2)) (by rfl) (by rfl)) rfl rfl ?_
      refine LJ_qg (yv_move (show _ = Value.slice _ _ _ from rfl)) rfl rfl ?_
      refine LJ_callg rfl (Tri.spl (.appB (.appB (.consB (.consB (.consB (.consL .nil)))))) (fed13_tri c (codes300 y) k2 a l.arr _ (hx1.mono hR2) hk2 (by omega) hlR (show l.l.length ≤ 1000 by omega))) rfl rfl ?_
      rintro v L' R' ⟨_, rfl, k3, rfl, hk3, rfl, rfl⟩
      refine LJ_q (by first | exact yv_pick_true rfl rfl | exact yv_pick_false rfl rfl | exact yv_pick rfl) rfl ?_
      refine qah ?_
      refine LJ_case (k := 78) (show _ = Value.bool _ from rfl) (fun hg14 => ?_) (fun hg14 => ?_)
      ·
       replace hg14 := qb hg14
       refine LJ_callg rfl (awake13_tri _ _) rfl rfl ?_
       rintro v L' R' ⟨rfl, rfl, rfl⟩
       refine LJ_q (by first | exact yv_pick_true rfl rfl | exact yv_pick_false rfl rfl | exact yv_pick rfl) rfl ?_
       refine qaz ?_
       refine qa0 ?_
       refine retK_ret (L' := []) (R' := R) (res1 rfl (rv_tmp (show _ = Value.bool _ from rfl))) ?hp ?hL ?hR
       case hp => exact ⟨rfl, rfl, rfl⟩
       case hL => exact List.nil_sublist _
       case hR => exact fun r hr => (hR0 r hr).mono hR2
      ·
       replace hg14 := qb hg14
       cases hg14
     ·
      replace hg8 := qb hg8
      cases hg8
end Go.Proofs.Ytjjfpglgonpciaa
