/-
  The program's bounds. By an AI agent; no person has read it.
-/
import Derived.Test.YtlgjgigciapkfaaRel
set_option linter.unusedSimpArgs false
set_option linter.unusedVariables false
namespace Go.Proofs.Ytlgjgigciapkfaa
open Go.Aw Go
set_option maxRecDepth 20000
attribute [local irreducible] CJ LJ DJ Tri YV Gives seqK blockK loopK retK RV mergeK OwL.L

/-- what it makes for itself is forgotten -/
theorem relRise0 (a : XAir) (s : XSetting) (ps : Arr Int) (A : List Bool) (L : List Blk) (R : List Sl) (hm : AirR a R) (hs : SetR s R) (hps : InR (isl ps) R) (hA : airErr a = 0 → AiryIs a.mine A) :
    Tri Try.prog 147 [a.val, s.val, ps.val].toArray L R (fun w L' R' => ∃ p : OwL Int, w = .tuple #[p.val, .int .i64 (relaxS a s A true ps.l).1] ∧ p.ok 1 icell ∧ p.l = (relaxS a s A true ps.l).2 ∧ p.L 3 icell ++ L = L' ∧ R = R') :=
  Tri.turn (relRise_tri a s ps A L R hm hs hps hA) fun v L' R' ⟨p, S, a1, a2, a3, a4, a5⟩ => ⟨L', R, List.Perm.refl _, fun r h => inR_self (by rw [← a5]; simp [h]), p, a1, a2, a3, a4, rfl⟩
/-- what it makes for itself is forgotten -/
theorem relFall0 (a : XAir) (s : XSetting) (ps : Arr Int) (A : List Bool) (L : List Blk) (R : List Sl) (hm : AirR a R) (hs : SetR s R) (hps : InR (isl ps) R) (hA : airErr a = 0 → AiryIs a.mine A) :
    Tri Try.prog 146 [a.val, s.val, ps.val].toArray L R (fun w L' R' => ∃ p : OwL Int, w = .tuple #[p.val, .int .i64 (relaxS a s A false ps.l).1] ∧ p.ok 1 icell ∧ p.l = (relaxS a s A false ps.l).2 ∧ p.L 3 icell ++ L = L' ∧ R = R') :=
  Tri.turn (relFall_tri a s ps A L R hm hs hps hA) fun v L' R' ⟨p, S, a1, a2, a3, a4, a5⟩ => ⟨L', R, List.Perm.refl _, fun r h => inR_self (by rw [← a5]; simp [h]), p, a1, a2, a3, a4, rfl⟩
theorem relFallL {a : XAir} {s : XSetting} {q : OwL Int} {A : List Bool} {L : List Blk} {R : List Sl} {vl : Value} (hvl : vl = q.val) (hm : AirR a R) (hs : SetR s R) (hA : airErr a = 0 → AiryIs a.mine A) (hin : InB (q.L 3 icell) L) (hok : q.ok 1 icell) :
    Tri Try.prog 146 [a.val, s.val, vl].toArray L R (fun w L' R' => ∃ p : OwL Int, w = .tuple #[p.val, .int .i64 (relaxS a s A false q.l).1] ∧ p.ok 1 icell ∧ p.l = (relaxS a s A false q.l).2 ∧ p.L 3 icell ++ L = L' ∧ R = R') := by
  subst hvl
  have h2 := Tri.lend (S := [isl q.arr]) (Post := fun v L' => ∃ p : OwL Int, v = .tuple #[p.val, .int .i64 (relaxS a s A false q.l).1] ∧ p.ok 1 icell ∧ p.l = (relaxS a s A false q.l).2 ∧ p.L 3 icell ++ [] = L') (Spl.rest (L := L)) (fun w G hh s hs => by
    rw [List.mem_singleton.1 hs]
    exact lend_rep hh hin hok (fun _ => rfl) (by decide) (fun s hs => by cases hs)) ((relFall0 a s q.arr A [] _ (airR_mono hm fun r h => inR_self (.tail _ h)) (setR_mono hs fun r h => inR_self (.tail _ h)) (inR_self (.head _)) hA).mono fun v L' R' ⟨p, a1, a2, a3, a4, a5⟩ => ⟨⟨p, a1, a2, a3, a4⟩, a5⟩)
  exact Tri.turn h2 fun v L'' R' ⟨L', e, ⟨p, a1, a2, a3, a4⟩, a5⟩ => ⟨_, R', by rw [← e, ← a4, List.append_nil]; exact List.perm_append_comm, fun r hr => inR_self hr, p, a1, a2, a3, rfl, a5⟩


theorem relSolve_tri (a : XAir) (s : XSetting) (A : List Bool) (L : List Blk) (R : List Sl) (hm : AirR a R) (hs : SetR s R) (hA : airErr a = 0 → AiryIs a.mine A) (hnp : a.mine.places.l.length ≤ 64) :
    Tri Try.prog 100 [a.val, s.val].toArray L R (fun w L' R' => ∃ lo hi : OwL Int, w = .tuple #[.agg #[lo.val, hi.val], .int .i64 (solveS a s A).1] ∧ lo.ok 1 icell ∧ hi.ok 1 icell ∧ lo.l = (solveS a s A).2.1 ∧ hi.l = (solveS a s A).2.2 ∧ lo.L 3 icell ++ (hi.L 3 icell ++ L) = L' ∧ R = R') := by
  have hmp := hm.places
  have hzok : ∀ b, (⟨.own b a.mine.places.l.length [], List.replicate a.mine.places.l.length 0⟩ : OwL Int).ok 1 icell := fun b => made_ok (fun _ => rfl) (by simp only [maxLen]; omega)
  refine tri_enter 49 Try.call100 Try.func100 rfl rfl rfl ?_
  refine qae ?_
  refine qax ?_
  intro b2
  refine qax ?_
  intro b3
  refine qaq ?_
  intro b4
  refine qad ?_
  refine qa4 ?_
  refine CJ_drawn tb [0, 1, 2, 3, 4, 5, 6, 7, 8, 9, 10, 11, 12] ([Blk.mk b3 _ _, Blk.mk b2 _ _]) mixed (by kernel_rfl) (by repeat (first | exact zs0 _ | exact zs1 _ | apply zs2 | apply zs3 | apply zs4 | apply zs5)) ?_
  refine qbc ?_
  refine qbd ?_
  refine qal ?_
  refine qal ?_
  refine qat ?_
  refine DJ_q (yv_len tb rfl rfl rfl) rfl rfl rfl ?_
  refine DJ_g (gives_makeSlice tb rfl rfl rfl rfl rfl rfl rfl (by omega) (by omega)) rfl rfl rfl ?_
  rintro v L' R' ⟨b16, rfl, rfl, hR16⟩
  replace hR16 := hR16.symm; subst hR16
  refine qa1 ?_
  refine DJ_call rfl (relFallL (q := ⟨.own b16 a.mine.places.l.length [], List.replicate a.mine.places.l.length 0⟩) (rep_val (α := Int)).symm hm hs hA (inB_made (f := icell) (x := 0) rfl) (hzok b16)) rfl rfl ?_
  rintro v L' R' ⟨p, rfl, hpk, hpl, rfl, rfl⟩
  refine qas ?_
  replace hpl : p.l = (relaxS a s A false (List.replicate a.mine.places.l.length 0)).2 := hpl
  refine DJ_q (yv_move rfl) rfl rfl rfl ?_
  refine DJ_q (yv_extract rfl rfl) rfl rfl rfl ?_
  refine DJ_q (yv_extract rfl rfl) rfl rfl rfl ?_
  refine DJ_q (yv_assign (show _ = Value.slice _ _ _ from rfl)) rfl rfl rfl ?_
  refine qcg ?_
  refine DJ_nil (seqK_normal (CJ_seq (CJ_seq ?_)))
  refine CJ_frz1 (A := []) (wd := 1) [] (fun _ => rfl) (by decide) hpk (fun s hs => by cases hs) ?_
  refine CJ_L (by simp only [List.nil_append]; rfl) ?_
  have hm1 : AirR a (isl p.arr :: R) := airR_mono hm fun r h => inR_self (.tail _ h)
  have hs1 : SetR s (isl p.arr :: R) := setR_mono hs fun r h => inR_self (.tail _ h)
  obtain ⟨x, hx⟩ : ∃ x, x = relaxS a s A false (List.replicate a.mine.places.l.length 0) := ⟨_, rfl⟩
  rw [← hx] at hpl ⊢
  refine qay ?_
  refine qaa ?_
  refine qbq ?_
  refine qaf ?_
  refine q_c (fun hc0 => ?_) (fun hc0 => ?_)
  ·
   refine qae ?_
   refine qck ?_
   refine qaa ?_
   refine qak ?_
   refine qad ?_
   refine qbh ?_
   refine retK_ret (L' := L) (R' := R) (res2 rfl (rv_cell (row := [_, _]) tb rfl rfl rfl (by repeat (first | exact zi0 | apply zi1 | apply zi2)) (by rfl) (by rfl)) (rv_tmp (show _ = Value.int _ _ from rfl))) ?hp ?hL ?hR
   case hp =>
    have hsv : solveS a s A = (x.1, [], []) := by rw [solveS]; dsimp only; rw [← hx, if_pos hc0]
    exact ⟨OwL.nil, OwL.nil, by rw [hsv]; rfl, OwL.nil_ok, OwL.nil_ok, by rw [hsv], by rw [hsv], by rw [nil_L, List.nil_append, List.nil_append], rfl⟩
   case hL => exact (by repeat (first | exact zs0 _ | exact zs1 _ | apply zs2 | apply zs3 | apply zs4 | apply zs5))
   case hR => exact fun r h => inR_self (by simp [h])
  ·
   refine qbv ?_
   refine qa8 ?_
   refine qbe ?_
   refine qbm ?_
   refine LJ_call rfl (relRise0 a s p.arr A _ _ hm1 hs1 (inR_self (.head _)) hA) rfl ?_
   rintro v L' R' ⟨q, rfl, hqk, hql, rfl, rfl⟩
   replace hql : q.l = (relaxS a s A true p.l).2 := hql
   obtain ⟨y, hy⟩ : ∃ y, y = relaxS a s A true p.l := ⟨_, rfl⟩
   rw [← hy] at hql ⊢
   have hxy : y = relaxS a s A true x.2 := by rw [hy, hpl]
   refine LJ_q (yv_move rfl) rfl ?_
   refine qbs ?_
   refine qbs ?_
   refine qc4 ?_
   refine qad ?_
   refine qaw ?_
   refine qaa ?_
   refine qbq ?_
   refine qaf ?_
   refine q_c (fun hc1 => ?_) (fun hc1 => ?_)
   ·
    refine qae ?_
    refine qck ?_
    refine qaa ?_
    refine qak ?_
    refine qad ?_
    refine qbh ?_
    refine retK_ret (L' := L) (R' := R) (res2 rfl (rv_cell (row := [_, _]) tb rfl rfl rfl (by repeat (first | exact zi0 | apply zi1 | apply zi2)) (by rfl) (by rfl)) (rv_tmp (show _ = Value.int _ _ from rfl))) ?hp ?hL ?hR
    case hp =>
     have hsv : solveS a s A = (y.1, [], []) := by rw [solveS]; dsimp only; rw [← hx, if_neg hc0, ← hxy, if_pos hc1]
     exact ⟨OwL.nil, OwL.nil, by rw [hsv]; rfl, OwL.nil_ok, OwL.nil_ok, by rw [hsv], by rw [hsv], by rw [nil_L, List.nil_append, List.nil_append], rfl⟩
    case hL => exact (by repeat (first | exact zs0 _ | exact zs1 _ | apply zs2 | apply zs3 | apply zs4 | apply zs5))
    case hR => exact fun r h => inR_self (by simp [h])
   ·
    refine qbv ?_
    refine qa8 ?_
    refine qbe ?_
    refine qbm ?_
    refine LJ_call rfl (relFallL (q := q) rfl hm1 hs1 hA (by repeat (first | exact inB_here | apply inB_cons | apply inB_app)) hqk) rfl ?_
    rintro v L' R' ⟨u, rfl, huk, hul, rfl, rfl⟩
    obtain ⟨z, hz⟩ : ∃ z, z = relaxS a s A false q.l := ⟨_, rfl⟩
    rw [← hz] at hul ⊢
    have hyz : z = relaxS a s A false y.2 := by rw [hz, hql]
    refine LJ_q (yv_move rfl) rfl ?_
    refine qbs ?_
    refine qbs ?_
    refine qc4 ?_
    refine qad ?_
    refine qaw ?_
    refine qaa ?_
    refine qbq ?_
    refine qaf ?_
    refine q_c (fun hc2 => ?_) (fun hc2 => ?_)
    ·
     refine qae ?_
     refine qck ?_
     refine qaa ?_
     refine qak ?_
     refine qad ?_
     refine qbh ?_
     refine retK_ret (L' := L) (R' := R) (res2 rfl (rv_cell (row := [_, _]) tb rfl rfl rfl (by repeat (first | exact zi0 | apply zi1 | apply zi2)) (by rfl) (by rfl)) (rv_tmp (show _ = Value.int _ _ from rfl))) ?hp ?hL ?hR
     case hp =>
      have hsv : solveS a s A = (z.1, [], []) := by rw [solveS]; dsimp only; rw [← hx, if_neg hc0, ← hxy, if_neg hc1, ← hyz, if_pos hc2]
      exact ⟨OwL.nil, OwL.nil, by rw [hsv]; rfl, OwL.nil_ok, OwL.nil_ok, by rw [hsv], by rw [hsv], by rw [nil_L, List.nil_append, List.nil_append], rfl⟩
     case hL => exact (by repeat (first | exact zs0 _ | exact zs1 _ | apply zs2 | apply zs3 | apply zs4 | apply zs5))
     case hR => exact fun r h => inR_self (by simp [h])
    ·
     refine qbv ?_
     refine qbm ?_
     refine qbm ?_
     refine LJ_q (yv_build (qs := [(0, (Value.slice _ _ _).cells.toList), (1, (Value.slice _ _ _).cells.toList)]) (out := [_, _]) tb rfl rfl rfl rfl) rfl ?_
     refine qak ?_
     refine qad ?_
     refine qa0 ?_
     refine retK_ret (L' := u.L 3 icell ++ (q.L 3 icell ++ L)) (R' := R) (res2 rfl (rv_cell (row := [_, _]) tb rfl rfl rfl (by repeat (first | exact zi0 | apply zi1 | apply zi2)) (by rfl) (by rfl)) (rv_tmp (show _ = Value.int _ _ from rfl))) ?hp ?hL ?hR
     case hp =>
      have hsv : solveS a s A = (0, z.2, y.2) := by rw [solveS]; dsimp only; rw [← hx, if_neg hc0, ← hxy, if_neg hc1, ← hyz, if_neg hc2]
      exact ⟨u, q, by rw [hsv]; rfl, huk, hqk, by rw [hsv]; exact hul, by rw [hsv]; exact hql, rfl, rfl⟩
     case hL => exact (by repeat (first | exact zs0 _ | exact zs1 _ | apply zs2 | apply zs3 | apply zs4 | apply zs5))
     case hR => exact fun r h => inR_self (by simp [h])
end Go.Proofs.Ytlgjgigciapkfaa
