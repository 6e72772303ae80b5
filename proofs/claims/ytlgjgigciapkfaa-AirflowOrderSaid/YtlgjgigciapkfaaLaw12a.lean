/-
  Statements about chapter 12: what they share. By an AI agent; no person has read it.
-/
import Derived.Test.YtlgjgigciapkfaaRelS
import Derived.Test.YtlgjgigciapkfaaLaw11c
import Derived.Test.YtlgjgigciapkfaaAw12
set_option linter.unusedSimpArgs false
set_option linter.unusedVariables false
namespace Go.Proofs.Ytlgjgigciapkfaa
open Go.Aw Go
set_option maxRecDepth 20000
attribute [local irreducible] CJ LJ DJ Tri YV Gives seqK blockK loopK retK RV mergeK OwL.L

theorem ints_tri (x y : Arr Int) (L : List Blk) (R : List Sl) (hx : InR (isl x) R) (hy : InR (isl y) R) (he : x.l = y.l) :
    Tri Try.prog 28 [x.val, y.val].toArray L R (fun v L' R' => v = .bool true ∧ L = L' ∧ R = R') := by
  have hle : x.l.length = y.l.length := by rw [he]
  refine Tri_len Try.call28 hx fun hxn => ?_
  refine tri_enter 26 Try.call28 Try.func28 rfl rfl rfl ?_
  refine qae ?_
  refine qaz ?_
  refine qaw ?_
  refine qbm ?_
  refine qag ?_
  refine qbm ?_
  refine qag ?_
  refine qbq ?_
  refine qaf ?_
  refine q_c (fun hc0 => ?_) (fun hc0 => ?_)
  ·
   refine qae ?_
   refine qaz ?_
   refine qbh ?_
   refine q_b (L' := L) (R' := R) ?_
   exact absurd hc0 (by omega)
  ·
   refine qbo ?_
   refine qad ?_
   refine qa2 ?_
   refine CJ_forget [(0, Value.slice _ _ _), (1, Value.slice _ _ _), (5, Value.int _ _)] (by repeat' (first | exact trivial | refine And.intro rfl ?_)) fun tq0 => ?_
   refine q_s [4, 5, 11, 12, 13, 14, 15, 16, 17, 18, 19, 20, 21, 22, 23, 24, 25] (fun g : {k : Nat // k ≤ x.l.length} => [(5, .int .i64 ((g.1 : Nat) : Int))]) (fun g => x.l.length - g.1) (⟨0, by omega⟩) ?_
   rintro ⟨k, hk⟩ junk
   try dsimp only
   refine qbi ?_
   refine qaa ?_
   refine qbm ?_
   refine qag ?_
   refine qaj ?_
   refine qaf ?_
   refine q_c (fun hc1 => ?_) (fun hc1 => ?_)
   ·
    have h1 := get_D (l := x.l) (k := k) 0 (by omega)
    have h2 := get_D (l := y.l) (k := k) 0 (by omega)
    rw [← he] at h2
    rw [he] at h2
    refine CJ_skip (seqK_normal (CJ_seq (CJ_block (CJ_seq ?_))))
    refine CJ_drawn tb [0, 1, 2, 3, 4, 5, 6, 7, 8] _ mixed (by kernel_rfl) (List.Sublist.refl _) ?_
    refine DJ_q (yv_move (show _ = Value.slice _ _ _ from rfl)) rfl rfl rfl ?_
    refine qao ?_
    refine qds ?_
    refine qbl ?_
    refine DJ_q (yv_move (show _ = Value.slice _ _ _ from rfl)) rfl rfl rfl ?_
    refine qao ?_
    refine qds ?_
    refine qbl ?_
    refine DJ_q (yv_neq rfl rfl) rfl rfl rfl ?_
    refine qbu ?_
    refine q_c (fun hc2 => ?_) (fun hc2 => ?_)
    ·
     refine qae ?_
     refine qaz ?_
     refine qbt ?_
     refine q_b (L' := L) (R' := R) ?_
     exact absurd (show x.l.getD k 0 = y.l.getD k 0 by rw [he]) hc2
    ·
     refine qbj ?_
     refine qaa ?_
     refine qar ?_
     refine qad ?_
     refine qav ?_
     exact q_k (⟨k + 1, by omega⟩)
   ·
    refine qbk ?_
    refine qaz ?_
    refine qa0 ?_
    refine q_b (L' := L) (R' := R) ?_
    exact ⟨rfl, rfl, rfl⟩
/-- pressures from which one can begin -/
structure StTo (a : XAir) (A : List Bool) (i : Nat) (l : List Int) : Prop where
  len : l.length = a.mine.places.l.length
  val : ∀ (j : Nat) (p : Int), l[j]? = some p → (-10000 ≤ p ∧ p ≤ 10000) ∧ (i ≤ j → -4000 ≤ p ∧ p ≤ 4000)
  fix : ∀ j : Nat, j < i → fixB a A j = true → l.getD j 0 = 0
end Go.Proofs.Ytlgjgigciapkfaa
