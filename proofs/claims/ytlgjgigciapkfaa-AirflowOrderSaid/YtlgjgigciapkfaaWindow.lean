/-
  All that is said of a road: law13.window. By an AI agent; no person has read it.
-/
import Derived.Test.YtlgjgigciapkfaaWinR
import Derived.Test.YtlgjgigciapkfaaOrderP
set_option linter.unusedSimpArgs false
set_option linter.unusedVariables false
namespace Go.Proofs.Ytlgjgigciapkfaa
open Go.Aw Go
set_option maxRecDepth 20000
attribute [local irreducible] CJ LJ DJ Tri YV Gives seqK blockK loopK retK RV mergeK OwL.L

theorem meetTo_snoc {l : List XSpan} {z y : XSpan} : meetTo (l ++ [y]) z (l.length + 1) = meet2 (meetTo l z l.length) y := by
  rw [meetTo_succ (x := y) (by rw [List.getElem?_append_right (Nat.le_refl _), Nat.sub_self]; rfl), meet2, meetTo, meetTo, List.take_append_of_le_length (Nat.le_refl _)]
/-- what has been gathered of a road -/
structure Gath (z o : XSpan) (q : List XSpan) (k : Nat) : Prop where
  first : q[0]? = some z
  len : 1 ≤ q.length ∧ q.length ≤ k + 1
  all : meetTo q z q.length = o
theorem Gath.next {z o : XSpan} {q : List XSpan} {k : Nat} (h : Gath z o q k) {y : XSpan} : Gath z (meet2 o y) (q ++ [y]) (k + 1) := by
  have h1 := h.len
  refine ⟨by rw [List.getElem?_append_left (by omega)]; exact h.first, by simp; omega, ?_⟩
  rw [List.length_append, List.length_singleton, meetTo_snoc, h.all]
theorem Gath.meet {z o : XSpan} {q : List XSpan} {k : Nat} (h : Gath z o q k) : meetL q = o := by
  rw [meetL, getD_some h.first, h.all]
theorem window_tri (S : Arr XSens) (m : Arr XMeas) (fl : Arr XSpan) (j : Nat) (t : Int) (L : List Blk) (R : List Sl) (hS : InR (sesl S) R) (hm : InR (mesl m) R) (hfl : InR (spsl fl) R) (hj : j < fl.l.length) (hmn : m.l.length ≤ 900) (hok : ∀ x ∈ m.l, MeasOk x) (ht : 0 ≤ t ∧ t ≤ 2147483648) (hSn : S.l.length ≤ 1000) (hfn : fl.l.length ≤ 1000) :
    Tri Try.prog 46 [S.val, m.val, fl.val, .int .i64 (j : Int), .int .i64 t].toArray L R
      (fun v L' R' => v = .bool (decide ((totL fl.l.length S.l t j (fl.l.getD j default) m.l).low ≤ (totL fl.l.length S.l t j (fl.l.getD j default) m.l).high)) ∧ L = L' ∧ R = R') := by
  have hfg := get_D (l := fl.l) (k := j) default hj
  obtain ⟨z, hz⟩ : ∃ z, z = fl.l.getD j default := ⟨_, rfl⟩
  rw [← hz] at hfg ⊢
  refine tri_enter 74 Try.call46 Try.func46 rfl rfl rfl ?_
  refine qae ?_
  refine qaz ?_
  refine qam ?_
  refine qbm ?_
  refine qaa ?_
  refine LJ_q (by first | exact yv_index_ro tb rfl rfl rfl rfl (by first | assumption | exact zr (by simp)) (i := j) (by first | rfl | omega | (simp; omega)) (by omega) | exact yv_index tb rfl rfl rfl rfl (i := j) (by first | rfl | omega | (simp; omega)) (by omega)) rfl ?_
  refine qdl ?_
  refine LJ_g (gives_buildSlice (qs := [(0, (Value.agg _).cells.toList)]) (out := [_, _]) tb rfl rfl rfl rfl rfl rfl rfl) rfl ?_
  rintro v L' R' ⟨b20, rfl, rfl, hR20⟩
  replace hR20 := hR20.symm; subst hR20
  refine qc4 ?_
  refine qaw ?_
  refine qbm ?_
  refine qag ?_
  refine qaa ?_
  refine qa2 ?_
  refine CJ_forget [(0, Value.slice _ _ _), (3, Value.int _ _), (4, Value.int _ _), (11, Value.slice _ _ _), (21, Value.slice _ _ _), (22, Value.int _ _), (23, Value.int _ _)] (by repeat' (first | exact trivial | refine And.intro rfl ?_)) fun tq0 => ?_
  refine CJ_L (built_ow (f := XSpan.cells) (n := 1) [z] rfl _) ?_
  refine q_p [11, 13, 23, 24, 25, 26, 27, 28, 29, 30, 31, 32, 33, 34, 35, 36, 37, 38, 39, 40, 41, 42, 43, 44, 45, 46, 47, 48, 49, 50, 51, 52, 53, 54, 55, 56, 57, 58, 59, 60, 61, 62, 63, 64, 65, 66, 67] ((⟨fun g => [(23, .int .i64 ((g.1.1 : Nat) : Int)), (11, g.1.2.val)], fun g => g.1.2.L 59 XSpan.cells ++ L, fun _ => R, fun g => m.l.length - g.1.1⟩ : Head {g : Nat × OwL XSpan // g.1 ≤ m.l.length ∧ g.2.ok 2 XSpan.cells ∧ Gath z (totL fl.l.length S.l t j z (m.l.take g.1)) g.2.l g.1})) (⟨(0, ⟨.own b20 1 [], [z]⟩), by dsimp only; omega, built_ok (fun _ => rfl) rfl (by decide), ⟨rfl, by simp, meetTo_one rfl⟩⟩) ?_
  rintro ⟨⟨k, q⟩, hk, hqk, hG⟩ junk
  try dsimp only
  dsimp only at hk hqk hG
  have hqn := hG.len
  refine qae ?_
  refine qaj ?_
  refine qa4 ?_
  refine q_c (fun hc0 => ?_) (fun hc0 => ?_)
  ·
   have hmg := get_D (l := m.l) (k := k) default (by omega)
   have hxo := hok _ (List.mem_of_getElem? hmg)
   obtain ⟨x, hx⟩ : ∃ x, x = m.l.getD k default := ⟨_, rfl⟩
   rw [← hx] at hmg hxo
   have htk : m.l.take (k + 1) = m.l.take k ++ [x] := by rw [List.take_add_one, hmg]; rfl
   have hrl : rel13 fl.l.length S.l j x ↔ ((0 ≤ x.sensor ∧ x.sensor < S.l.length) ∧ (S.l.getD x.sensor.toNat default).kind = 3 ∧ (S.l.getD x.sensor.toNat default).target = (j : Int)) := by
     rw [rel13, narFor]
     constructor
     · rintro ⟨⟨h1, h2, _⟩, h4⟩; exact ⟨h1, h2, h4⟩
     · rintro ⟨h1, h2, h4⟩; exact ⟨⟨h1, h2, by omega, by omega⟩, h4⟩
   obtain ⟨s, hs⟩ : ∃ s, s = S.l.getD x.sensor.toNat default := ⟨_, rfl⟩
   rw [← hs] at hrl
   refine qbb ?_
   refine LJ_q (by first | exact yv_index_ro tb rfl rfl rfl rfl (by first | assumption | exact zr (by simp)) (i := k) (by first | rfl | omega | (simp; omega)) (by omega) | exact yv_index tb rfl rfl rfl rfl (i := k) (by first | rfl | omega | (simp; omega)) (by omega)) rfl ?_
   refine qdr ?_
   refine qaq ?_
   intro b13
   refine qak ?_
   refine qam ?_
   refine qab ?_
   refine qac ?_
   refine qbz ?_
   refine qah ?_
   apply LJ_and (G := [_, _, _, _, _]) (j := 3) (cj := 30) rfl rfl (by rfl) rfl (show _ = Value.bool _ from rfl) rfl
   ·
    intro hg4
    replace hg4 := qb hg4
    refine qab ?_
    refine qac ?_
    refine qbm ?_
    refine qag ?_
    refine qaj ?_
    exact qai
   intro junk4
   refine qah ?_
   apply LJ_and (G := [_, _, _, _, _, _, _]) (j := 10) (cj := 37) rfl rfl (by rfl) rfl (show _ = Value.bool _ from rfl) rfl
   ·
    intro hg11
    replace hg11 := qb hg11
    have hsg : S.l[x.sensor.toNat]? = some s := by rw [hs]; exact get_D (l := S.l) (k := x.sensor.toNat) default (by omega)
    refine qbm ?_
    refine qab ?_
    refine qac ?_
    refine LJ_q (by first | exact yv_index_ro tb rfl rfl rfl rfl (by first | assumption | exact zr (by simp)) (i := x.sensor.toNat) (by first | rfl | omega | (simp; omega)) (by omega) | exact yv_index tb rfl rfl rfl rfl (i := x.sensor.toNat) (by first | rfl | omega | (simp; omega)) (by omega)) rfl ?_
    refine qb0 ?_
    refine qa7 ?_
    refine qbn ?_
    exact qai
   intro junk11
   refine qah ?_
   apply LJ_and (G := [_, _, _, _, _, _, _, _]) (j := 19) (cj := 46) rfl rfl (by rfl) rfl (show _ = Value.bool _ from rfl) rfl
   ·
    intro hg20
    replace hg20 := qb hg20
    have hsg : S.l[x.sensor.toNat]? = some s := by rw [hs]; exact get_D (l := S.l) (k := x.sensor.toNat) default (by omega)
    refine qbm ?_
    refine qab ?_
    refine qac ?_
    refine LJ_q (by first | exact yv_index_ro tb rfl rfl rfl rfl (by first | assumption | exact zr (by simp)) (i := x.sensor.toNat) (by first | rfl | omega | (simp; omega)) (by omega) | exact yv_index tb rfl rfl rfl rfl (i := x.sensor.toNat) (by first | rfl | omega | (simp; omega)) (by omega)) rfl ?_
    refine qb0 ?_
    refine qa7 ?_
    refine qaa ?_
    refine qbn ?_
    exact qai
   intro junk20
   refine qaf ?_
   refine q_c (fun hc1 => ?_) (fun hc1 => ?_)
   ·
    have hsg : S.l[x.sensor.toNat]? = some s := by rw [hs]; exact get_D (l := S.l) (k := x.sensor.toNat) default (by omega)
    refine CJ_drawn2 tb [] [0, 1, 2, 3, 4, 5, 6, 7, 8, 9] [10, 11] (_) _ mixed (by kernel_rfl) (by repeat (first | exact zs0 _ | exact zs1 _ | apply zs2 | apply zs3 | apply zs4 | apply zs5)) (List.nil_sublist _) ?_
    refine qct ?_
    refine qct ?_
    refine qan ?_
    refine qau ?_
    refine DJ3_q (by first | exact yv_index_ro tb rfl rfl rfl rfl (by first | assumption | exact zr (by simp)) (i := x.sensor.toNat) (by first | rfl | omega | (simp; omega)) (by omega) | exact yv_index tb rfl rfl rfl rfl (i := x.sensor.toNat) (by first | rfl | omega | (simp; omega)) (by omega)) rfl rfl rfl rfl ?_
    refine DJ3_q (by first | exact yv_loadN_ro (row := [_, _, _, _, _, _, _, _]) tb rfl rfl rfl (by first | assumption | exact zr (by simp)) (by assumption) (by rfl) (by rfl) | exact yv_loadN (row := [_, _, _, _, _, _, _, _]) tb rfl rfl rfl (by repeat (first | exact zi0 | apply zi1 | apply zi2)) (by rfl) (by rfl)) rfl rfl rfl rfl ?_
    refine qde ?_
    refine qbf ?_
    refine DJ3_call rfl (refAt_tri s x t _ _ hxo ht) rfl rfl ?_
    rintro v L' R' ⟨rfl, rfl, rfl⟩
    refine qas ?_
    refine DJ3_g (gives_buildSlice (qs := [(0, (Value.agg _).cells.toList)]) (out := [_, _]) tb rfl rfl rfl rfl rfl rfl rfl) rfl rfl rfl ?_
    rintro v L' R' ⟨b65, rfl, rfl, hR65⟩
    replace hR65 := hR65.symm; subst hR65
    refine qa1 ?_
    refine qba ?_
    refine DJ_g (gives_append1 (f := XSpan.cells) (a := atS s x t) tb rfl rfl rfl rfl (hqk) (by repeat (first | apply OSeg.cons | exact OSeg.here | exact OSeg.last | exact OSeg.at (by assumption) | apply OSeg.app)) (shown_own (by repeat (first | exact zi0 | apply zi1 | apply zi2)) rfl rfl) rfl (by first | omega | (simp only [List.length_cons, List.length_nil, List.length_append]; omega))) rfl rfl rfl ?_
    rintro v L' R' ⟨o66, rfl, hok66, rfl, rfl⟩
    refine qa1 ?_
    refine DJ_q (yv_assign (show _ = Value.slice _ _ _ from rfl)) rfl rfl rfl ?_
    refine qby ?_
    refine qar ?_
    refine qaa ?_
    refine qav ?_
    exact loopK_mk ⟨(k + 1, (⟨o66, _⟩ : OwL XSpan)), by dsimp only; omega, hok66, by
    dsimp only
    rw [htk, totL_snoc, if_pos (hrl.2 (by omega)), ← hs]
    exact hG.next⟩ (by repeat (first | exact Off.refl | apply Off.upd rfl | apply Off.havoc rfl | apply Off.updL rfl | apply Off.left rfl)) (by repeat' (first | exact trivial | refine And.intro rfl ?_)) (by repeat (first | exact zs0 _ | exact zs1 _ | apply zs2 | apply zs3 | apply zs4 | apply zs5)) (allR_self _) (by dsimp only; omega)
   ·
    refine qbj ?_
    refine qar ?_
    refine qaa ?_
    refine qav ?_
    exact loopK_mk ⟨(k + 1, q), by dsimp only; omega, hqk, by
    dsimp only
    rw [htk, totL_snoc, if_neg (fun h => by have := hrl.1 h; omega)]
    exact ⟨hG.first, by omega, hG.all⟩⟩ (by repeat (first | exact Off.refl | apply Off.upd rfl | apply Off.havoc rfl | apply Off.updL rfl | apply Off.left rfl)) (by repeat' (first | exact trivial | refine And.intro rfl ?_)) (by repeat (first | exact zs0 _ | exact zs1 _ | apply zs2 | apply zs3 | apply zs4 | apply zs5)) (allR_self _) (by dsimp only; omega)
  ·
   obtain rfl : k = m.l.length := by omega
   have hme := hG.meet
   rw [List.take_of_length_le (Nat.le_refl _)] at hme
   refine qc3 ?_
   refine CJ_frzO [] hqk (fun _ => rfl) (by decide) (fun s hs => by cases hs) ?_
   refine qay ?_
   refine qbm ?_
   refine LJ_call rfl (refMeet_tri q.arr _ _ (inR_self (.head _)) (show 1 ≤ q.l.length ∧ q.l.length ≤ 1000 by omega)) rfl ?_
   rintro v L' R' ⟨y, rfl, rfl, rfl⟩
   refine LJ_q (yv_move rfl) rfl ?_
   refine qbs ?_
   refine qbs ?_
   refine qaq ?_
   intro b14
   refine qak ?_
   refine qaz ?_
   refine qam ?_
   refine qah ?_
   refine qaz ?_
   refine qa0 ?_
   refine retK_ret (L' := L) (R' := R) (res1 rfl (rv_tmp (show _ = Value.bool _ from rfl))) ?hp ?hL ?hR
   case hp => exact ⟨by show Value.bool (decide ((meetL q.l).low ≤ (meetL q.l).high)) = _; rw [hme], rfl, rfl⟩
   case hL => exact (by repeat (first | exact zs0 _ | exact zs1 _ | apply zs2 | apply zs3 | apply zs4 | apply zs5))
   case hR => exact fun r h => inR_self (by simp [h])
end Go.Proofs.Ytlgjgigciapkfaa
