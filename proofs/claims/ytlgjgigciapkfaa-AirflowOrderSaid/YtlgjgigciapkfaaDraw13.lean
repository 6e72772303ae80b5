/-
  The draws of chapter 13: spans near flows, faces, sensors. By an AI agent; no person has read it.
-/
import Derived.Test.YtlgjgigciapkfaaWin
import Derived.Test.YtlgjgigciapkfaaLaw11b
set_option linter.unusedSimpArgs false
set_option linter.unusedVariables false
namespace Go.Proofs.Ytlgjgigciapkfaa
open Go.Aw Go
set_option maxRecDepth 20000
attribute [local irreducible] CJ LJ DJ Tri YV Gives seqK blockK loopK retK RV mergeK OwL.L

/-- spans around flows -/
structure NearF (fl : List Int) (n : Nat) (l : List XSpan) : Prop where
  len : l.length = n
  at_ : ∀ (i : Nat) (s : XSpan), l[i]? = some s → (s.low ≤ fl.getD i 0 ∧ fl.getD i 0 ≤ s.high) ∧ fl.getD i 0 - 11 ≤ s.low ∧ s.high ≤ fl.getD i 0 + 11
theorem NearF.next {fl : List Int} {n : Nat} {l : List XSpan} (h : NearF fl n l) {s : XSpan} (hs : (s.low ≤ fl.getD n 0 ∧ fl.getD n 0 ≤ s.high) ∧ fl.getD n 0 - 11 ≤ s.low ∧ s.high ≤ fl.getD n 0 + 11) : NearF fl (n + 1) (l ++ [s]) := by
  refine ⟨by simp [h.len], fun i t ht => ?_⟩
  rcases Nat.lt_or_ge i n with hi | hi
  · rw [List.getElem?_append_left (by rw [h.len]; exact hi)] at ht
    exact h.at_ i t ht
  · rw [List.getElem?_append_right (by rw [h.len]; exact hi), h.len] at ht
    obtain rfl : i = n := by
      rcases Nat.lt_or_ge (i - n) 1 with h1 | h1
      · omega
      · rw [List.getElem?_eq_none (by simpa using h1)] at ht; cases ht
    rw [Nat.sub_self] at ht
    cases ht
    exact hs
theorem drawSpans_tri (c : Nat) (x : Arr Int) (k : Nat) (fl : Arr Int) (R : List Sl) (hx : CodesR x R) (hk : k ≤ x.l.length) (hfl : InR (isl fl) R) (hb : ∀ q ∈ fl.l, -1000000000 ≤ q ∧ q ≤ 1000000000) (hn : fl.l.length ≤ 1000) :
    Tri Try.prog 22 [.pointer (some ⟨c, 0, none⟩), fl.val].toArray [cblk c x k] R
      (fun v L' R' => ∃ (p : OwL XSpan) (k' : Nat), v = p.val ∧ p.ok 2 XSpan.cells ∧ NearF fl.l fl.l.length p.l ∧ k' ≤ x.l.length ∧ p.L 59 XSpan.cells ++ (cblk c x k' :: []) = L' ∧ R = R') := by
  refine tri_enter 32 Try.call22 Try.func22 rfl rfl rfl ?_
  refine qae ?_
  refine qc4 ?_
  refine qam ?_
  refine qc4 ?_
  refine qaw ?_
  refine qad ?_
  refine qa2 ?_
  refine CJ_forget [(0, Value.pointer _), (1, Value.slice _ _ _), (5, Value.slice _ _ _), (6, Value.int _ _)] (by repeat' (first | exact trivial | refine And.intro rfl ?_)) fun tq0 => ?_
  refine CJ_loop [5, 6, 7, 8, 9, 10, 11, 12, 13, 14, 15, 16, 17, 18, 19, 20, 21, 22, 23, 24, 25, 26, 27, 28, 29, 30] ((⟨fun g => [(5, g.1.2.2.val), (6, .int .i64 ((g.1.2.1 : Nat) : Int))], fun g => g.1.2.2.L 59 XSpan.cells ++ (cblk c x g.1.1 :: []), fun _ => R, fun g => fl.l.length - g.1.2.1⟩ : Head {g : Nat × Nat × OwL XSpan // g.1 ≤ x.l.length ∧ g.2.1 ≤ fl.l.length ∧ g.2.2.ok 2 XSpan.cells ∧ NearF fl.l g.2.1 g.2.2.l})) (⟨(k, 0, OwL.nil), hk, by dsimp only; omega, OwL.nil_ok, ⟨rfl, fun i s hs => by cases hs⟩⟩) (by repeat' (first | exact trivial | refine And.intro rfl ?_)) (by dsimp only; rw [nil_L, List.nil_append]; exact List.Sublist.refl _) (allR_self _) ?_
  rintro ⟨⟨kk, i, p⟩, hkk, hi, hpk, hN⟩ junk
  try dsimp only
  dsimp only at hkk hi hpk hN
  have hpl := hN.len
  refine qbi ?_
  refine qaa ?_
  refine qbm ?_
  refine qag ?_
  refine qaj ?_
  refine qaf ?_
  refine q_c (fun hc0 => ?_) (fun hc0 => ?_)
  ·
   have hg := get_D (l := fl.l) (k := i) 0 (by omega)
   have hqb := hb _ (List.mem_of_getElem? hg)
   refine CJ_skip (seqK_normal (CJ_seq (CJ_block ?_)))
   refine CJ_drawn2 tb [] [0, 1, 2, 3, 4, 5, 8, 9, 10, 11, 12, 6, 7, 13, 14, 15, 16] [17, 18] ([]) _ mixed (by kernel_rfl) (by repeat (first | exact zs0 _ | exact zs1 _ | apply zs2 | apply zs3 | apply zs4 | apply zs5)) (List.nil_sublist _) ?_
   refine qct ?_
   refine qct ?_
   refine qbf ?_
   refine DJ3_q (by first | exact yv_index_ro tb rfl rfl rfl rfl (by first | assumption | exact zr (by simp)) (i := i) (by first | rfl | omega | (simp; omega)) (by omega) | exact yv_index tb rfl rfl rfl rfl (i := i) (by first | rfl | omega | (simp; omega)) (by omega)) rfl rfl rfl rfl ?_
   refine qci ?_
   refine qb3 ?_
   refine qct ?_
   refine qbf ?_
   refine DJ3_q (by first | exact yv_index_ro tb rfl rfl rfl rfl (by first | assumption | exact zr (by simp)) (i := i) (by first | rfl | omega | (simp; omega)) (by omega) | exact yv_index tb rfl rfl rfl rfl (i := i) (by first | rfl | omega | (simp; omega)) (by omega)) rfl rfl rfl rfl ?_
   refine qci ?_
   refine qb3 ?_
   refine DJ3_call rfl (next1 (by repeat (first | apply USeg.here | apply USeg.cons | apply USeg.app)) hx hkk (by omega)) rfl rfl ?_
   rintro v L' R' ⟨r1, k1, rfl, g1, g1', g1'', hk1, rfl, rfl⟩
   refine qas ?_
   have g1q := g1' (by omega)
   refine qcc ?_
   refine DJ3_call rfl (next1 (by repeat (first | apply USeg.here | apply USeg.cons | apply USeg.app)) hx hk1 (by omega)) rfl rfl ?_
   rintro v L' R' ⟨r2, k2, rfl, g2, g2', g2'', hk2, rfl, rfl⟩
   refine qas ?_
   have g2q := g2' (by omega)
   refine qcj ?_
   refine qcw ?_
   refine DJ3_g (gives_buildSlice (qs := [(0, (Value.agg _).cells.toList)]) (out := [_, _]) tb rfl rfl rfl rfl rfl rfl rfl) rfl rfl rfl ?_
   rintro v L' R' ⟨b29, rfl, rfl, hR29⟩
   replace hR29 := hR29.symm; subst hR29
   refine qa1 ?_
   refine qba ?_
   refine DJ_g (gives_append1 (f := XSpan.cells) (p := p) (a := ⟨fl.l.getD i 0 - r1, fl.l.getD i 0 + r2⟩) tb rfl rfl rfl rfl (hpk) (by repeat (first | apply OSeg.cons | exact OSeg.here | exact OSeg.last | exact OSeg.at (by assumption) | apply OSeg.app)) (shown_own (by repeat (first | exact zi0 | apply zi1 | apply zi2)) rfl rfl) rfl (by first | omega | (simp only [List.length_cons, List.length_nil, List.length_append]; omega))) rfl rfl rfl ?_
   rintro v L' R' ⟨o30, rfl, hok30, rfl, rfl⟩
   refine qa1 ?_
   refine DJ_q (yv_assign (show _ = Value.slice _ _ _ from rfl)) rfl rfl rfl ?_
   refine qby ?_
   refine qaa ?_
   refine qar ?_
   refine qad ?_
   refine qav ?_
   exact q_k ⟨(k2, i + 1, _), hk2, by dsimp only; omega, hok30, hN.next (by dsimp only; omega)⟩
  ·
   obtain rfl : i = fl.l.length := by omega
   refine qbk ?_
   refine qbm ?_
   refine qc4 ?_
   refine qa0 ?_
   refine q_r (L' := p.L 59 XSpan.cells ++ (cblk c x kk :: [])) (R' := R) (res1 rfl (rv_tmp (show _ = Value.slice _ _ _ from rfl))) ?_
   exact ⟨p, kk, rfl, hpk, hN, hkk, rfl, rfl⟩

/-- drawn faces -/
structure FacesD (n : Nat) (l : List XFace) : Prop where
  at_ : ∀ f ∈ l, (0 ≤ f.road ∧ f.road ≤ n) ∧ -2 ≤ f.need ∧ f.need ≤ 40
  len : l.length ≤ 3
theorem stately_tri (k : Int) (L : List Blk) (R : List Sl) :
    Tri Try.prog 42 [.int .i64 k].toArray L R (fun v L' R' => v = .bool (decide (4 ≤ k)) ∧ L = L' ∧ R = R') := by
  refine tri_enter 5 Try.call42 Try.func42 rfl rfl rfl ?_
  refine qae ?_
  refine qaz ?_
  refine qam ?_
  refine qaa ?_
  refine qbz ?_
  refine qaz ?_
  refine qa0 ?_
  refine q_b (L' := L) (R' := R) ?_
  exact ⟨rfl, rfl, rfl⟩
/-- a drawn sensor -/
structure SensD (kind address target : Int) (s : XSens) : Prop where
  kind : s.kind = kind
  address : s.address = address
  target : s.target = target
  offset : -50 ≤ s.offset ∧ s.offset ≤ 20
  scale : 300 ≤ s.scale ∧ s.scale ≤ 2000
  error : 0 ≤ s.error ∧ s.error ≤ 5
  drift : 0 ≤ s.drift ∧ s.drift ≤ 699
  life : 1 ≤ s.life ∧ s.life ≤ 200
theorem drawSensor_tri (c : Nat) (x : Arr Int) (k : Nat) (kind address target : Int) (R : List Sl) (hx : CodesR x R) (hk : k ≤ x.l.length) :
    Tri Try.prog 61 [.pointer (some ⟨c, 0, none⟩), .int .i64 kind, .int .i64 address, .int .i64 target].toArray [cblk c x k] R
      (fun v L' R' => ∃ (s : XSens) (k' : Nat), v = s.val ∧ SensD kind address target s ∧ k' ≤ x.l.length ∧ cblk c x k' :: [] = L' ∧ R = R') := by
  refine tri_enter 32 Try.call61 Try.func61 rfl rfl rfl ?_
  refine qae ?_
  refine qaq ?_
  intro b8
  refine qam ?_
  refine qaa ?_
  refine qaa ?_
  refine qaa ?_
  refine qa6 ?_
  refine LJ_call rfl (range1 (by repeat (first | apply USeg.here | apply USeg.cons | apply USeg.app)) hx hk (by omega)) rfl ?_
  rintro v L' R' ⟨r1, k1, rfl, g1, g1', hk1, rfl, rfl⟩
  refine LJ_q (yv_build (qs := [(1, (Value.int _ _).cells.toList), (0, (Value.int _ _).cells.toList), (2, (Value.int _ _).cells.toList), (4, (Value.int _ _).cells.toList), (7, (Value.int _ _).cells.toList)]) (out := [_, _, _, _, _, _, _, _]) tb rfl rfl rfl rfl) rfl ?_
  refine qaq ?_
  intro b9
  refine qak ?_
  refine qaw ?_
  refine qaa ?_
  refine q_l rfl (stately_tri _ _ _) ?_
  refine qb4 ?_
  refine qaf ?_
  refine q_c (fun hc0 => ?_) (fun hc0 => ?_)
  ·
   refine qae ?_
   refine qa6 ?_
   refine LJ_call rfl (range1 (by repeat (first | apply USeg.here | apply USeg.cons | apply USeg.app)) hx hk1 (by omega)) rfl ?_
   rintro v L' R' ⟨r2, k2, rfl, g2, g2', hk2, rfl, rfl⟩
   refine qa6 ?_
   refine LJ_call rfl (range1 (by repeat (first | apply USeg.here | apply USeg.cons | apply USeg.app)) hx hk2 (by omega)) rfl ?_
   rintro v L' R' ⟨r3, k3, rfl, g3, g3', hk3, rfl, rfl⟩
   refine qab ?_
   refine qcn ?_
   refine qab ?_
   refine qcn ?_
   refine LJ_nil (seqK_normal (CJ_region ?_))
   refine qa6 ?_
   refine LJ_call rfl (next1 (by repeat (first | apply USeg.here | apply USeg.cons | apply USeg.app)) hx hk3 (by omega)) rfl ?_
   rintro v L' R' ⟨r4, k4, rfl, g4, g4', g4'', hk4, rfl, rfl⟩
   have g4q := g4' (by omega)
   refine qa6 ?_
   refine LJ_call rfl (next1 (by repeat (first | apply USeg.here | apply USeg.cons | apply USeg.app)) hx hk4 (by omega)) rfl ?_
   rintro v L' R' ⟨r5, k5, rfl, g5, g5', g5'', hk5, rfl, rfl⟩
   have g5q := g5' (by omega)
   refine qab ?_
   refine qcn ?_
   refine qab ?_
   refine qcn ?_
   refine qam ?_
   refine LJ_q (yv_loadN (row := [_, _, _, _, _, _, _, _]) tb rfl rfl rfl (by repeat (first | exact zi0 | apply zi1 | apply zi2)) (by rfl) (by rfl)) rfl ?_
   refine qak ?_
   refine qa0 ?_
   refine q_r (L' := [cblk c x k5]) (R' := R) (res1 rfl (rv_cell (row := [_, _, _, _, _, _, _, _]) tb rfl rfl rfl (by repeat (first | exact zi0 | apply zi1 | apply zi2)) (by rfl) (by rfl))) ?_
   exact ⟨⟨address, kind, target, r2, r3, r4, r5, r1⟩, k5, rfl, ⟨rfl, rfl, rfl, by dsimp only; omega, by dsimp only; omega, by dsimp only; omega, by dsimp only; omega, by dsimp only; omega⟩, hk5, rfl, rfl⟩
  ·
   refine qbv ?_
   refine LJ_q (yv_loadN (row := [_, _, _, _, _, _, _, _]) tb rfl rfl rfl (by repeat (first | exact zi0 | apply zi1 | apply zi2)) (by rfl) (by rfl)) rfl ?_
   refine qak ?_
   refine qa0 ?_
   refine q_r (L' := [cblk c x k1]) (R' := R) (res1 rfl (rv_cell (row := [_, _, _, _, _, _, _, _]) tb rfl rfl rfl (by repeat (first | exact zi0 | apply zi1 | apply zi2)) (by rfl) (by rfl))) ?_
   exact ⟨⟨address, kind, target, 0, 1000, 0, 0, r1⟩, k1, rfl, ⟨rfl, rfl, rfl, by dsimp only; omega, by dsimp only; omega, by dsimp only; omega, by dsimp only; omega, by dsimp only; omega⟩, hk1, rfl, rfl⟩
end Go.Proofs.Ytlgjgigciapkfaa
