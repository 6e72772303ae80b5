/-
  Sensors of flows and measurements of them that are drawn. By an AI agent; no person has read it.
-/
import Derived.Test.YtlgjgigciapkfaaDraw13
set_option linter.unusedSimpArgs false
set_option linter.unusedVariables false
namespace Go.Proofs.Ytlgjgigciapkfaa
open Go.Aw Go
set_option maxRecDepth 20000
attribute [local irreducible] CJ LJ DJ Tri YV Gives seqK blockK loopK retK RV mergeK OwL.L

def SensQ (r : Bool) (n i : Nat) (s : XSens) : Prop := s.address = i ∧ (0 ≤ s.target ∧ s.target < n) ∧ (r = true → s.kind = 3) ∧ (1 ≤ s.kind ∧ s.kind ≤ 6) ∧ (-50 ≤ s.offset ∧ s.offset ≤ 20) ∧ (300 ≤ s.scale ∧ s.scale ≤ 2000) ∧ (0 ≤ s.error ∧ s.error ≤ 5) ∧ (0 ≤ s.drift ∧ s.drift ≤ 699) ∧ (1 ≤ s.life ∧ s.life ≤ 200)
def SensL (r : Bool) (n : Nat) (l : List XSens) : Prop := ∀ (i : Nat) (s : XSens), l[i]? = some s → SensQ r n i s
theorem all_next {α : Type} {P : Nat → α → Prop} {l : List α} (h : ∀ (i : Nat) (s : α), l[i]? = some s → P i s) {s : α} (hs : P l.length s) : ∀ (i : Nat) (t : α), (l ++ [s])[i]? = some t → P i t := fun i t ht => by
  rcases Nat.lt_or_ge i l.length with hi | hi
  · rw [List.getElem?_append_left hi] at ht
    exact h i t ht
  · rw [List.getElem?_append_right hi] at ht
    obtain rfl : i = l.length := by
      rcases Nat.lt_or_ge (i - l.length) 1 with h1 | h1
      · omega
      · rw [List.getElem?_eq_none (by simpa using h1)] at ht; cases ht
    rw [Nat.sub_self] at ht
    cases ht
    exact hs
theorem SensL.next {r : Bool} {n : Nat} {l : List XSens} (h : SensL r n l) {s : XSens} (hs : SensQ r n l.length s) : SensL r n (l ++ [s]) := all_next h hs
def MeasQ (r : Bool) (fl : List Int) (S : List XSens) (x : XMeas) : Prop := (0 ≤ x.time ∧ x.time ≤ 29) ∧ ((-1048700 ≤ x.span.low ∧ x.span.low ≤ 1048700) ∧ (-1048700 ≤ x.span.high ∧ x.span.high ≤ 1048700)) ∧
  (r = true → (0 ≤ x.sensor ∧ x.sensor < S.length) ∧ x.span.low ≤ fl.getD (S.getD x.sensor.toNat default).target.toNat 0 ∧ fl.getD (S.getD x.sensor.toNat default).target.toNat 0 ≤ x.span.high)
def MeasL (r : Bool) (fl : List Int) (S : List XSens) (l : List XMeas) : Prop := ∀ (i : Nat) (s : XMeas), l[i]? = some s → MeasQ r fl S s
theorem MeasL.next {r : Bool} {fl : List Int} {S : List XSens} {l : List XMeas} (h : MeasL r fl S l) {s : XMeas} (hs : MeasQ r fl S s) : MeasL r fl S (l ++ [s]) := all_next (P := fun _ s => MeasQ r fl S s) h hs

theorem flowing_tri (c : Nat) (x : Arr Int) (k : Nat) (fl : Arr Int) (r : Bool) (R : List Sl) (hx : CodesR x R) (hk : k ≤ x.l.length) (hfl : InR (isl fl) R) (hb : ∀ q ∈ fl.l, -1048576 ≤ q ∧ q ≤ 1048576) (hn : fl.l.length ≤ 1000) :
    Tri Try.prog 44 [.pointer (some ⟨c, 0, none⟩), fl.val, .bool r].toArray [cblk c x k] R
      (fun v L' R' => ∃ (p : OwL XSens) (q : OwL XMeas) (k' : Nat), v = .tuple #[p.val, q.val] ∧ (p.ok 8 XSens.cells ∧ q.ok 4 XMeas.cells) ∧ (p.l.length ≤ 3 ∧ q.l.length ≤ 4) ∧ SensL r fl.l.length p.l ∧ MeasL r fl.l p.l q.l ∧ k' ≤ x.l.length ∧ q.L 88 XMeas.cells ++ (p.L 97 XSens.cells ++ (cblk c x k' :: [])) = L' ∧ R = R') := by
  refine tri_enter 121 Try.call44 Try.func44 rfl rfl rfl ?_
  refine qae ?_
  refine qc4 ?_
  refine qc4 ?_
  refine qam ?_
  refine qc4 ?_
  refine qam ?_
  refine qc4 ?_
  refine qaw ?_
  refine qbm ?_
  refine qag ?_
  refine qbn ?_
  refine qaf ?_
  refine q_c (fun hc0 => ?_) (fun hc0 => ?_)
  ·
   refine qae ?_
   refine qbm ?_
   refine qbm ?_
   refine qc4 ?_
   refine qc4 ?_
   refine qbh ?_
   refine q_r (L' := [cblk c x k]) (R' := R) (res2 rfl (rv_tmp (show _ = Value.slice _ _ _ from rfl)) (rv_tmp (show _ = Value.slice _ _ _ from rfl))) ?_
   exact ⟨OwL.nil, OwL.nil, k, rfl, ⟨OwL.nil_ok, OwL.nil_ok⟩, ⟨by decide, by decide⟩, (fun i s hs => by cases hs), (fun i s hs => by cases hs), hk, by rw [nil_L, nil_L]; rfl, rfl⟩
  ·
   refine qbo ?_
   refine qa6 ?_
   refine LJ_call rfl (next1 (by repeat (first | apply USeg.here | apply USeg.cons | apply USeg.app)) hx hk (by omega)) rfl ?_
   rintro v L' R' ⟨n0, k0, rfl, g0, g0', g0'', hk0, rfl, rfl⟩
   have g0q := g0' (by omega)
   refine qad ?_
   refine qa2 ?_
   refine CJ_forget [(0, Value.pointer _), (1, Value.slice _ _ _), (2, Value.bool _), (8, Value.slice _ _ _), (9, Value.slice _ _ _), (10, Value.int _ _)] (by repeat' (first | exact trivial | refine And.intro rfl ?_)) fun tq0 => ?_
   refine CJ_loop [8, 10, 11, 23, 24, 25, 26, 27, 28, 29, 30, 31, 32, 33, 34, 35, 36, 37, 38, 39, 40, 41, 42, 43, 44, 45, 46, 47] ((⟨fun g => [(8, g.1.2.2.val), (10, .int .i64 g.1.2.1)], fun g => g.1.2.2.L 97 XSens.cells ++ (cblk c x g.1.1 :: []), fun _ => R, fun g => g.1.2.1.toNat⟩ : Head {g : Nat × Int × OwL XSens // g.1 ≤ x.l.length ∧ (0 ≤ g.2.1 ∧ g.2.2.l.length + g.2.1 ≤ 3) ∧ g.2.2.ok 8 XSens.cells ∧ SensL r fl.l.length g.2.2.l})) (⟨(k0, n0, OwL.nil), hk0, by dsimp only [List.length_nil]; omega, OwL.nil_ok, fun i s hs => by cases hs⟩) (by repeat' (first | exact trivial | refine And.intro rfl ?_)) (by dsimp only; rw [nil_L, List.nil_append]; exact List.Sublist.refl _) (allR_self _) ?_
   rintro ⟨⟨kk, n, p⟩, hkk, hi, hpk, hS⟩ junk
   try dsimp only
   dsimp only at hkk hi hpk hS
   refine qbi ?_
   refine qaa ?_
   refine qa5 ?_
   refine qaf ?_
   refine q_c (fun hc1 => ?_) (fun hc1 => ?_)
   ·
    refine qbb ?_
    refine qa6 ?_
    refine qbm ?_
    refine qag ?_
    refine qa6 ?_
    refine qbm ?_
    refine qag ?_
    refine LJ_call rfl (next1 (by repeat (first | apply USeg.here | apply USeg.cons | apply USeg.app)) hx hkk (by omega)) rfl ?_
    rintro v L' R' ⟨r1, k1, rfl, g1, g1', g1'', hk1, rfl, rfl⟩
    have g1q := g1' (by omega)
    refine LJ_call rfl (Tri.spl (.appB (.consL .nil)) (drawSensor_tri c x k1 3 (p.l.length : Int) r1 _ hx hk1)) rfl ?_
    rintro v L' R' ⟨_, rfl, s, k2, rfl, hsd, hk2, rfl, rfl⟩
    simp only [List.append_assoc, List.cons_append, List.nil_append]
    refine qaq ?_
    intro b11
    refine qak ?_
    refine qaw ?_
    refine qah ?_
    refine qb4 ?_
    refine qah ?_
    refine LJ_case (k := 37) (show _ = Value.bool _ from rfl) (fun hg3 => ?_) (fun hg3 => ?_)
    ·
     replace hg3 := qb hg3
     refine LJ_qg (yv_move (show _ = Value.pointer _ from rfl)) rfl rfl ?_
     refine LJ_callg rfl (one1 (by repeat (first | apply USeg.here | apply USeg.cons | apply USeg.app)) hx hk2 (by omega)) rfl rfl ?_
     rintro v L' R' ⟨bb, k3, rfl, hk3, rfl, rfl⟩
     refine LJ_q (by first | exact yv_pick_true rfl rfl | exact yv_pick_false rfl rfl | exact yv_pick rfl) rfl ?_
     refine qaf ?_
     refine q_c (fun hc2 => ?_) (fun hc2 => ?_)
     ·
      refine qay ?_
      refine qa6 ?_
      refine LJ_call rfl (range1 (by repeat (first | apply USeg.here | apply USeg.cons | apply USeg.app)) hx hk3 (by omega)) rfl ?_
      rintro v L' R' ⟨r2, k4, rfl, g2, g2', hk4, rfl, rfl⟩
      refine qab ?_
      refine qcn ?_
      refine LJ_nil (seqK_normal (CJ_region ?_))
      refine qbm ?_
      refine LJ_q (yv_loadN (row := [_, _, _, _, _, _, _, _]) tb rfl rfl rfl (by repeat (first | exact zi0 | apply zi1 | apply zi2)) (by rfl) (by rfl)) rfl ?_
      refine LJ_g (gives_buildSlice (qs := [(0, (Value.agg _).cells.toList)]) (out := [_, _, _, _, _, _, _, _]) tb rfl rfl rfl rfl rfl rfl rfl) rfl ?_
      rintro v L' R' ⟨b46, rfl, rfl, hR46⟩
      replace hR46 := hR46.symm; subst hR46
      refine LJ_g (gives_append1 (f := XSens.cells) (p := p) (a := ⟨s.address, r2, s.target, s.offset, s.scale, s.error, s.drift, s.life⟩) tb rfl rfl rfl rfl (hpk) (by repeat (first | apply OSeg.cons | exact OSeg.here | exact OSeg.last | exact OSeg.at (by assumption) | apply OSeg.app)) (shown_own (by repeat (first | exact zi0 | apply zi1 | apply zi2)) rfl rfl) rfl (by first | omega | (simp only [List.length_cons, List.length_nil, List.length_append]; omega))) rfl ?_
      rintro v L' R' ⟨o47, rfl, hok47, rfl, rfl⟩
      refine qc4 ?_
      refine qcs ?_
      refine qaa ?_
      refine qa9 ?_
      refine qad ?_
      refine qav ?_
      exact loopK_mk ⟨(_, n - 1, ⟨o47, _⟩), by assumption, by dsimp only; simp only [List.length_append, List.length_cons, List.length_nil]; omega, hok47, hS.next (by
      obtain ⟨q1, q2, q3, q4, q5, q6, q7, q8⟩ := hsd
      refine ⟨by (try dsimp only); omega, by (try dsimp only); omega, fun hr => ?_, by (try dsimp only); omega, by (try dsimp only); omega, by (try dsimp only); omega, by (try dsimp only); omega, by (try dsimp only); omega, by (try dsimp only); omega⟩
      first | exact q1 | (rw [hr] at hg3; cases hg3))⟩ (by repeat (first | exact Off.refl | apply Off.upd rfl | apply Off.havoc rfl | apply Off.updL rfl | apply Off.left rfl)) (by repeat' (first | exact trivial | refine And.intro rfl ?_)) (by repeat (first | exact zs0 _ | exact zs1 _ | apply zs2 | apply zs3 | apply zs4 | apply zs5)) (allR_self _) (by dsimp only; omega)
     ·
      refine CJ_skip (seqK_normal (CJ_region ?_))
      refine qbm ?_
      refine LJ_q (yv_loadN (row := [_, _, _, _, _, _, _, _]) tb rfl rfl rfl (by repeat (first | exact zi0 | apply zi1 | apply zi2)) (by rfl) (by rfl)) rfl ?_
      refine LJ_g (gives_buildSlice (qs := [(0, (Value.agg _).cells.toList)]) (out := [_, _, _, _, _, _, _, _]) tb rfl rfl rfl rfl rfl rfl rfl) rfl ?_
      rintro v L' R' ⟨b46, rfl, rfl, hR46⟩
      replace hR46 := hR46.symm; subst hR46
      refine LJ_g (gives_append1 (f := XSens.cells) (p := p) (a := s) tb rfl rfl rfl rfl (hpk) (by repeat (first | apply OSeg.cons | exact OSeg.here | exact OSeg.last | exact OSeg.at (by assumption) | apply OSeg.app)) (shown_own (by repeat (first | exact zi0 | apply zi1 | apply zi2)) rfl rfl) rfl (by first | omega | (simp only [List.length_cons, List.length_nil, List.length_append]; omega))) rfl ?_
      rintro v L' R' ⟨o47, rfl, hok47, rfl, rfl⟩
      refine qc4 ?_
      refine qcs ?_
      refine qaa ?_
      refine qa9 ?_
      refine qad ?_
      refine qav ?_
      exact loopK_mk ⟨(_, n - 1, ⟨o47, _⟩), by assumption, by dsimp only; simp only [List.length_append, List.length_cons, List.length_nil]; omega, hok47, hS.next (by
      obtain ⟨q1, q2, q3, q4, q5, q6, q7, q8⟩ := hsd
      refine ⟨by (try dsimp only); omega, by (try dsimp only); omega, fun hr => ?_, by (try dsimp only); omega, by (try dsimp only); omega, by (try dsimp only); omega, by (try dsimp only); omega, by (try dsimp only); omega, by (try dsimp only); omega⟩
      first | exact q1 | (rw [hr] at hg3; cases hg3))⟩ (by repeat (first | exact Off.refl | apply Off.upd rfl | apply Off.havoc rfl | apply Off.updL rfl | apply Off.left rfl)) (by repeat' (first | exact trivial | refine And.intro rfl ?_)) (by repeat (first | exact zs0 _ | exact zs1 _ | apply zs2 | apply zs3 | apply zs4 | apply zs5)) (allR_self _) (by dsimp only; omega)
    ·
     replace hg3 := qb hg3
     refine LJ_skg rfl rfl ?_
     refine LJ_skg rfl rfl ?_
     refine LJ_q (by first | exact yv_pick_true rfl rfl | exact yv_pick_false rfl rfl | exact yv_pick rfl) rfl ?_
     refine qaf ?_
     refine CJ_cond_false rfl ?_
     refine CJ_skip (seqK_normal (CJ_region ?_))
     refine qbm ?_
     refine LJ_q (yv_loadN (row := [_, _, _, _, _, _, _, _]) tb rfl rfl rfl (by repeat (first | exact zi0 | apply zi1 | apply zi2)) (by rfl) (by rfl)) rfl ?_
     refine LJ_g (gives_buildSlice (qs := [(0, (Value.agg _).cells.toList)]) (out := [_, _, _, _, _, _, _, _]) tb rfl rfl rfl rfl rfl rfl rfl) rfl ?_
     rintro v L' R' ⟨b46, rfl, rfl, hR46⟩
     replace hR46 := hR46.symm; subst hR46
     refine LJ_g (gives_append1 (f := XSens.cells) (p := p) (a := s) tb rfl rfl rfl rfl (hpk) (by repeat (first | apply OSeg.cons | exact OSeg.here | exact OSeg.last | exact OSeg.at (by assumption) | apply OSeg.app)) (shown_own (by repeat (first | exact zi0 | apply zi1 | apply zi2)) rfl rfl) rfl (by first | omega | (simp only [List.length_cons, List.length_nil, List.length_append]; omega))) rfl ?_
     rintro v L' R' ⟨o47, rfl, hok47, rfl, rfl⟩
     refine qc4 ?_
     refine qcs ?_
     refine qaa ?_
     refine qa9 ?_
     refine qad ?_
     refine qav ?_
     exact loopK_mk ⟨(_, n - 1, ⟨o47, _⟩), by assumption, by dsimp only; simp only [List.length_append, List.length_cons, List.length_nil]; omega, hok47, hS.next (by
     obtain ⟨q1, q2, q3, q4, q5, q6, q7, q8⟩ := hsd
     refine ⟨by (try dsimp only); omega, by (try dsimp only); omega, fun hr => ?_, by (try dsimp only); omega, by (try dsimp only); omega, by (try dsimp only); omega, by (try dsimp only); omega, by (try dsimp only); omega, by (try dsimp only); omega⟩
     first | exact q1 | (rw [hr] at hg3; cases hg3))⟩ (by repeat (first | exact Off.refl | apply Off.upd rfl | apply Off.havoc rfl | apply Off.updL rfl | apply Off.left rfl)) (by repeat' (first | exact trivial | refine And.intro rfl ?_)) (by repeat (first | exact zs0 _ | exact zs1 _ | apply zs2 | apply zs3 | apply zs4 | apply zs5)) (allR_self _) (by dsimp only; omega)
   ·
    refine qcf ?_
    refine qa6 ?_
    refine LJ_call rfl (next1 (by repeat (first | apply USeg.here | apply USeg.cons | apply USeg.app)) hx hkk (by omega)) rfl ?_
    rintro v L' R' ⟨n1, k5, rfl, g5, g5', g5'', hk5, rfl, rfl⟩
    have g5q := g5' (by omega)
    refine qad ?_
    refine qa2 ?_
    refine CJ_forget [(0, Value.pointer _), (1, Value.slice _ _ _), (2, Value.bool _), (8, Value.slice _ _ _), (9, Value.slice _ _ _), (12, Value.int _ _)] (by repeat' (first | exact trivial | refine And.intro rfl ?_)) fun tq1 => ?_
    refine CJ_loop [9, 12, 13, 14, 15, 50, 51, 52, 53, 54, 55, 56, 57, 58, 59, 60, 61, 62, 63, 64, 65, 66, 67, 68, 69, 70, 71, 72, 73, 74, 75, 76, 77, 78, 79, 80, 81, 82, 83, 84, 85, 86, 87, 88, 89, 90, 91, 92, 93, 94, 95, 96, 97, 98, 99, 100, 101, 102, 103, 104, 105, 106, 107, 108, 109, 110, 111, 112, 113, 114, 115, 116, 117, 118] ((⟨fun g => [(9, g.1.2.2.val), (12, .int .i64 g.1.2.1)], fun g => g.1.2.2.L 88 XMeas.cells ++ (p.L 97 XSens.cells ++ (cblk c x g.1.1 :: [])), fun _ => R, fun g => g.1.2.1.toNat⟩ : Head {g : Nat × Int × OwL XMeas // g.1 ≤ x.l.length ∧ (0 ≤ g.2.1 ∧ g.2.2.l.length + g.2.1 ≤ 4) ∧ g.2.2.ok 4 XMeas.cells ∧ MeasL r fl.l p.l g.2.2.l})) (⟨(k5, n1, OwL.nil), hk5, by dsimp only [List.length_nil]; omega, OwL.nil_ok, fun i s hs => by cases hs⟩) (by repeat' (first | exact trivial | refine And.intro rfl ?_)) (by dsimp only; rw [nil_L, List.nil_append]; exact List.Sublist.refl _) (allR_self _) ?_
    rintro ⟨⟨kj, n, q⟩, hkj, hj, hqk, hM⟩ junk
    try dsimp only
    dsimp only at hkj hj hqk hM
    refine qbi ?_
    refine qaa ?_
    refine qa5 ?_
    refine qah ?_
    apply LJ_and (G := [_, _, _]) (j := 2) (cj := 52) rfl rfl (by rfl) rfl (show _ = Value.bool _ from rfl) rfl
    ·
     intro hg3
     replace hg3 := qb hg3
     refine qbm ?_
     refine qag ?_
     refine qa5 ?_
     exact qai
    intro junk3
    refine qaf ?_
    refine q_c (fun hc3 => ?_) (fun hc3 => ?_)
    ·
     refine qbb ?_
     refine qa6 ?_
     refine qbm ?_
     refine qag ?_
     refine LJ_call rfl (next1 (by repeat (first | apply USeg.here | apply USeg.cons | apply USeg.app)) hx hkj (by omega)) rfl ?_
     rintro v L' R' ⟨r3, k6, rfl, g6, g6', g6'', hk6, rfl, rfl⟩
     have g6q := g6' (by omega)
     have hpg := get_D (l := p.l) (k := r3.toNat) default (by omega)
     have hsq := hS _ _ hpg
     obtain ⟨s, hs⟩ : ∃ s, s = p.l.getD r3.toNat default := ⟨_, rfl⟩
     rw [← hs] at hpg hsq
     have hst := hsq.2.1
     have hfg := get_D (l := fl.l) (k := s.target.toNat) 0 (by omega)
     have hqb := hb _ (List.mem_of_getElem? hfg)
     refine qad ?_
     refine qam ?_
     refine qbm ?_
     refine qbm ?_
     refine qaa ?_
     refine LJ_q (yv_index_ow tb (p) _ rfl rfl rfl rfl (by assumption) (i := r3.toNat) (by first | rfl | omega | (simp; omega)) (by first | omega | (dsimp only; omega) | (dsimp only; rw [List.length_set]; omega))) rfl ?_
     refine qb0 ?_
     refine LJ_q (yv_load1_ow tb (p) rfl rfl rfl (by repeat (first | apply OSeg.cons | exact OSeg.here | exact OSeg.last | exact OSeg.at (by assumption) | apply OSeg.app)) (by assumption) (fun _ => rfl) (by assumption) (by rfl)) rfl ?_
     refine LJ_q (by first | exact yv_index_ro tb rfl rfl rfl rfl (by first | assumption | exact zr (by simp)) (i := s.target.toNat) (by first | rfl | omega | (simp; omega)) (by omega) | exact yv_index tb rfl rfl rfl rfl (i := s.target.toNat) (by first | rfl | omega | (simp; omega)) (by omega)) rfl ?_
     refine qa7 ?_
     refine qad ?_
     refine qam ?_
     refine qaa ?_
     refine qa6 ?_
     refine LJ_call rfl (next1 (by repeat (first | apply USeg.here | apply USeg.cons | apply USeg.app)) hx hk6 (by omega)) rfl ?_
     rintro v L' R' ⟨r4, k7, rfl, g7, g7', g7'', hk7, rfl, rfl⟩
     have g7q := g7' (by omega)
     refine qaa ?_
     refine qa6 ?_
     refine LJ_call rfl (next1 (by repeat (first | apply USeg.here | apply USeg.cons | apply USeg.app)) hx hk7 (by omega)) rfl ?_
     rintro v L' R' ⟨r5, k8, rfl, g8, g8', g8'', hk8, rfl, rfl⟩
     have g8q := g8' (by omega)
     refine qa9 ?_
     refine qaa ?_
     refine qa6 ?_
     refine LJ_call rfl (next1 (by repeat (first | apply USeg.here | apply USeg.cons | apply USeg.app)) hx hk8 (by omega)) rfl ?_
     rintro v L' R' ⟨r6, k9, rfl, g9, g9', g9'', hk9, rfl, rfl⟩
     have g9q := g9' (by omega)
     refine qar ?_
     refine qcd ?_
     refine LJ_q (yv_build (qs := [(0, (Value.int _ _).cells.toList), (1, (Value.int _ _).cells.toList), (2, (Value.agg _).cells.toList)]) (out := [_, _, _, _]) tb rfl rfl rfl rfl) rfl ?_
     refine qaq ?_
     intro b15
     refine qak ?_
     refine qaw ?_
     refine qah ?_
     refine qb4 ?_
     refine qah ?_
     refine LJ_case (k := 86) (show _ = Value.bool _ from rfl) (fun hg3 => ?_) (fun hg3 => ?_)
     ·
      replace hg3 := qb hg3
      have hgr := hg3
      refine LJ_qg (yv_move (show _ = Value.pointer _ from rfl)) rfl rfl ?_
      refine LJ_callg rfl (one1 (by repeat (first | apply USeg.here | apply USeg.cons | apply USeg.app)) hx hk9 (by omega)) rfl rfl ?_
      rintro v L' R' ⟨b1, k10, rfl, hk10, rfl, rfl⟩
      refine LJ_q (by first | exact yv_pick_true rfl rfl | exact yv_pick_false rfl rfl | exact yv_pick rfl) rfl ?_
      refine qaf ?_
      refine q_c (fun hc4 => ?_) (fun hc4 => ?_)
      ·
       refine CJ_seq ?_
       refine CJ_drawn2 tb [] [0, 1, 2, 3, 4, 5, 6, 7] [8] ([Blk.mk b15 _ _]) _ mixed (by kernel_rfl) (by repeat (first | exact zs0 _ | exact zs1 _ | apply zs2 | apply zs3 | apply zs4 | apply zs5)) (by (repeat (first | apply List.Sublist.cons (a := Blk.mk b15 _ _) | apply List.Sublist.cons_cons)); exact List.Sublist.refl _) ?_
       refine qan ?_
       refine qan ?_
       refine qau ?_
       refine qb3 ?_
       refine DJ3_call rfl (range1 (by repeat (first | apply USeg.here | apply USeg.cons | apply USeg.app)) hx hk10 (by omega)) rfl rfl ?_
       rintro v L' R' ⟨r7, k11, rfl, g11, g11', hk11, rfl, rfl⟩
       refine qas ?_
       refine qcj ?_
       refine qan ?_
       refine qan ?_
       refine qba ?_
       refine qb6 ?_
       refine qbu ?_
       refine CJ_drawn2 tb [] [0, 1, 2, 3, 4, 5, 6, 7] [8] ([Blk.mk b15 _ _]) _ mixed (by kernel_rfl) (by repeat (first | exact zs0 _ | exact zs1 _ | apply zs2 | apply zs3 | apply zs4 | apply zs5)) (by (repeat (first | apply List.Sublist.cons (a := Blk.mk b15 _ _) | apply List.Sublist.cons_cons)); exact List.Sublist.refl _) ?_
       refine qan ?_
       refine qan ?_
       refine qau ?_
       refine qb3 ?_
       refine DJ3_call rfl (range1 (by repeat (first | apply USeg.here | apply USeg.cons | apply USeg.app)) hx hk11 (by omega)) rfl rfl ?_
       rintro v L' R' ⟨r8, k12, rfl, g12, g12', hk12, rfl, rfl⟩
       refine qas ?_
       refine qcj ?_
       refine qan ?_
       refine qan ?_
       refine qba ?_
       refine qb6 ?_
       refine qc6 ?_
       refine qah ?_
       refine qb4 ?_
       refine qah ?_
       refine LJ_case (k := 108) (show _ = Value.bool _ from rfl) (fun hg3 => ?_) (fun hg3 => ?_)
       ·
        replace hg3 := qb hg3
        refine LJ_qg (yv_move (show _ = Value.pointer _ from rfl)) rfl rfl ?_
        refine LJ_callg rfl (one1 (by repeat (first | apply USeg.here | apply USeg.cons | apply USeg.app)) hx (by assumption) (by omega)) rfl rfl ?_
        rintro v L' R' ⟨b2, k13, rfl, hk13, rfl, rfl⟩
        refine LJ_q (by first | exact yv_pick_true rfl rfl | exact yv_pick_false rfl rfl | exact yv_pick rfl) rfl ?_
        refine qaf ?_
        refine q_c (fun hc5 => ?_) (fun hc5 => ?_)
        ·
         refine qay ?_
         refine qa6 ?_
         refine LJ_call rfl (range1 (by repeat (first | apply USeg.here | apply USeg.cons | apply USeg.app)) hx hk13 (by omega)) rfl ?_
         rintro v L' R' ⟨r9, k14, rfl, g14, g14', hk14, rfl, rfl⟩
         refine qab ?_
         refine qcn ?_
         refine LJ_nil (seqK_normal (CJ_region ?_))
         refine qbm ?_
         refine qa8 ?_
         refine LJ_g (gives_buildSlice (qs := [(0, (Value.agg _).cells.toList)]) (out := [_, _, _, _]) tb rfl rfl rfl rfl rfl rfl rfl) rfl ?_
         rintro v L' R' ⟨b117, rfl, rfl, hR117⟩
         replace hR117 := hR117.symm; subst hR117
         refine LJ_g (gives_append1 (f := XMeas.cells) (p := q) (a := ⟨r9, r4, ⟨fl.l.getD s.target.toNat 0 - r5 + r7, fl.l.getD s.target.toNat 0 + r6 + r8⟩⟩) tb rfl rfl rfl rfl (hqk) (by repeat (first | apply OSeg.cons | exact OSeg.here | exact OSeg.last | exact OSeg.at (by assumption) | apply OSeg.app)) (shown_own (by repeat (first | exact zi0 | apply zi1 | apply zi2)) rfl rfl) rfl (by first | omega | (simp only [List.length_cons, List.length_nil, List.length_append]; omega))) rfl ?_
         rintro v L' R' ⟨o118, rfl, hok118, rfl, rfl⟩
         refine qc4 ?_
         refine qcs ?_
         refine qaa ?_
         refine qa9 ?_
         refine qad ?_
         refine qav ?_
         exact loopK_mk ⟨(_, n - 1, ⟨o118, _⟩), by assumption, by dsimp only; simp only [List.length_append, List.length_cons, List.length_nil]; omega, hok118, hM.next (by
         refine ⟨by dsimp only; omega, by dsimp only; omega, fun hr => ?_⟩
         first | (rw [hr] at hg3; cases hg3; done) | (rw [hr] at hgr; cases hgr; done) | (dsimp only; rw [← hs]; omega))⟩ (by repeat (first | exact Off.refl | apply Off.upd rfl | apply Off.havoc rfl | apply Off.updL rfl | apply Off.left rfl)) (by repeat' (first | exact trivial | refine And.intro rfl ?_)) (by repeat (first | exact zs0 _ | exact zs1 _ | apply zs2 | apply zs3 | apply zs4 | apply zs5)) (allR_self _) (by dsimp only; omega)
        ·
         refine CJ_skip (seqK_normal (CJ_region ?_))
         refine qbm ?_
         refine qa8 ?_
         refine LJ_g (gives_buildSlice (qs := [(0, (Value.agg _).cells.toList)]) (out := [_, _, _, _]) tb rfl rfl rfl rfl rfl rfl rfl) rfl ?_
         rintro v L' R' ⟨b117, rfl, rfl, hR117⟩
         replace hR117 := hR117.symm; subst hR117
         refine LJ_g (gives_append1 (f := XMeas.cells) (p := q) (a := ⟨r3, r4, ⟨fl.l.getD s.target.toNat 0 - r5 + r7, fl.l.getD s.target.toNat 0 + r6 + r8⟩⟩) tb rfl rfl rfl rfl (hqk) (by repeat (first | apply OSeg.cons | exact OSeg.here | exact OSeg.last | exact OSeg.at (by assumption) | apply OSeg.app)) (shown_own (by repeat (first | exact zi0 | apply zi1 | apply zi2)) rfl rfl) rfl (by first | omega | (simp only [List.length_cons, List.length_nil, List.length_append]; omega))) rfl ?_
         rintro v L' R' ⟨o118, rfl, hok118, rfl, rfl⟩
         refine qc4 ?_
         refine qcs ?_
         refine qaa ?_
         refine qa9 ?_
         refine qad ?_
         refine qav ?_
         exact loopK_mk ⟨(_, n - 1, ⟨o118, _⟩), by assumption, by dsimp only; simp only [List.length_append, List.length_cons, List.length_nil]; omega, hok118, hM.next (by
         refine ⟨by dsimp only; omega, by dsimp only; omega, fun hr => ?_⟩
         first | (rw [hr] at hg3; cases hg3; done) | (rw [hr] at hgr; cases hgr; done) | (dsimp only; rw [← hs]; omega))⟩ (by repeat (first | exact Off.refl | apply Off.upd rfl | apply Off.havoc rfl | apply Off.updL rfl | apply Off.left rfl)) (by repeat' (first | exact trivial | refine And.intro rfl ?_)) (by repeat (first | exact zs0 _ | exact zs1 _ | apply zs2 | apply zs3 | apply zs4 | apply zs5)) (allR_self _) (by dsimp only; omega)
       ·
        replace hg3 := qb hg3
        refine LJ_skg rfl rfl ?_
        refine LJ_skg rfl rfl ?_
        refine LJ_q (by first | exact yv_pick_true rfl rfl | exact yv_pick_false rfl rfl | exact yv_pick rfl) rfl ?_
        refine qaf ?_
        refine CJ_cond_false rfl ?_
        refine CJ_skip (seqK_normal (CJ_region ?_))
        refine qbm ?_
        refine qa8 ?_
        refine LJ_g (gives_buildSlice (qs := [(0, (Value.agg _).cells.toList)]) (out := [_, _, _, _]) tb rfl rfl rfl rfl rfl rfl rfl) rfl ?_
        rintro v L' R' ⟨b117, rfl, rfl, hR117⟩
        replace hR117 := hR117.symm; subst hR117
        refine LJ_g (gives_append1 (f := XMeas.cells) (p := q) (a := ⟨r3, r4, ⟨fl.l.getD s.target.toNat 0 - r5 + r7, fl.l.getD s.target.toNat 0 + r6 + r8⟩⟩) tb rfl rfl rfl rfl (hqk) (by repeat (first | apply OSeg.cons | exact OSeg.here | exact OSeg.last | exact OSeg.at (by assumption) | apply OSeg.app)) (shown_own (by repeat (first | exact zi0 | apply zi1 | apply zi2)) rfl rfl) rfl (by first | omega | (simp only [List.length_cons, List.length_nil, List.length_append]; omega))) rfl ?_
        rintro v L' R' ⟨o118, rfl, hok118, rfl, rfl⟩
        refine qc4 ?_
        refine qcs ?_
        refine qaa ?_
        refine qa9 ?_
        refine qad ?_
        refine qav ?_
        exact loopK_mk ⟨(_, n - 1, ⟨o118, _⟩), by assumption, by dsimp only; simp only [List.length_append, List.length_cons, List.length_nil]; omega, hok118, hM.next (by
        refine ⟨by dsimp only; omega, by dsimp only; omega, fun hr => ?_⟩
        first | (rw [hr] at hg3; cases hg3; done) | (rw [hr] at hgr; cases hgr; done) | (dsimp only; rw [← hs]; omega))⟩ (by repeat (first | exact Off.refl | apply Off.upd rfl | apply Off.havoc rfl | apply Off.updL rfl | apply Off.left rfl)) (by repeat' (first | exact trivial | refine And.intro rfl ?_)) (by repeat (first | exact zs0 _ | exact zs1 _ | apply zs2 | apply zs3 | apply zs4 | apply zs5)) (allR_self _) (by dsimp only; omega)
      ·
       refine qbo ?_
       refine qah ?_
       refine qb4 ?_
       refine qah ?_
       refine LJ_case (k := 108) (show _ = Value.bool _ from rfl) (fun hg3 => ?_) (fun hg3 => ?_)
       ·
        replace hg3 := qb hg3
        refine LJ_qg (yv_move (show _ = Value.pointer _ from rfl)) rfl rfl ?_
        refine LJ_callg rfl (one1 (by repeat (first | apply USeg.here | apply USeg.cons | apply USeg.app)) hx (by assumption) (by omega)) rfl rfl ?_
        rintro v L' R' ⟨b2, k13, rfl, hk13, rfl, rfl⟩
        refine LJ_q (by first | exact yv_pick_true rfl rfl | exact yv_pick_false rfl rfl | exact yv_pick rfl) rfl ?_
        refine qaf ?_
        refine q_c (fun hc5 => ?_) (fun hc5 => ?_)
        ·
         refine qay ?_
         refine qa6 ?_
         refine LJ_call rfl (range1 (by repeat (first | apply USeg.here | apply USeg.cons | apply USeg.app)) hx hk13 (by omega)) rfl ?_
         rintro v L' R' ⟨r9, k14, rfl, g14, g14', hk14, rfl, rfl⟩
         refine qab ?_
         refine qcn ?_
         refine LJ_nil (seqK_normal (CJ_region ?_))
         refine qbm ?_
         refine qa8 ?_
         refine LJ_g (gives_buildSlice (qs := [(0, (Value.agg _).cells.toList)]) (out := [_, _, _, _]) tb rfl rfl rfl rfl rfl rfl rfl) rfl ?_
         rintro v L' R' ⟨b117, rfl, rfl, hR117⟩
         replace hR117 := hR117.symm; subst hR117
         refine LJ_g (gives_append1 (f := XMeas.cells) (p := q) (a := ⟨r9, r4, ⟨fl.l.getD s.target.toNat 0 - r5, fl.l.getD s.target.toNat 0 + r6⟩⟩) tb rfl rfl rfl rfl (hqk) (by repeat (first | apply OSeg.cons | exact OSeg.here | exact OSeg.last | exact OSeg.at (by assumption) | apply OSeg.app)) (shown_own (by repeat (first | exact zi0 | apply zi1 | apply zi2)) rfl rfl) rfl (by first | omega | (simp only [List.length_cons, List.length_nil, List.length_append]; omega))) rfl ?_
         rintro v L' R' ⟨o118, rfl, hok118, rfl, rfl⟩
         refine qc4 ?_
         refine qcs ?_
         refine qaa ?_
         refine qa9 ?_
         refine qad ?_
         refine qav ?_
         exact loopK_mk ⟨(_, n - 1, ⟨o118, _⟩), by assumption, by dsimp only; simp only [List.length_append, List.length_cons, List.length_nil]; omega, hok118, hM.next (by
         refine ⟨by dsimp only; omega, by dsimp only; omega, fun hr => ?_⟩
         first | (rw [hr] at hg3; cases hg3; done) | (rw [hr] at hgr; cases hgr; done) | (dsimp only; rw [← hs]; omega))⟩ (by repeat (first | exact Off.refl | apply Off.upd rfl | apply Off.havoc rfl | apply Off.updL rfl | apply Off.left rfl)) (by repeat' (first | exact trivial | refine And.intro rfl ?_)) (by repeat (first | exact zs0 _ | exact zs1 _ | apply zs2 | apply zs3 | apply zs4 | apply zs5)) (allR_self _) (by dsimp only; omega)
        ·
         refine CJ_skip (seqK_normal (CJ_region ?_))
         refine qbm ?_
         refine qa8 ?_
         refine LJ_g (gives_buildSlice (qs := [(0, (Value.agg _).cells.toList)]) (out := [_, _, _, _]) tb rfl rfl rfl rfl rfl rfl rfl) rfl ?_
         rintro v L' R' ⟨b117, rfl, rfl, hR117⟩
         replace hR117 := hR117.symm; subst hR117
         refine LJ_g (gives_append1 (f := XMeas.cells) (p := q) (a := ⟨r3, r4, ⟨fl.l.getD s.target.toNat 0 - r5, fl.l.getD s.target.toNat 0 + r6⟩⟩) tb rfl rfl rfl rfl (hqk) (by repeat (first | apply OSeg.cons | exact OSeg.here | exact OSeg.last | exact OSeg.at (by assumption) | apply OSeg.app)) (shown_own (by repeat (first | exact zi0 | apply zi1 | apply zi2)) rfl rfl) rfl (by first | omega | (simp only [List.length_cons, List.length_nil, List.length_append]; omega))) rfl ?_
         rintro v L' R' ⟨o118, rfl, hok118, rfl, rfl⟩
         refine qc4 ?_
         refine qcs ?_
         refine qaa ?_
         refine qa9 ?_
         refine qad ?_
         refine qav ?_
         exact loopK_mk ⟨(_, n - 1, ⟨o118, _⟩), by assumption, by dsimp only; simp only [List.length_append, List.length_cons, List.length_nil]; omega, hok118, hM.next (by
         refine ⟨by dsimp only; omega, by dsimp only; omega, fun hr => ?_⟩
         first | (rw [hr] at hg3; cases hg3; done) | (rw [hr] at hgr; cases hgr; done) | (dsimp only; rw [← hs]; omega))⟩ (by repeat (first | exact Off.refl | apply Off.upd rfl | apply Off.havoc rfl | apply Off.updL rfl | apply Off.left rfl)) (by repeat' (first | exact trivial | refine And.intro rfl ?_)) (by repeat (first | exact zs0 _ | exact zs1 _ | apply zs2 | apply zs3 | apply zs4 | apply zs5)) (allR_self _) (by dsimp only; omega)
       ·
        replace hg3 := qb hg3
        refine LJ_skg rfl rfl ?_
        refine LJ_skg rfl rfl ?_
        refine LJ_q (by first | exact yv_pick_true rfl rfl | exact yv_pick_false rfl rfl | exact yv_pick rfl) rfl ?_
        refine qaf ?_
        refine CJ_cond_false rfl ?_
        refine CJ_skip (seqK_normal (CJ_region ?_))
        refine qbm ?_
        refine qa8 ?_
        refine LJ_g (gives_buildSlice (qs := [(0, (Value.agg _).cells.toList)]) (out := [_, _, _, _]) tb rfl rfl rfl rfl rfl rfl rfl) rfl ?_
        rintro v L' R' ⟨b117, rfl, rfl, hR117⟩
        replace hR117 := hR117.symm; subst hR117
        refine LJ_g (gives_append1 (f := XMeas.cells) (p := q) (a := ⟨r3, r4, ⟨fl.l.getD s.target.toNat 0 - r5, fl.l.getD s.target.toNat 0 + r6⟩⟩) tb rfl rfl rfl rfl (hqk) (by repeat (first | apply OSeg.cons | exact OSeg.here | exact OSeg.last | exact OSeg.at (by assumption) | apply OSeg.app)) (shown_own (by repeat (first | exact zi0 | apply zi1 | apply zi2)) rfl rfl) rfl (by first | omega | (simp only [List.length_cons, List.length_nil, List.length_append]; omega))) rfl ?_
        rintro v L' R' ⟨o118, rfl, hok118, rfl, rfl⟩
        refine qc4 ?_
        refine qcs ?_
        refine qaa ?_
        refine qa9 ?_
        refine qad ?_
        refine qav ?_
        exact loopK_mk ⟨(_, n - 1, ⟨o118, _⟩), by assumption, by dsimp only; simp only [List.length_append, List.length_cons, List.length_nil]; omega, hok118, hM.next (by
        refine ⟨by dsimp only; omega, by dsimp only; omega, fun hr => ?_⟩
        first | (rw [hr] at hg3; cases hg3; done) | (rw [hr] at hgr; cases hgr; done) | (dsimp only; rw [← hs]; omega))⟩ (by repeat (first | exact Off.refl | apply Off.upd rfl | apply Off.havoc rfl | apply Off.updL rfl | apply Off.left rfl)) (by repeat' (first | exact trivial | refine And.intro rfl ?_)) (by repeat (first | exact zs0 _ | exact zs1 _ | apply zs2 | apply zs3 | apply zs4 | apply zs5)) (allR_self _) (by dsimp only; omega)
     ·
      replace hg3 := qb hg3
      have hgr := hg3
      refine LJ_skg rfl rfl ?_
      refine LJ_skg rfl rfl ?_
      refine LJ_q (by first | exact yv_pick_true rfl rfl | exact yv_pick_false rfl rfl | exact yv_pick rfl) rfl ?_
      refine qaf ?_
      refine CJ_cond_false rfl ?_
      refine qbo ?_
      refine qah ?_
      refine qb4 ?_
      refine qah ?_
      refine LJ_case (k := 108) (show _ = Value.bool _ from rfl) (fun hg3 => ?_) (fun hg3 => ?_)
      ·
       replace hg3 := qb hg3
       refine LJ_qg (yv_move (show _ = Value.pointer _ from rfl)) rfl rfl ?_
       refine LJ_callg rfl (one1 (by repeat (first | apply USeg.here | apply USeg.cons | apply USeg.app)) hx (by assumption) (by omega)) rfl rfl ?_
       rintro v L' R' ⟨b2, k13, rfl, hk13, rfl, rfl⟩
       refine LJ_q (by first | exact yv_pick_true rfl rfl | exact yv_pick_false rfl rfl | exact yv_pick rfl) rfl ?_
       refine qaf ?_
       refine q_c (fun hc5 => ?_) (fun hc5 => ?_)
       ·
        refine qay ?_
        refine qa6 ?_
        refine LJ_call rfl (range1 (by repeat (first | apply USeg.here | apply USeg.cons | apply USeg.app)) hx hk13 (by omega)) rfl ?_
        rintro v L' R' ⟨r9, k14, rfl, g14, g14', hk14, rfl, rfl⟩
        refine qab ?_
        refine qcn ?_
        refine LJ_nil (seqK_normal (CJ_region ?_))
        refine qbm ?_
        refine qa8 ?_
        refine LJ_g (gives_buildSlice (qs := [(0, (Value.agg _).cells.toList)]) (out := [_, _, _, _]) tb rfl rfl rfl rfl rfl rfl rfl) rfl ?_
        rintro v L' R' ⟨b117, rfl, rfl, hR117⟩
        replace hR117 := hR117.symm; subst hR117
        refine LJ_g (gives_append1 (f := XMeas.cells) (p := q) (a := ⟨r9, r4, ⟨fl.l.getD s.target.toNat 0 - r5, fl.l.getD s.target.toNat 0 + r6⟩⟩) tb rfl rfl rfl rfl (hqk) (by repeat (first | apply OSeg.cons | exact OSeg.here | exact OSeg.last | exact OSeg.at (by assumption) | apply OSeg.app)) (shown_own (by repeat (first | exact zi0 | apply zi1 | apply zi2)) rfl rfl) rfl (by first | omega | (simp only [List.length_cons, List.length_nil, List.length_append]; omega))) rfl ?_
        rintro v L' R' ⟨o118, rfl, hok118, rfl, rfl⟩
        refine qc4 ?_
        refine qcs ?_
        refine qaa ?_
        refine qa9 ?_
        refine qad ?_
        refine qav ?_
        exact loopK_mk ⟨(_, n - 1, ⟨o118, _⟩), by assumption, by dsimp only; simp only [List.length_append, List.length_cons, List.length_nil]; omega, hok118, hM.next (by
        refine ⟨by dsimp only; omega, by dsimp only; omega, fun hr => ?_⟩
        first | (rw [hr] at hg3; cases hg3; done) | (rw [hr] at hgr; cases hgr; done) | (dsimp only; rw [← hs]; omega))⟩ (by repeat (first | exact Off.refl | apply Off.upd rfl | apply Off.havoc rfl | apply Off.updL rfl | apply Off.left rfl)) (by repeat' (first | exact trivial | refine And.intro rfl ?_)) (by repeat (first | exact zs0 _ | exact zs1 _ | apply zs2 | apply zs3 | apply zs4 | apply zs5)) (allR_self _) (by dsimp only; omega)
       ·
        refine CJ_skip (seqK_normal (CJ_region ?_))
        refine qbm ?_
        refine qa8 ?_
        refine LJ_g (gives_buildSlice (qs := [(0, (Value.agg _).cells.toList)]) (out := [_, _, _, _]) tb rfl rfl rfl rfl rfl rfl rfl) rfl ?_
        rintro v L' R' ⟨b117, rfl, rfl, hR117⟩
        replace hR117 := hR117.symm; subst hR117
        refine LJ_g (gives_append1 (f := XMeas.cells) (p := q) (a := ⟨r3, r4, ⟨fl.l.getD s.target.toNat 0 - r5, fl.l.getD s.target.toNat 0 + r6⟩⟩) tb rfl rfl rfl rfl (hqk) (by repeat (first | apply OSeg.cons | exact OSeg.here | exact OSeg.last | exact OSeg.at (by assumption) | apply OSeg.app)) (shown_own (by repeat (first | exact zi0 | apply zi1 | apply zi2)) rfl rfl) rfl (by first | omega | (simp only [List.length_cons, List.length_nil, List.length_append]; omega))) rfl ?_
        rintro v L' R' ⟨o118, rfl, hok118, rfl, rfl⟩
        refine qc4 ?_
        refine qcs ?_
        refine qaa ?_
        refine qa9 ?_
        refine qad ?_
        refine qav ?_
        exact loopK_mk ⟨(_, n - 1, ⟨o118, _⟩), by assumption, by dsimp only; simp only [List.length_append, List.length_cons, List.length_nil]; omega, hok118, hM.next (by
        refine ⟨by dsimp only; omega, by dsimp only; omega, fun hr => ?_⟩
        first | (rw [hr] at hg3; cases hg3; done) | (rw [hr] at hgr; cases hgr; done) | (dsimp only; rw [← hs]; omega))⟩ (by repeat (first | exact Off.refl | apply Off.upd rfl | apply Off.havoc rfl | apply Off.updL rfl | apply Off.left rfl)) (by repeat' (first | exact trivial | refine And.intro rfl ?_)) (by repeat (first | exact zs0 _ | exact zs1 _ | apply zs2 | apply zs3 | apply zs4 | apply zs5)) (allR_self _) (by dsimp only; omega)
      ·
       replace hg3 := qb hg3
       refine LJ_skg rfl rfl ?_
       refine LJ_skg rfl rfl ?_
       refine LJ_q (by first | exact yv_pick_true rfl rfl | exact yv_pick_false rfl rfl | exact yv_pick rfl) rfl ?_
       refine qaf ?_
       refine CJ_cond_false rfl ?_
       refine CJ_skip (seqK_normal (CJ_region ?_))
       refine qbm ?_
       refine qa8 ?_
       refine LJ_g (gives_buildSlice (qs := [(0, (Value.agg _).cells.toList)]) (out := [_, _, _, _]) tb rfl rfl rfl rfl rfl rfl rfl) rfl ?_
       rintro v L' R' ⟨b117, rfl, rfl, hR117⟩
       replace hR117 := hR117.symm; subst hR117
       refine LJ_g (gives_append1 (f := XMeas.cells) (p := q) (a := ⟨r3, r4, ⟨fl.l.getD s.target.toNat 0 - r5, fl.l.getD s.target.toNat 0 + r6⟩⟩) tb rfl rfl rfl rfl (hqk) (by repeat (first | apply OSeg.cons | exact OSeg.here | exact OSeg.last | exact OSeg.at (by assumption) | apply OSeg.app)) (shown_own (by repeat (first | exact zi0 | apply zi1 | apply zi2)) rfl rfl) rfl (by first | omega | (simp only [List.length_cons, List.length_nil, List.length_append]; omega))) rfl ?_
       rintro v L' R' ⟨o118, rfl, hok118, rfl, rfl⟩
       refine qc4 ?_
       refine qcs ?_
       refine qaa ?_
       refine qa9 ?_
       refine qad ?_
       refine qav ?_
       exact loopK_mk ⟨(_, n - 1, ⟨o118, _⟩), by assumption, by dsimp only; simp only [List.length_append, List.length_cons, List.length_nil]; omega, hok118, hM.next (by
       refine ⟨by dsimp only; omega, by dsimp only; omega, fun hr => ?_⟩
       first | (rw [hr] at hg3; cases hg3; done) | (rw [hr] at hgr; cases hgr; done) | (dsimp only; rw [← hs]; omega))⟩ (by repeat (first | exact Off.refl | apply Off.upd rfl | apply Off.havoc rfl | apply Off.updL rfl | apply Off.left rfl)) (by repeat' (first | exact trivial | refine And.intro rfl ?_)) (by repeat (first | exact zs0 _ | exact zs1 _ | apply zs2 | apply zs3 | apply zs4 | apply zs5)) (allR_self _) (by dsimp only; omega)
    ·
     refine qbk ?_
     refine qbm ?_
     refine qbm ?_
     refine qc4 ?_
     refine qc4 ?_
     refine qa0 ?_
     refine q_r (L' := q.L 88 XMeas.cells ++ (p.L 97 XSens.cells ++ (cblk c x kj :: []))) (R' := R) (res2 rfl (rv_tmp (show _ = Value.slice _ _ _ from rfl)) (rv_tmp (show _ = Value.slice _ _ _ from rfl))) ?_
     exact ⟨p, q, kj, rfl, ⟨hpk, hqk⟩, ⟨by omega, by omega⟩, hS, hM, hkj, rfl, rfl⟩
end Go.Proofs.Ytlgjgigciapkfaa
