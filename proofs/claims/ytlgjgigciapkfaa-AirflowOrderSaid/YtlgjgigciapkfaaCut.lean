/-
  plan.Valid, plan.CutOff, certify.Lost. By an AI agent; no person has read it.
-/
import Derived.Test.YtlgjgigciapkfaaPart
set_option linter.unusedSimpArgs false
set_option linter.unusedVariables false
namespace Go.Proofs.Ytlgjgigciapkfaa
open Go.Aw Go
set_option maxRecDepth 20000
attribute [local irreducible] CJ LJ DJ Tri YV Gives seqK blockK loopK retK RV mergeK OwL.L

theorem valid_tri (m : XMine) (L : List Blk) (R : List Sl) (hm : MineR m R) :
    Tri Try.prog 169 [m.val].toArray L R (fun v L' R' => v = .bool (decide (mineErr m = 0)) ∧ L = L' ∧ R = R') := by
  refine tri_enter 6 Try.call169 Try.func169 rfl rfl rfl ?_
  refine qae ?_
  refine qax ?_
  intro b1
  refine qaz ?_
  refine qam ?_
  refine qbe ?_
  refine q_l rfl (planCheck_tri m _ _ hm) ?_
  refine qbn ?_
  refine qaz ?_
  refine qa0 ?_
  refine q_b (L' := L) (R' := R) ?_
  exact ⟨rfl, rfl, rfl⟩

/-- the parts that reach the surface -/
structure FrOk (m : XMine) (f : List Int) (fr : List Bool) (N k : Nat) : Prop where
  len : fr.length = N
  iff : ∀ c : Nat, fr.getD c false = true ↔ ∃ j : Nat, j < k ∧ (m.places.l.getD j default).surface = true ∧ lb f j = (c : Int)
theorem FrOk.zero (m : XMine) (f : List Int) (N : Nat) : FrOk m f (List.replicate N false) N 0 := by
  refine ⟨by simp, fun c => ⟨fun h => ?_, fun ⟨j, hj, _⟩ => by omega⟩⟩
  rw [List.getD_eq_getElem?_getD, List.getElem?_replicate] at h
  split at h <;> simp at h
theorem FrOk.stay {m : XMine} {f : List Int} {fr : List Bool} {N k : Nat} (h : FrOk m f fr N k) (hs : ¬ (m.places.l.getD k default).surface = true) : FrOk m f fr N (k + 1) := by
  refine ⟨h.len, fun c => (h.iff c).trans ⟨fun ⟨j, h1, h2, h3⟩ => ⟨j, by omega, h2, h3⟩, fun ⟨j, h1, h2, h3⟩ => ?_⟩⟩
  rcases Nat.lt_or_ge j k with h4 | h4
  · exact ⟨j, h4, h2, h3⟩
  · obtain rfl : j = k := by omega
    exact absurd h2 hs
theorem FrOk.next {m : XMine} {f : List Int} {fr : List Bool} {N k : Nat} (h : FrOk m f fr N k) (hs : (m.places.l.getD k default).surface = true) (h0 : 0 ≤ lb f k ∧ lb f k < (N : Int)) : FrOk m f (fr.set (lb f k).toNat true) N (k + 1) := by
  have hl := h.len
  refine ⟨by simp [hl], fun c => ?_⟩
  rw [getD_setB (by omega)]
  split
  · rename_i e
    exact ⟨fun _ => ⟨k, by omega, hs, by omega⟩, fun _ => rfl⟩
  · rename_i e
    refine (h.iff c).trans ⟨fun ⟨j, h1, h2, h3⟩ => ⟨j, by omega, h2, h3⟩, fun ⟨j, h1, h2, h3⟩ => ?_⟩
    rcases Nat.lt_or_ge j k with h4 | h4
    · exact ⟨j, h4, h2, h3⟩
    · obtain rfl : j = k := by omega
      exact absurd (by omega) e
def airyOf (f : List Int) (fr : List Bool) (n : Nat) : List Bool := (List.range n).map fun i => fr.getD (lb f i).toNat false
theorem airyOf_get {f : List Int} {fr : List Bool} {n i : Nat} (h : i < n) : (airyOf f fr n).getD i false = fr.getD (lb f i).toNat false := by
  rw [List.getD_eq_getElem?_getD, airyOf, List.getElem?_map, List.getElem?_range h]; rfl
theorem surf_get {m : XMine} {j : Nat} (h : j < m.places.l.length) : (surf m).getD j false = (m.places.l.getD j default).surface := by
  rw [List.getD_eq_getElem?_getD, surf, List.getElem?_map, get_D (l := m.places.l) (k := j) default h]; rfl
theorem FrOk.airy {m : XMine} {f : List Int} {fr : List Bool} {N : Nat} (h : FrOk m f fr N m.places.l.length) (hp : PartIs m f (N : Int)) : AiryIs m (airyOf f fr m.places.l.length) := by
  have hsl : (surf m).length = m.places.l.length := by simp [surf]
  refine ⟨by simp [airyOf, hsl], fun i hi => ?_⟩
  have hi' : i < m.places.l.length := by omega
  have hr := hp.rng i hi'
  rw [airyOf_get hi', h.iff]
  refine ⟨fun ⟨j, h1, h2, h3⟩ => ⟨j, by omega, by rw [surf_get h1]; exact h2, (hp.iff j i h1 hi').1 (by omega)⟩, fun ⟨j, h1, h2, h3⟩ => ?_⟩
  have h1' : j < m.places.l.length := by omega
  rw [surf_get h1'] at h2
  exact ⟨j, h1', h2, by rw [(hp.iff j i h1' hi').2 h3]; omega⟩
/-- the places from which no open way leads to the surface -/
def lostOf (A : List Bool) : Nat → List Int
  | 0 => []
  | k + 1 => if A.getD k false = true then lostOf A k else lostOf A k ++ [(k : Int)]
theorem lostOf_length (A : List Bool) : ∀ k, (lostOf A k).length ≤ k
  | 0 => by simp [lostOf]
  | k + 1 => by
    have := lostOf_length A k
    rw [lostOf]
    split
    · omega
    · simp only [List.length_append, List.length_singleton]; omega
theorem mem_lostOf {A : List Bool} {e : Int} : ∀ {k : Nat}, e ∈ lostOf A k ↔ ∃ i : Nat, e = (i : Int) ∧ i < k ∧ ¬ A.getD i false = true
  | 0 => ⟨fun h => (by simp [lostOf] at h), fun ⟨i, _, h, _⟩ => (by omega)⟩
  | k + 1 => by
    have ih := mem_lostOf (A := A) (e := e) (k := k)
    rw [lostOf]
    split
    · rename_i h
      refine ih.trans ⟨fun ⟨i, h1, h2, h3⟩ => ⟨i, h1, by omega, h3⟩, fun ⟨i, h1, h2, h3⟩ => ⟨i, h1, ?_, h3⟩⟩
      rcases Nat.lt_or_ge i k with h4 | h4
      · exact h4
      · obtain rfl : i = k := by omega
        exact absurd h h3
    · rename_i h
      rw [List.mem_append, ih, List.mem_singleton]
      refine ⟨fun h0 => ?_, fun ⟨i, h1, h2, h3⟩ => ?_⟩
      · rcases h0 with ⟨i, h1, h2, h3⟩ | h0
        · exact ⟨i, h1, by omega, h3⟩
        · exact ⟨k, h0, by omega, h⟩
      · rcases Nat.lt_or_ge i k with h4 | h4
        · exact .inl ⟨i, h1, h4, h3⟩
        · obtain rfl : i = k := by omega
          exact .inr h1

theorem cutOff_tri (m : XMine) (L : List Blk) (R : List Sl) (hm : MineR m R) (hok : MineOk m) (hv : mineErr m = 0) :
    Tri Try.prog 145 [m.val].toArray L R (fun w L' R' => ∃ (p : OwL Int) (A : List Bool) (S : List Sl), w = p.val ∧ p.ok 1 icell ∧ AiryIs m A ∧ p.l = lostOf A m.places.l.length ∧ p.L 3 icell ++ L = L' ∧ S ++ R = R') := by
  have hmp := hm.places
  have hnp := hok.places
  refine tri_enter 57 Try.call145 Try.func145 rfl rfl rfl ?_
  refine qae ?_
  refine qax ?_
  intro b1
  refine qc4 ?_
  refine qaw ?_
  refine qbe ?_
  refine q_l rfl (valid_tri m _ _ hm) ?_
  refine qb4 ?_
  refine qaf ?_
  refine q_c (fun hc0 => ?_) (fun hc0 => ?_)
  ·
   refine qae ?_
   refine qc4 ?_
   refine qbh ?_
   refine q_r (L' := L) (R' := R) (res1 rfl (rv_tmp (show _ = Value.slice _ _ _ from rfl))) ?_
   exact absurd hv (by simpa using hc0)
  ·
   refine qbv ?_
   refine qbe ?_
   refine LJ_call rfl (part_tri m _ _ hm hok) rfl ?_
   rintro v L' R' ⟨p, N, S, rfl, hpk, hP, rfl, rfl⟩
   have hpl := hP.len
   have hpn := hP.n
   have hmp2 : InR (psl m.places) (S ++ R) := hmp.mono fun r h => inR_self (by simp [h])
   refine LJ_q (yv_move rfl) rfl ?_
   refine qbs ?_
   refine qbs ?_
   refine qc4 ?_
   refine qad ?_
   refine qam ?_
   refine qaa ?_
   refine qc7 ?_
   rintro v L' R' ⟨b19, rfl, rfl, hR19⟩
   replace hR19 := hR19.symm; subst hR19
   refine qc4 ?_
   refine qaw ?_
   refine qab ?_
   refine qac ?_
   refine qag ?_
   refine qaa ?_
   refine qa2 ?_
   refine CJ_forget [(1, Value.pointer _), (3, Value.slice _ _ _), (5, Value.slice _ _ _), (21, Value.slice _ _ _), (22, Value.int _ _), (23, Value.int _ _)] (by repeat' (first | exact trivial | refine And.intro rfl ?_)) fun tq0 => ?_
   refine CJ_L (made_ow (f := blc) (x := false) rfl _) ?_
   refine q_p [6, 7, 23, 24, 25, 26, 27, 28, 29, 30, 31, 32, 33, 34, 35, 36] ((⟨fun q => [(23, .int .i64 ((q.1.1 : Nat) : Int))], fun q => (⟨.own b19 N [], q.1.2⟩ : OwL Bool).L 4 blc ++ (p.L 3 icell ++ (⟨b1, m.cells, 26⟩ :: L)), fun _ => S ++ R, fun q => m.places.l.length - q.1.1⟩ : Head {q : Nat × List Bool // q.1 ≤ m.places.l.length ∧ FrOk m p.l q.2 N q.1})) (⟨(0, List.replicate N false), by dsimp only; omega, FrOk.zero m p.l N⟩) ?_
   rintro ⟨⟨k, fr⟩, q1, q2⟩ junk
   try dsimp only
   dsimp only at q1 q2
   have hfl := q2.len
   have hkf : (⟨.own b19 N [], fr⟩ : OwL Bool).ok 1 blc := by have := made_ok (f := blc) (wd := 1) (b := b19) (n := N) (x := false) blc_len (by simp only [maxLen]; omega); exact OwL.len_ok blc_len this (by simp; exact hfl)
   refine qae ?_
   refine qaj ?_
   refine qa4 ?_
   refine q_c (fun hc1 => ?_) (fun hc1 => ?_)
   ·
    have hpg := get_D (l := m.places.l) (k := k) default (by omega)
    have hlg := lb_get (f := p.l) (v := k) (by omega)
    have hrk := hP.rng k (by omega)
    have hfg := get_D (l := fr) (k := (lb p.l k).toNat) false (by omega)
    refine qbb ?_
    refine qaa ?_
    refine qa3 ?_
    refine qdl ?_
    refine qaq ?_
    intro b7
    refine qad ?_
    refine qak ?_
    refine qam ?_
    refine qab ?_
    refine qac ?_
    refine qaf ?_
    refine q_c (fun hc2 => ?_) (fun hc2 => ?_)
    ·
     refine qay ?_
     refine qbm ?_
     refine qbm ?_
     refine qaa ?_
     refine LJ_q (yv_index_ow tb (p) _ rfl rfl rfl rfl (by assumption) (i := k) (by first | rfl | omega | (simp; omega)) (by first | omega | (dsimp only; omega) | (dsimp only; rw [List.length_set]; omega))) rfl ?_
     refine LJ_q (yv_load1_ow tb (p) rfl rfl rfl (by repeat (first | apply OSeg.cons | exact OSeg.here | exact OSeg.last | exact OSeg.at (by assumption) | apply OSeg.app)) (by assumption) (fun _ => rfl) (by assumption) (by rfl)) rfl ?_
     refine LJ_q (yv_index_ow tb ((⟨.own b19 N [], fr⟩ : OwL Bool)) _ rfl rfl ((show _ = Value.slice _ _ _ from rfl).trans (own_val hfl)) rfl (by assumption) (i := (lb p.l k).toNat) (by first | rfl | omega | (simp; omega)) (by first | omega | (dsimp only; omega) | (dsimp only; rw [List.length_set]; omega))) rfl ?_
     refine LJ_g0 (gives_store1_ow tb ((⟨.own b19 N [], fr⟩ : OwL Bool)) (true) rfl rfl rfl rfl (by repeat (first | apply OSeg.cons | exact OSeg.here | exact OSeg.last | exact OSeg.at (by assumption) | apply OSeg.app)) (by assumption) (fun _ => rfl) (by assumption) (by decide) (by rfl) (by rfl)) ?_
     rintro v L' R' ⟨rfl, rfl⟩
     refine qcs ?_
     refine qar ?_
     refine qaa ?_
     refine qav ?_
     exact q_k ⟨(k + 1, _), by dsimp only; omega, q2.next (by simpa using hc2) hrk⟩
    ·
     refine qbj ?_
     refine qar ?_
     refine qaa ?_
     refine qav ?_
     exact q_k ⟨(k + 1, fr), by dsimp only; omega, q2.stay (by simpa using hc2)⟩
   ·
    obtain rfl : k = m.places.l.length := by omega
    have hA := q2.airy hP
    obtain ⟨A, hAe⟩ : ∃ A, A = airyOf p.l fr m.places.l.length := ⟨_, rfl⟩
    rw [← hAe] at hA
    refine qbk ?_
    refine qc4 ?_
    refine qaw ?_
    refine qab ?_
    refine qac ?_
    refine qag ?_
    refine qaa ?_
    refine qa2 ?_
    refine CJ_forget [(3, Value.slice _ _ _), (5, Value.slice _ _ _), (8, Value.slice _ _ _), (39, Value.int _ _), (40, Value.int _ _)] (by repeat' (first | exact trivial | refine And.intro rfl ?_)) fun tq1 => ?_
    refine CJ_loop [8, 9, 40, 41, 42, 43, 44, 45, 46, 47, 48, 49, 50, 51, 52, 53, 54, 55] ((⟨fun q => [(40, .int .i64 ((q.1.1 : Nat) : Int)), (8, q.1.2.val)], fun q => q.1.2.L 3 icell ++ ((⟨.own b19 N [], fr⟩ : OwL Bool).L 4 blc ++ (p.L 3 icell ++ (⟨b1, m.cells, 26⟩ :: L))), fun _ => S ++ R, fun q => m.places.l.length - q.1.1⟩ : Head {q : Nat × OwL Int // q.1 ≤ m.places.l.length ∧ q.2.ok 1 icell ∧ q.2.l = lostOf A q.1})) (⟨(0, OwL.nil), by dsimp only; omega, OwL.nil_ok, rfl⟩) (by repeat' (first | exact trivial | refine And.intro rfl ?_)) (by dsimp only; rw [nil_L, List.nil_append]; exact List.Sublist.refl _) (allR_self _) ?_
    rintro ⟨⟨k, q⟩, w1, w2, w3⟩ junk
    try dsimp only
    dsimp only at w1 w2 w3
    refine qae ?_
    refine qaj ?_
    refine qa4 ?_
    refine q_c (fun hc3 => ?_) (fun hc3 => ?_)
    ·
     have hlg := lb_get (f := p.l) (v := k) (by omega)
     have hrk := hP.rng k (by omega)
     have hfg := get_D (l := fr) (k := (lb p.l k).toNat) false (by omega)
     have hAk : A.getD k false = fr.getD (lb p.l k).toNat false := by rw [hAe]; exact airyOf_get (by omega)
     have hql := lostOf_length A k
     rw [← w3] at hql
     refine qbb ?_
     refine qaa ?_
     refine qad ?_
     refine qam ?_
     refine qbm ?_
     refine qbm ?_
     refine qaa ?_
     refine LJ_q (yv_index_ow tb (p) _ rfl rfl rfl rfl (by assumption) (i := k) (by first | rfl | omega | (simp; omega)) (by first | omega | (dsimp only; omega) | (dsimp only; rw [List.length_set]; omega))) rfl ?_
     refine LJ_q (yv_load1_ow tb (p) rfl rfl rfl (by repeat (first | apply OSeg.cons | exact OSeg.here | exact OSeg.last | exact OSeg.at (by assumption) | apply OSeg.app)) (by assumption) (fun _ => rfl) (by assumption) (by rfl)) rfl ?_
     refine LJ_q (yv_index_ow tb ((⟨.own b19 N [], fr⟩ : OwL Bool)) _ rfl rfl ((show _ = Value.slice _ _ _ from rfl).trans (own_val hfl)) rfl (by assumption) (i := (lb p.l k).toNat) (by first | rfl | omega | (simp; omega)) (by first | omega | (dsimp only; omega) | (dsimp only; rw [List.length_set]; omega))) rfl ?_
     refine LJ_q (yv_load1_ow tb ((⟨.own b19 N [], fr⟩ : OwL Bool)) rfl rfl rfl (by repeat (first | apply OSeg.cons | exact OSeg.here | exact OSeg.last | exact OSeg.at (by assumption) | apply OSeg.app)) (by assumption) (fun _ => rfl) (by assumption) (by rfl)) rfl ?_
     refine qb4 ?_
     refine qaf ?_
     refine q_c (fun hc4 => ?_) (fun hc4 => ?_)
     ·
      refine qay ?_
      refine qbm ?_
      refine qaa ?_
      refine qcx ?_
      rintro v L' R' ⟨b53, rfl, rfl, hR53⟩
      replace hR53 := hR53.symm; subst hR53
      refine LJ_g (gives_append1 (f := icell) (a := (k : Int)) tb rfl rfl rfl rfl (w2) (by repeat (first | apply OSeg.cons | exact OSeg.here | exact OSeg.last | exact OSeg.at (by assumption) | apply OSeg.app)) (shown_own (by repeat (first | exact zi0 | apply zi1 | apply zi2)) rfl rfl) rfl (by first | omega | (simp only [List.length_cons, List.length_nil, List.length_append]; omega))) rfl ?_
      rintro v L' R' ⟨o54, rfl, hok54, rfl, rfl⟩
      refine qc4 ?_
      refine qcs ?_
      refine qar ?_
      refine qaa ?_
      refine qav ?_
      exact q_k ⟨(k + 1, ⟨o54, q.l ++ [(k : Int)]⟩), by dsimp only; omega, hok54, by dsimp only; rw [lostOf, if_neg (by rw [hAk]; simpa using hc4), w3]⟩
     ·
      refine qbj ?_
      refine qar ?_
      refine qaa ?_
      refine qav ?_
      exact q_k ⟨(k + 1, q), by dsimp only; omega, w2, by dsimp only; rw [lostOf, if_pos (by rw [hAk]; simpa using hc4), w3]⟩
    ·
     obtain rfl : k = m.places.l.length := by omega
     refine qbk ?_
     refine qbm ?_
     refine qc4 ?_
     refine qa0 ?_
     refine q_r (L' := q.L 3 icell ++ L) (R' := S ++ R) (res1 rfl (rv_tmp (show _ = Value.slice _ _ _ from rfl))) ?_
     exact ⟨q, A, S, rfl, w2, hA, w3, rfl, rfl⟩
end Go.Proofs.Ytlgjgigciapkfaa
