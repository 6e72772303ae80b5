import Derived.Test.YtlgjgigciapkfaaCflow
section
/-
  ref11.Flows. By an AI agent; no person has read it.
-/
set_option linter.unusedSimpArgs false
set_option linter.unusedVariables false
namespace Go.Proofs.Ytlgjgigciapkfaa
open Go.Aw Go
set_option maxRecDepth 20000
attribute [local irreducible] CJ LJ DJ Tri YV Gives seqK blockK loopK retK RV mergeK OwL.L

section
variable {A9 B9 : Prop}
theorem yawaa (a : A9) (h : A9 → B9 := by exact LJ_g (gives_buildSlice (qs := [(0, (Value.agg _).cells.toList)]) (out := [_, _]) tb rfl rfl rfl rfl rfl rfl rfl) rfl) : B9 := h a
theorem yawab (a : A9) (h : A9 → B9 := by exact LJ_g (gives_append1 (f := XSpan.cells) (a := ⟨_, _⟩) tb rfl rfl rfl rfl (w2) (by repeat (first | apply OSeg.cons | exact OSeg.here | exact OSeg.last | exact OSeg.at (by assumption) | apply OSeg.app)) (shown_own (by repeat (first | exact zi0 | apply zi1 | apply zi2)) rfl rfl) rfl (by first | omega | (simp only [List.length_cons, List.length_nil, List.length_append]; omega))) rfl) : B9 := h a
theorem yawac (a : A9) (h : A9 → B9 := by exact DJ3_q (yv_loadN (row := [_, _]) tb rfl rfl rfl (by repeat (first | exact zi0 | apply zi1 | apply zi2)) (by rfl) (by rfl)) rfl rfl rfl rfl) : B9 := h a
theorem yawad (a : A9) (h : A9 → B9 := by exact DJ3_q (by first | exact yv_index_ro tb rfl rfl rfl rfl (by first | assumption | exact zr (by simp)) (i := (a.mine.roads.l.getD k default).fr.toNat) (by first | rfl | omega | (simp; omega)) (by omega) | exact yv_index tb rfl rfl rfl rfl (i := (a.mine.roads.l.getD k default).fr.toNat) (by first | rfl | omega | (simp; omega)) (by omega)) rfl rfl rfl rfl) : B9 := h a
theorem yawae (a : A9) (h : A9 → B9 := by exact DJ3_q (by first | exact yv_index_ro tb rfl rfl rfl rfl (by first | assumption | exact zr (by simp)) (i := (a.mine.roads.l.getD k default).to.toNat) (by first | rfl | omega | (simp; omega)) (by omega) | exact yv_index tb rfl rfl rfl rfl (i := (a.mine.roads.l.getD k default).to.toNat) (by first | rfl | omega | (simp; omega)) (by omega)) rfl rfl rfl rfl) : B9 := h a
end
structure CheckOk (a : XAir) (s : XSetting) (b : XBounds) : Prop where
  h0 : airErr a = 0
  hf : fitB a s = true
  hl : b.low.l.length = a.mine.places.l.length
  hh : b.high.l.length = a.mine.places.l.length
  pl : PresOk b.low.l
  ph : PresOk b.high.l
theorem checkS_ok {a : XAir} {s : XSetting} {b : XBounds} {A : List Bool} (h : checkS a s b A = 0) : CheckOk a s b := by
  unfold checkS at h
  split at h
  · rename_i h1; exact absurd h h1
  rename_i h1
  split at h
  · cases h
  rename_i h2
  split at h
  · cases h
  rename_i h3
  split at h
  · cases h
  rename_i h4
  refine ⟨by omega, by simpa using h2, by omega, by omega, presOk_of ?_, presOk_of ?_⟩
  · cases e : b.low.l.findSome? presBad with
    | none => rfl
    | some x => exact absurd (.inl (by rw [e]; rfl)) h4
  · cases e : b.high.l.findSome? presBad with
    | none => rfl
    | some x => exact absurd (.inr (by rw [e]; rfl)) h4

theorem refBflow_tri (a : XAir) (s : XSetting) (b : XBounds) (A : List Bool) (L : List Blk) (R : List Sl) (hm : AirR a R) (hs : SetR s R) (hb : BoundsR b R) (hA : airErr a = 0 → AiryIs a.mine A) :
    Tri Try.prog 90 [a.val, s.val, b.val].toArray L R (fun v L' R' => ∃ p : OwL XSpan, v = p.val ∧ p.ok 2 XSpan.cells ∧ p.l = boundFlows a s b A ∧ p.L 59 XSpan.cells ++ L = L' ∧ R = R') := by
  have hmr := hm.roads
  have hbl := hb.low
  have hbh := hb.high
  refine tri_enter 84 Try.call90 Try.func90 rfl rfl rfl ?_
  refine qae ?_
  refine qax ?_
  intro b3
  refine qax ?_
  intro b4
  refine qax ?_
  intro b5
  refine qc4 ?_
  refine qaw ?_
  refine qa8 ?_
  refine qbe ?_
  refine qbe ?_
  refine q_l rfl (refCert_tri a s b A _ _ hm hs hb hA) ?_
  refine qbq ?_
  refine qaf ?_
  refine q_c (fun hc0 => ?_) (fun hc0 => ?_)
  ·
   refine qae ?_
   refine qc4 ?_
   refine qbh ?_
   refine q_r (L' := L) (R' := R) (res1 rfl (rv_tmp (show _ = Value.slice _ _ _ from rfl))) ?_
   exact ⟨OwL.nil, rfl, OwL.nil_ok, by rw [boundFlows, if_neg hc0], by rw [nil_L, List.nil_append], rfl⟩
  have hck : checkS a s b A = 0 := by omega
  have hC := checkS_ok hck
  have hok := airOk_of hC.h0
  have hfo := fitOk_of hC.hf
  have hAA := hA hC.h0
  have hnr := hok.mine.roads
  have hln := hC.hl
  have hhn := hC.hh
  refine qbv ?_
  refine qab ?_
  refine qbe ?_
  refine LJ_call rfl (airy_tri a.mine _ _ hm.mineR hok.mine) rfl ?_
  rintro v L' R' ⟨p, rfl, hpk, hA2, rfl, rfl⟩
  have hpA : p.l = A := hA2.unique hAA
  have hAl := hAA.length
  refine qc4 ?_
  refine qa4 ?_
  refine CJ_turn fun c w hst => ⟨_, _, hst.perm List.perm_append_comm, ?_⟩
  refine qay ?_
  refine qc4 ?_
  refine qaw ?_
  refine qad ?_
  refine qa2 ?_
  refine CJ_forget [(3, Value.pointer _), (4, Value.pointer _), (5, Value.pointer _), (7, Value.slice _ _ _), (8, Value.slice _ _ _), (9, Value.int _ _)] (by repeat' (first | exact trivial | refine And.intro rfl ?_)) fun tq0 => ?_
  refine CJ_loop [8, 9, 10, 11, 20, 21, 22, 23, 24, 25, 26, 27, 28, 29, 30, 31, 32, 33, 34, 35, 36, 37, 38, 39, 40, 41, 42, 43, 44, 45, 46, 47, 48, 49, 50, 51, 52, 53, 54, 55, 56, 57, 58, 59, 60, 61, 62, 63, 64, 65, 66, 67, 68, 69, 70, 71, 72, 73, 74, 75, 76, 77, 78, 79, 80, 81, 82] ((⟨fun q => [(9, .int .i64 ((q.1.1 : Nat) : Int)), (8, q.1.2.val)], fun q => q.1.2.L 59 XSpan.cells ++ (p.L 4 blc ++ (⟨b5, b.cells, 164⟩ :: ⟨b4, s.cells, 40⟩ :: ⟨b3, a.cells, 30⟩ :: L)), fun _ => R, fun q => a.mine.roads.l.length - q.1.1⟩ : Head {q : Nat × OwL XSpan // q.1 ≤ a.mine.roads.l.length ∧ q.2.ok 2 XSpan.cells ∧ q.2.l = (List.range q.1).map (roadFlow a s b A)})) (⟨(0, OwL.nil), by dsimp only; omega, OwL.nil_ok, rfl⟩) (by repeat' (first | exact trivial | refine And.intro rfl ?_)) (by dsimp only; rw [nil_L, List.nil_append]; exact List.Sublist.refl _) (allR_self _) ?_
  rintro ⟨⟨k, q⟩, w1, w2, w3⟩ junk
  try dsimp only
  dsimp only at w1 w2 w3
  refine qbi ?_
  refine qaa ?_
  refine qab ?_
  refine qab ?_
  refine qac ?_
  refine qag ?_
  refine qaj ?_
  refine qaf ?_
  refine q_c (fun hc1 => ?_) (fun hc1 => ?_)
  ·
   have hr := get_D (l := a.mine.roads.l) (k := k) default (by omega)
   have hro := hok.mine.road _ _ hr
   have hr1 := hro.fr
   have hr2 := hro.to
   have hql : q.l.length = k := by rw [w3]; simp
   have hpg : p.l[(a.mine.roads.l.getD k default).fr.toNat]? = some (A.getD (a.mine.roads.l.getD k default).fr.toNat false) := by rw [hpA]; exact get_D _ (by omega)
   have hpl : p.l.length = a.mine.places.l.length := by rw [hpA]; exact hAl
   have g1 := get_D (l := b.low.l) (k := (a.mine.roads.l.getD k default).fr.toNat) 0 (by omega)
   have g2 := get_D (l := b.low.l) (k := (a.mine.roads.l.getD k default).to.toNat) 0 (by omega)
   have g3 := get_D (l := b.high.l) (k := (a.mine.roads.l.getD k default).fr.toNat) 0 (by omega)
   have g4 := get_D (l := b.high.l) (k := (a.mine.roads.l.getD k default).to.toNat) 0 (by omega)
   have e1 := hC.pl.get (a.mine.roads.l.getD k default).fr.toNat
   have e2 := hC.pl.get (a.mine.roads.l.getD k default).to.toNat
   have e3 := hC.ph.get (a.mine.roads.l.getD k default).fr.toNat
   have e4 := hC.ph.get (a.mine.roads.l.getD k default).to.toNat
   refine qbb ?_
   refine qab ?_
   refine qab ?_
   refine qac ?_
   refine qaa ?_
   refine LJ_q (by first | exact yv_index_ro tb rfl rfl rfl rfl (by first | assumption | exact zr (by simp)) (i := k) (by first | rfl | omega | (simp; omega)) (by omega) | exact yv_index tb rfl rfl rfl rfl (i := k) (by first | rfl | omega | (simp; omega)) (by omega)) rfl ?_
   refine qc8 ?_
   refine qaq ?_
   intro b10
   refine qak ?_
   refine qam ?_
   refine qck ?_
   refine qaq ?_
   intro b11
   refine qak ?_
   refine qaw ?_
   refine qab ?_
   refine qac ?_
   refine qb4 ?_
   refine qaf ?_
   refine q_c (fun hc2 => ?_) (fun hc2 => ?_)
   ·
    refine qae ?_
    refine q_l rfl (nothing_tri _ _) ?_
    refine qak ?_
    refine qam ?_
    refine qbm ?_
    refine qab ?_
    refine qac ?_
    refine LJ_q (yv_index_ow tb (p) _ rfl rfl rfl rfl (by assumption) (i := (a.mine.roads.l.getD k default).fr.toNat) (by first | rfl | omega | (simp; omega)) (by first | omega | (dsimp only; omega) | (dsimp only; rw [List.length_set]; omega))) rfl ?_
    refine LJ_q (yv_load1_ow tb (p) rfl rfl rfl (by repeat (first | apply OSeg.cons | exact OSeg.here | exact OSeg.last | exact OSeg.at (by assumption) | apply OSeg.app)) (by assumption) (fun _ => rfl) (by assumption) (by rfl)) rfl ?_
    refine qaf ?_
    refine q_c (fun hc3 => ?_) (fun hc3 => ?_)
    ·
     have hrf : roadFlow a s b A k = ⟨flowLow (innerS a s k) (b.low.l.getD (a.mine.roads.l.getD k default).fr.toNat 0 - b.high.l.getD (a.mine.roads.l.getD k default).to.toNat 0), flowHigh (innerS a s k) (b.high.l.getD (a.mine.roads.l.getD k default).fr.toNat 0 - b.low.l.getD (a.mine.roads.l.getD k default).to.toNat 0)⟩ := by rw [roadFlow, if_neg (by simpa using hc2), if_pos (by simpa using hc3)]
     refine CJ_drawn2 tb [] [0, 1, 2, 3, 4, 5, 6, 7, 8, 9, 10, 11, 12, 13, 14, 15, 17, 18, 19, 20, 21, 22, 23, 24, 25, 26, 27, 28, 29, 30, 31, 32, 16, 33, 34] [35] ([Blk.mk b11 _ _, Blk.mk b10 _ _, Blk.mk b5 _ _, Blk.mk b4 _ _, Blk.mk b3 _ _]) _ mixed (by kernel_rfl) (by repeat (first | exact zs0 _ | exact zs1 _ | apply zs2 | apply zs3 | apply zs4 | apply zs5)) (by (repeat (first | apply List.Sublist.cons (a := Blk.mk b11 _ _) | apply List.Sublist.cons_cons)); exact List.Sublist.refl _) ?_
     refine qde ?_
     refine yawac ?_
     refine qbf ?_
     refine qan ?_
     refine qau ?_
     refine qan ?_
     refine qau ?_
     refine yawad ?_
     refine qci ?_
     refine qan ?_
     refine qau ?_
     refine qan ?_
     refine qau ?_
     refine yawae ?_
     refine qci ?_
     refine qcc ?_
     refine qde ?_
     refine yawac ?_
     refine qbf ?_
     refine qan ?_
     refine qau ?_
     refine qan ?_
     refine qau ?_
     refine yawad ?_
     refine qci ?_
     refine qan ?_
     refine qau ?_
     refine qan ?_
     refine qau ?_
     refine yawae ?_
     refine qci ?_
     refine qcc ?_
     refine DJ3_call rfl (lowest_tri a s _ _ _ _ hm hs hok hfo (by omega)) rfl rfl ?_
     rintro v L' R' ⟨rfl, rfl, rfl⟩
     refine qas ?_
     refine DJ3_call rfl (highest_tri a s _ _ _ _ hm hs hok hfo (by omega)) rfl rfl ?_
     rintro v L' R' ⟨rfl, rfl, rfl⟩
     refine qas ?_
     refine qcw ?_
     refine qba ?_
     refine qbg ?_
     refine DJ_nil (seqK_normal (CJ_region ?_))
     refine qbm ?_
     refine qbe ?_
     refine yawaa ?_
     rintro v L' R' ⟨b81, rfl, rfl, hR81⟩
     replace hR81 := hR81.symm; subst hR81
     refine yawab ?_
     rintro v L' R' ⟨o82, rfl, hok82, rfl, rfl⟩
     refine qc4 ?_
     refine qcs ?_
     refine qaa ?_
     refine qar ?_
     refine qad ?_
     refine qav ?_
     exact q_k ⟨(k + 1, (⟨o82, _⟩ : OwL XSpan)), by dsimp only; omega, hok82, by dsimp only; rw [List.range_succ, List.map_append, w3]; simp only [List.map_cons, List.map_nil, hrf]; try rfl⟩
    have hrf : roadFlow a s b A k = nothingS := by rw [roadFlow, if_neg (by simpa using hc2), if_neg (by simpa using hc3)]
    refine CJ_skip (seqK_normal (CJ_region ?_))
    refine qbm ?_
    refine qbe ?_
    refine yawaa ?_
    rintro v L' R' ⟨b81, rfl, rfl, hR81⟩
    replace hR81 := hR81.symm; subst hR81
    refine yawab ?_
    rintro v L' R' ⟨o82, rfl, hok82, rfl, rfl⟩
    refine qc4 ?_
    refine qcs ?_
    refine qaa ?_
    refine qar ?_
    refine qad ?_
    refine qav ?_
    exact q_k ⟨(k + 1, (⟨o82, _⟩ : OwL XSpan)), by dsimp only; omega, hok82, by dsimp only; rw [List.range_succ, List.map_append, w3]; simp only [List.map_cons, List.map_nil, hrf]; try rfl⟩
   have hrf : roadFlow a s b A k = ⟨0, 0⟩ := by rw [roadFlow, if_pos (by simpa using hc2)]
   refine CJ_skip (seqK_normal (CJ_region ?_))
   refine qbm ?_
   refine qbe ?_
   refine yawaa ?_
   rintro v L' R' ⟨b81, rfl, rfl, hR81⟩
   replace hR81 := hR81.symm; subst hR81
   refine yawab ?_
   rintro v L' R' ⟨o82, rfl, hok82, rfl, rfl⟩
   refine qc4 ?_
   refine qcs ?_
   refine qaa ?_
   refine qar ?_
   refine qad ?_
   refine qav ?_
   exact q_k ⟨(k + 1, (⟨o82, _⟩ : OwL XSpan)), by dsimp only; omega, hok82, by dsimp only; rw [List.range_succ, List.map_append, w3]; simp only [List.map_cons, List.map_nil, hrf]; try rfl⟩
  obtain rfl : k = a.mine.roads.l.length := by omega
  refine qbk ?_
  refine qbm ?_
  refine qc4 ?_
  refine qa0 ?_
  refine q_r (L' := q.L 59 XSpan.cells ++ L) (R' := R) (res1 rfl (rv_tmp (show _ = Value.slice _ _ _ from rfl))) ?_
  exact ⟨q, rfl, w2, by rw [boundFlows, if_pos hck]; exact w3, rfl, rfl⟩
end Go.Proofs.Ytlgjgigciapkfaa
end
section
/-
  Bounds that are accepted hold the state that fits: the law of comparison. By an AI agent; no person has read it.
-/
set_option linter.unusedSimpArgs false
set_option linter.unusedVariables false
namespace Go.Proofs.Ytlgjgigciapkfaa
open Go.Aw Go

theorem ex_max (p : Nat → Prop) (D : Nat → Int) : ∀ n : Nat, (∃ u, u < n ∧ p u) → ∃ u, u < n ∧ p u ∧ ∀ v, v < n → p v → D v ≤ D u
  | 0, h => by obtain ⟨u, hu, _⟩ := h; omega
  | n + 1, h => by
    by_cases hn : ∃ u, u < n ∧ p u
    · obtain ⟨u, h1, h2, h3⟩ := ex_max p D n hn
      by_cases hp : p n ∧ D u < D n
      · exact ⟨n, by omega, hp.1, fun v hv hpv => by
          rcases Nat.lt_or_ge v n with h | h
          · have := h3 v h hpv; omega
          · obtain rfl : v = n := by omega
            omega⟩
      · exact ⟨u, by omega, h2, fun v hv hpv => by
          rcases Nat.lt_or_ge v n with h | h
          · exact h3 v h hpv
          · obtain rfl : v = n := by omega
            exact Int.not_lt.1 fun e => hp ⟨hpv, e⟩⟩
    · obtain ⟨u, h1, h2⟩ := h
      obtain rfl : u = n := by
        rcases Nat.lt_or_ge u n with h | h
        · exact absurd ⟨u, h, h2⟩ hn
        · omega
      exact ⟨u, by omega, h2, fun v hv hpv => by
        rcases Nat.lt_or_ge v u with h | h
        · exact absurd ⟨v, h, hpv⟩ hn
        · obtain rfl : v = u := by omega
          exact Int.le_refl _⟩

structure Accept (a : XAir) (s : XSetting) (b : XBounds) (A : List Bool) : Prop where
  ck : CheckOk a s b
  fix : ∀ i : Nat, i < a.mine.places.l.length → (!(A.getD i false) || (a.mine.places.l.getD i default).surface) = true → b.low.l.getD i 0 = 0 ∧ b.high.l.getD i 0 = 0
  net : ∀ i : Nat, i < a.mine.places.l.length → ¬ (!(A.getD i false) || (a.mine.places.l.getD i default).surface) = true → 0 ≤ lowN a s b.high.l (i : Int) ∧ highN a s b.low.l (i : Int) ≤ 0
theorem checkS_right {a : XAir} {s : XSetting} {b : XBounds} {A : List Bool} (h : CheckOk a s b) : checkS a s b A = ((List.range a.mine.places.l.length).findSome? (nodeBad a s b A)).getD 0 := by
  have h1 := h.hl
  have h2 := h.hh
  rw [checkS, if_neg (by rw [h.h0]; decide), if_neg (by rw [h.hf]; decide), if_neg (by omega), if_neg (by rw [presOk_none h.pl, presOk_none h.ph]; simp)]
theorem nodeBad_cases (a : XAir) (s : XSetting) (b : XBounds) (A : List Bool) (i : Nat) : nodeBad a s b A i = none ∨ nodeBad a s b A i = some 12 := by
  unfold nodeBad
  split
  · split
    · exact .inr rfl
    · exact .inl rfl
  · split
    · exact .inr rfl
    · exact .inl rfl
theorem accept_iff {a : XAir} {s : XSetting} {b : XBounds} {A : List Bool} : checkS a s b A = 0 ↔ Accept a s b A := by
  have node : ∀ i, nodeBad a s b A i = none ↔ ((!(A.getD i false) || (a.mine.places.l.getD i default).surface) = true → b.low.l.getD i 0 = 0 ∧ b.high.l.getD i 0 = 0) ∧ (¬ (!(A.getD i false) || (a.mine.places.l.getD i default).surface) = true → 0 ≤ lowN a s b.high.l (i : Int) ∧ highN a s b.low.l (i : Int) ≤ 0) := fun i => by
    unfold nodeBad
    by_cases h1 : (!(A.getD i false) || (a.mine.places.l.getD i default).surface) = true
    · rw [if_pos h1]
      refine ⟨fun h => ⟨fun _ => ?_, fun h' => absurd h1 h'⟩, fun h => if_neg (by have := h.1 h1; omega)⟩
      split at h
      · cases h
      · omega
    · rw [if_neg h1]
      refine ⟨fun h => ⟨fun h' => absurd h' h1, fun _ => ?_⟩, fun h => if_neg (by have := h.2 h1; omega)⟩
      split at h
      · cases h
      · omega
  constructor
  · intro h
    have hC := checkS_ok h
    rw [checkS_right hC] at h
    have hn : (List.range a.mine.places.l.length).findSome? (nodeBad a s b A) = none := by
      cases e : (List.range a.mine.places.l.length).findSome? (nodeBad a s b A) with
      | none => rfl
      | some v =>
        obtain ⟨i, _, hi⟩ := List.exists_of_findSome?_eq_some e
        rcases nodeBad_cases a s b A i with h1 | h1
        · rw [h1] at hi; cases hi
        · rw [h1] at hi; cases hi; rw [e] at h; cases h
    rw [List.findSome?_eq_none_iff] at hn
    exact ⟨hC, fun i hi => ((node i).1 (hn i (List.mem_range.2 hi))).1, fun i hi => ((node i).1 (hn i (List.mem_range.2 hi))).2⟩
  · intro h
    rw [checkS_right h.ck, List.findSome?_eq_none_iff.2 (fun i hi => (node i).2 ⟨h.fix i (List.mem_range.1 hi), h.net i (List.mem_range.1 hi)⟩)]
    rfl

theorem FitsF.lessLow {a : XAir} {s : XSetting} {x : XState} (h : FitsF a s x) (ha : AirOk a) {i : Nat} (hi : i < a.mine.roads.l.length) (hc : (a.mine.roads.l.getD i default).closed = false) {d d' : Int}
    (hd : d = x.pres.l.getD (a.mine.roads.l.getD i default).fr.toNat 0 - x.pres.l.getD (a.mine.roads.l.getD i default).to.toNat 0) (hlt : d' < d) : flowLow (innerS a s i) d' < x.flows.l.getD i 0 := by
  have hf := h.fit hi hc
  rw [← hd] at hf
  have hr : (0 : Int) ≤ (i : Int) ∧ (i : Int) < a.mine.roads.l.length := by omega
  have hfl := h.flen
  have hq := h.flow _ (List.mem_of_getElem? (get_D (l := x.flows.l) (k := i) 0 (by omega)))
  have h1 := flowLow_is (s := s) ha hr d'
  generalize flowLow (innerS a s i) d' = l at *
  generalize x.flows.l.getD i 0 = q at *
  refine Int.not_le.1 fun hl => ?_
  have k1 := h1.le q (by omega) hl
  omega
theorem FitsF.lessHigh {a : XAir} {s : XSetting} {x : XState} (h : FitsF a s x) (ha : AirOk a) {i : Nat} (hi : i < a.mine.roads.l.length) (hc : (a.mine.roads.l.getD i default).closed = false) {d d' : Int}
    (hd : d = x.pres.l.getD (a.mine.roads.l.getD i default).fr.toNat 0 - x.pres.l.getD (a.mine.roads.l.getD i default).to.toNat 0) (hlt : d < d') : x.flows.l.getD i 0 < flowHigh (innerS a s i) d' := by
  have hf := h.fit hi hc
  rw [← hd] at hf
  have hr : (0 : Int) ≤ (i : Int) ∧ (i : Int) < a.mine.roads.l.length := by omega
  have hfl := h.flen
  have hq := h.flow _ (List.mem_of_getElem? (get_D (l := x.flows.l) (k := i) 0 (by omega)))
  have h1 := flowHigh_is (s := s) ha hr d'
  generalize flowHigh (innerS a s i) d' = l at *
  generalize x.flows.l.getD i 0 = q at *
  refine Int.not_le.1 fun hl => ?_
  have k1 := h1.ge q hl (by omega)
  omega

def outT (a : XAir) (fl : List Int) (v : Int) (k : Nat) : Int := if (a.mine.roads.l.getD k default).fr = v then fl.getD k 0 else if (a.mine.roads.l.getD k default).to = v then -(fl.getD k 0) else 0
def Joins (a : XAir) (u v k : Nat) : Prop := (a.mine.roads.l.getD k default).closed = false ∧ (((a.mine.roads.l.getD k default).fr = (u : Int) ∧ (a.mine.roads.l.getD k default).to = (v : Int)) ∨ ((a.mine.roads.l.getD k default).fr = (v : Int) ∧ (a.mine.roads.l.getD k default).to = (u : Int)))

theorem term_low {a : XAir} {s : XSetting} {x : XState} (h : FitsF a s x) (ha : AirOk a) {H : List Int} {u : Nat} {k : Nat} (hk : k < a.mine.roads.l.length)
    (hle : ∀ v, Joins a u v k → x.pres.l.getD v 0 - H.getD v 0 ≤ x.pres.l.getD u 0 - H.getD u 0) :
    termN flowLow flowHigh a s H u k ≤ outT a x.flows.l u k ∧ ((∃ v, Joins a u v k ∧ x.pres.l.getD v 0 - H.getD v 0 < x.pres.l.getD u 0 - H.getD u 0) → termN flowLow flowHigh a s H u k < outT a x.flows.l u k) := by
  have hro := ha.mine.road k _ (get_D default hk)
  have h1 := hro.fr
  have h2 := hro.to
  have h3 := hro.ne
  have hr : (0 : Int) ≤ (k : Int) ∧ (k : Int) < a.mine.roads.l.length := by omega
  rw [termN, outT]
  cases hc : (a.mine.roads.l.getD k default).closed with
  | true =>
    have h0 := h.shut hk hc
    rw [h0]
    simp only [if_true]
    refine ⟨by split; omega; split <;> omega, fun ⟨v, hv, _⟩ => ?_⟩
    rw [Joins, hc] at hv
    cases hv.1
  | false =>
    simp only [Bool.false_eq_true, if_false]
    have hi := h.inside ha hk hc (d := diffN a x.pres.l k) rfl
    by_cases hf : (a.mine.roads.l.getD k default).fr = (u : Int)
    · have hj : Joins a u (a.mine.roads.l.getD k default).to.toNat k := ⟨hc, .inl ⟨hf, by omega⟩⟩
      have hl := hle _ hj
      have eu : (a.mine.roads.l.getD k default).fr.toNat = u := by omega
      have e1 : diffN a x.pres.l k = x.pres.l.getD u 0 - x.pres.l.getD (a.mine.roads.l.getD k default).to.toNat 0 := by rw [diffN, eu]
      have e2 : diffN a H k = H.getD u 0 - H.getD (a.mine.roads.l.getD k default).to.toNat 0 := by rw [diffN, eu]
      have hm := flowLow_mono (s := s) ha hr (show diffN a H k ≤ diffN a x.pres.l k by omega)
      simp only [if_pos hf]
      refine ⟨by omega, fun ⟨v, hv, hlt⟩ => ?_⟩
      have ev : v = (a.mine.roads.l.getD k default).to.toNat := by
        rcases hv.2 with h4 | h4 <;> omega
      subst ev
      exact h.lessLow ha hk hc (d := diffN a x.pres.l k) rfl (by omega)
    · simp only [if_neg hf]
      by_cases ht : (a.mine.roads.l.getD k default).to = (u : Int)
      · have hj : Joins a u (a.mine.roads.l.getD k default).fr.toNat k := ⟨hc, .inr ⟨by omega, ht⟩⟩
        have hl := hle _ hj
        have eu : (a.mine.roads.l.getD k default).to.toNat = u := by omega
        have e1 : diffN a x.pres.l k = x.pres.l.getD (a.mine.roads.l.getD k default).fr.toNat 0 - x.pres.l.getD u 0 := by rw [diffN, eu]
        have e2 : diffN a H k = H.getD (a.mine.roads.l.getD k default).fr.toNat 0 - H.getD u 0 := by rw [diffN, eu]
        have hm := flowHigh_mono (s := s) ha hr (show diffN a x.pres.l k ≤ diffN a H k by omega)
        simp only [if_pos ht]
        refine ⟨by omega, fun ⟨v, hv, hlt⟩ => ?_⟩
        have ev : v = (a.mine.roads.l.getD k default).fr.toNat := by
          rcases hv.2 with h4 | h4 <;> omega
        subst ev
        have := h.lessHigh ha hk hc (d := diffN a x.pres.l k) rfl (show diffN a x.pres.l k < diffN a H k by omega)
        omega
      · simp only [if_neg ht]
        refine ⟨Int.le_refl _, fun ⟨v, hv, _⟩ => ?_⟩
        rcases hv.2 with h4 | h4
        · exact absurd h4.1 hf
        · exact absurd h4.2 ht
theorem term_high {a : XAir} {s : XSetting} {x : XState} (h : FitsF a s x) (ha : AirOk a) {H : List Int} {u : Nat} {k : Nat} (hk : k < a.mine.roads.l.length)
    (hle : ∀ v, Joins a u v k → x.pres.l.getD u 0 - H.getD u 0 ≤ x.pres.l.getD v 0 - H.getD v 0) :
    outT a x.flows.l u k ≤ termN flowHigh flowLow a s H u k ∧ ((∃ v, Joins a u v k ∧ x.pres.l.getD u 0 - H.getD u 0 < x.pres.l.getD v 0 - H.getD v 0) → outT a x.flows.l u k < termN flowHigh flowLow a s H u k) := by
  have hro := ha.mine.road k _ (get_D default hk)
  have h1 := hro.fr
  have h2 := hro.to
  have h3 := hro.ne
  have hr : (0 : Int) ≤ (k : Int) ∧ (k : Int) < a.mine.roads.l.length := by omega
  rw [termN, outT]
  cases hc : (a.mine.roads.l.getD k default).closed with
  | true =>
    have h0 := h.shut hk hc
    rw [h0]
    simp only [if_true]
    refine ⟨by split; omega; split <;> omega, fun ⟨v, hv, _⟩ => ?_⟩
    rw [Joins, hc] at hv
    cases hv.1
  | false =>
    simp only [Bool.false_eq_true, if_false]
    have hi := h.inside ha hk hc (d := diffN a x.pres.l k) rfl
    by_cases hf : (a.mine.roads.l.getD k default).fr = (u : Int)
    · have hj : Joins a u (a.mine.roads.l.getD k default).to.toNat k := ⟨hc, .inl ⟨hf, by omega⟩⟩
      have hl := hle _ hj
      have eu : (a.mine.roads.l.getD k default).fr.toNat = u := by omega
      have e1 : diffN a x.pres.l k = x.pres.l.getD u 0 - x.pres.l.getD (a.mine.roads.l.getD k default).to.toNat 0 := by rw [diffN, eu]
      have e2 : diffN a H k = H.getD u 0 - H.getD (a.mine.roads.l.getD k default).to.toNat 0 := by rw [diffN, eu]
      have hm := flowHigh_mono (s := s) ha hr (show diffN a x.pres.l k ≤ diffN a H k by omega)
      simp only [if_pos hf]
      refine ⟨by omega, fun ⟨v, hv, hlt⟩ => ?_⟩
      have ev : v = (a.mine.roads.l.getD k default).to.toNat := by
        rcases hv.2 with h4 | h4 <;> omega
      subst ev
      exact h.lessHigh ha hk hc (d := diffN a x.pres.l k) rfl (by omega)
    · simp only [if_neg hf]
      by_cases ht : (a.mine.roads.l.getD k default).to = (u : Int)
      · have hj : Joins a u (a.mine.roads.l.getD k default).fr.toNat k := ⟨hc, .inr ⟨by omega, ht⟩⟩
        have hl := hle _ hj
        have eu : (a.mine.roads.l.getD k default).to.toNat = u := by omega
        have e1 : diffN a x.pres.l k = x.pres.l.getD (a.mine.roads.l.getD k default).fr.toNat 0 - x.pres.l.getD u 0 := by rw [diffN, eu]
        have e2 : diffN a H k = H.getD (a.mine.roads.l.getD k default).fr.toNat 0 - H.getD u 0 := by rw [diffN, eu]
        have hm := flowLow_mono (s := s) ha hr (show diffN a H k ≤ diffN a x.pres.l k by omega)
        simp only [if_pos ht]
        refine ⟨by omega, fun ⟨v, hv, hlt⟩ => ?_⟩
        have ev : v = (a.mine.roads.l.getD k default).fr.toNat := by
          rcases hv.2 with h4 | h4 <;> omega
        subst ev
        have := h.lessLow ha hk hc (d := diffN a x.pres.l k) rfl (show diffN a H k < diffN a x.pres.l k by omega)
        omega
      · simp only [if_neg ht]
        refine ⟨Int.le_refl _, fun ⟨v, hv, _⟩ => ?_⟩
        rcases hv.2 with h4 | h4
        · exact absurd h4.1 hf
        · exact absurd h4.2 ht

theorem sum_low {a : XAir} {s : XSetting} {x : XState} (h : FitsF a s x) (ha : AirOk a) {H : List Int} {u : Nat}
    (hle : ∀ v k, k < a.mine.roads.l.length → Joins a u v k → x.pres.l.getD v 0 - H.getD v 0 ≤ x.pres.l.getD u 0 - H.getD u 0) :
    ∀ k, k ≤ a.mine.roads.l.length → sumN flowLow flowHigh a s H u k ≤ outTo a x.flows.l u k ∧ ((∃ j v, j < k ∧ Joins a u v j ∧ x.pres.l.getD v 0 - H.getD v 0 < x.pres.l.getD u 0 - H.getD u 0) → sumN flowLow flowHigh a s H u k < outTo a x.flows.l u k)
  | 0, _ => ⟨Int.le_refl _, fun ⟨_, _, h, _⟩ => by omega⟩
  | k + 1, hk => by
    have ih := sum_low h ha hle k (by omega)
    have it := term_low h ha (H := H) (u := u) (k := k) (by omega) (fun v hv => hle v k (by omega) hv)
    have e : outTo a x.flows.l u (k + 1) = outTo a x.flows.l u k + outT a x.flows.l u k := rfl
    rw [sumN, e]
    refine ⟨by omega, fun ⟨j, v, h1, h2, h3⟩ => ?_⟩
    rcases Nat.lt_or_ge j k with h4 | h4
    · have := ih.2 ⟨j, v, h4, h2, h3⟩
      omega
    · obtain rfl : j = k := by omega
      have := it.2 ⟨v, h2, h3⟩
      omega
theorem sum_high {a : XAir} {s : XSetting} {x : XState} (h : FitsF a s x) (ha : AirOk a) {H : List Int} {u : Nat}
    (hle : ∀ v k, k < a.mine.roads.l.length → Joins a u v k → x.pres.l.getD u 0 - H.getD u 0 ≤ x.pres.l.getD v 0 - H.getD v 0) :
    ∀ k, k ≤ a.mine.roads.l.length → outTo a x.flows.l u k ≤ sumN flowHigh flowLow a s H u k ∧ ((∃ j v, j < k ∧ Joins a u v j ∧ x.pres.l.getD u 0 - H.getD u 0 < x.pres.l.getD v 0 - H.getD v 0) → outTo a x.flows.l u k < sumN flowHigh flowLow a s H u k)
  | 0, _ => ⟨Int.le_refl _, fun ⟨_, _, h, _⟩ => by omega⟩
  | k + 1, hk => by
    have ih := sum_high h ha hle k (by omega)
    have it := term_high h ha (H := H) (u := u) (k := k) (by omega) (fun v hv => hle v k (by omega) hv)
    have e : outTo a x.flows.l u (k + 1) = outTo a x.flows.l u k + outT a x.flows.l u k := rfl
    rw [sumN, e]
    refine ⟨by omega, fun ⟨j, v, h1, h2, h3⟩ => ?_⟩
    rcases Nat.lt_or_ge j k with h4 | h4
    · have := ih.2 ⟨j, v, h4, h2, h3⟩
      omega
    · obtain rfl : j = k := by omega
      have := it.2 ⟨v, h2, h3⟩
      omega

theorem joins_step {a : XAir} {u v k : Nat} (hk : k < a.mine.roads.l.length) (h : Joins a u v k) : Step a.mine u v :=
  ⟨_, List.mem_of_getElem? (get_D default hk), h.1, h.2⟩
theorem step_joins {a : XAir} {u v : Nat} (h : Step a.mine u v) : ∃ k, k < a.mine.roads.l.length ∧ Joins a u v k := by
  obtain ⟨r, hr, hc, h1⟩ := h
  obtain ⟨k, hk⟩ := List.mem_iff_getElem?.1 hr
  have hl := (List.getElem?_eq_some_iff.1 hk).1
  have e : a.mine.roads.l.getD k default = r := getD_some hk
  exact ⟨k, hl, by rw [Joins, e]; exact ⟨hc, h1⟩⟩
theorem FitsF.surf {a : XAir} {s : XSetting} {x : XState} (h : FitsF a s x) {u : Nat} (hu : u < a.mine.places.l.length) (hs : (a.mine.places.l.getD u default).surface = true) : x.pres.l.getD u 0 = 0 := by
  have hp := h.place u hu
  unfold placeUnfit at hp
  split at hp
  · cases hp
  · rename_i hn
    rcases Int.decEq (x.pres.l.getD u 0) 0 with h0 | h0
    · exact absurd (.inl ⟨hs, h0⟩) hn
    · exact h0
theorem surf_getD (m : XMine) (i : Nat) (hi : i < m.places.l.length) : (surf m).getD i false = (m.places.l.getD i default).surface := by
  rw [surf, List.getD_eq_getElem?_getD, List.getElem?_map, get_D (l := m.places.l) (k := i) default hi]
  rfl
theorem surf_length (m : XMine) : (surf m).length = m.places.l.length := by simp [surf]
theorem AiryIs.step {m : XMine} {A : List Bool} (hA : AiryIs m A) (hm : MineOk m) {u v : Nat} (hu : A.getD u false = true) (h : Step m u v) : A.getD v false = true := by
  have hl := h.lt hm
  obtain ⟨j, h1, h2, h3⟩ := (hA.iff u (by rw [surf_length]; exact hl.1)).1 hu
  exact (hA.iff v (by rw [surf_length]; exact hl.2)).2 ⟨j, h1, h2, h3.tail h⟩

theorem comp_high {a : XAir} {s : XSetting} {x : XState} {A : List Bool} {H : List Int} (h : FitsF a s x) (ha : AirOk a) (hA : AiryIs a.mine A)
    (hfix : ∀ u : Nat, u < a.mine.places.l.length → (a.mine.places.l.getD u default).surface = true → H.getD u 0 = 0)
    (hnet : ∀ u : Nat, u < a.mine.places.l.length → A.getD u false = true → (a.mine.places.l.getD u default).surface = false → 0 ≤ lowN a s H (u : Int)) {u : Nat} (hu : u < a.mine.places.l.length) (hua : A.getD u false = true) :
    x.pres.l.getD u 0 ≤ H.getD u 0 := by
  refine Int.not_lt.1 fun hlt => ?_
  obtain ⟨w, w1, w2, w3⟩ := ex_max (fun v => A.getD v false = true) (fun v => x.pres.l.getD v 0 - H.getD v 0) a.mine.places.l.length ⟨u, hu, hua⟩
  have hpos : 0 < x.pres.l.getD w 0 - H.getD w 0 := by have := w3 u hu hua; omega
  obtain ⟨j, h1, h2, h3⟩ := (hA.iff w (by rw [surf_length]; exact w1)).1 w2
  rw [surf_length] at h1
  rw [surf_getD _ _ h1] at h2
  have key : j < a.mine.places.l.length ∧ A.getD j false = true ∧ x.pres.l.getD j 0 - H.getD j 0 = x.pres.l.getD w 0 - H.getD w 0 := by
    refine Conn.closed (P := fun v => v < a.mine.places.l.length ∧ A.getD v false = true ∧ x.pres.l.getD v 0 - H.getD v 0 = x.pres.l.getD w 0 - H.getD w 0) (fun y z hy hs => ?_) h3.symm ⟨w1, w2, rfl⟩
    obtain ⟨y1, y2, y3⟩ := hy
    have z1 := (hs.lt ha.mine).2
    have z2 := hA.step ha.mine y2 hs
    refine ⟨z1, z2, ?_⟩
    have zle := w3 z z1 z2
    rcases Int.lt_or_le (x.pres.l.getD z 0 - H.getD z 0) (x.pres.l.getD w 0 - H.getD w 0) with hz | hz
    · exfalso
      have hys : (a.mine.places.l.getD y default).surface = false := by
        cases e : (a.mine.places.l.getD y default).surface with
        | false => rfl
        | true =>
          have e1 := h.surf y1 e
          have e2 := hfix y y1 e
          omega
      have b1 := h.still ha y1 hys
      have b2 := hnet y y1 y2 hys
      obtain ⟨k, k1, k2⟩ := step_joins hs
      have b3 := (sum_low h ha (H := H) (u := y) (fun v i hi hv => by
        have sv := joins_step hi hv
        have := w3 v (sv.lt ha.mine).2 (hA.step ha.mine y2 sv)
        omega) _ (Nat.le_refl _)).2 ⟨k, z, k1, k2, by omega⟩
      rw [lowN] at b2
      omega
    · omega
  have e1 := h.surf h1 h2
  have e2 := hfix j h1 h2
  omega
theorem comp_low {a : XAir} {s : XSetting} {x : XState} {A : List Bool} {H : List Int} (h : FitsF a s x) (ha : AirOk a) (hA : AiryIs a.mine A)
    (hfix : ∀ u : Nat, u < a.mine.places.l.length → (a.mine.places.l.getD u default).surface = true → H.getD u 0 = 0)
    (hnet : ∀ u : Nat, u < a.mine.places.l.length → A.getD u false = true → (a.mine.places.l.getD u default).surface = false → highN a s H (u : Int) ≤ 0) {u : Nat} (hu : u < a.mine.places.l.length) (hua : A.getD u false = true) :
    H.getD u 0 ≤ x.pres.l.getD u 0 := by
  refine Int.not_lt.1 fun hlt => ?_
  obtain ⟨w, w1, w2, w3⟩ := ex_max (fun v => A.getD v false = true) (fun v => H.getD v 0 - x.pres.l.getD v 0) a.mine.places.l.length ⟨u, hu, hua⟩
  have hpos : 0 < H.getD w 0 - x.pres.l.getD w 0 := by have := w3 u hu hua; omega
  obtain ⟨j, h1, h2, h3⟩ := (hA.iff w (by rw [surf_length]; exact w1)).1 w2
  rw [surf_length] at h1
  rw [surf_getD _ _ h1] at h2
  have key : j < a.mine.places.l.length ∧ A.getD j false = true ∧ H.getD j 0 - x.pres.l.getD j 0 = H.getD w 0 - x.pres.l.getD w 0 := by
    refine Conn.closed (P := fun v => v < a.mine.places.l.length ∧ A.getD v false = true ∧ H.getD v 0 - x.pres.l.getD v 0 = H.getD w 0 - x.pres.l.getD w 0) (fun y z hy hs => ?_) h3.symm ⟨w1, w2, rfl⟩
    obtain ⟨y1, y2, y3⟩ := hy
    have z1 := (hs.lt ha.mine).2
    have z2 := hA.step ha.mine y2 hs
    refine ⟨z1, z2, ?_⟩
    have zle := w3 z z1 z2
    rcases Int.lt_or_le (H.getD z 0 - x.pres.l.getD z 0) (H.getD w 0 - x.pres.l.getD w 0) with hz | hz
    · exfalso
      have hys : (a.mine.places.l.getD y default).surface = false := by
        cases e : (a.mine.places.l.getD y default).surface with
        | false => rfl
        | true =>
          have e1 := h.surf y1 e
          have e2 := hfix y y1 e
          omega
      have b1 := h.still ha y1 hys
      have b2 := hnet y y1 y2 hys
      obtain ⟨k, k1, k2⟩ := step_joins hs
      have b3 := (sum_high h ha (H := H) (u := y) (fun v i hi hv => by
        have sv := joins_step hi hv
        have := w3 v (sv.lt ha.mine).2 (hA.step ha.mine y2 sv)
        omega) _ (Nat.le_refl _)).2 ⟨k, z, k1, k2, by omega⟩
      rw [highN] at b2
      omega
    · omega
  have e1 := h.surf h1 h2
  have e2 := hfix j h1 h2
  omega

theorem Accept.surf {a : XAir} {s : XSetting} {b : XBounds} {A : List Bool} (h : Accept a s b A) {u : Nat} (hu : u < a.mine.places.l.length) (hs : (a.mine.places.l.getD u default).surface = true) : b.low.l.getD u 0 = 0 ∧ b.high.l.getD u 0 = 0 :=
  h.fix u hu (by rw [hs]; simp)
theorem Accept.holds {a : XAir} {s : XSetting} {b : XBounds} {A : List Bool} {x : XState} (h : Accept a s b A) (hf : FitsF a s x) (hA : AiryIs a.mine A) {u : Nat} (hu : u < a.mine.places.l.length) (hua : A.getD u false = true) :
    b.low.l.getD u 0 ≤ x.pres.l.getD u 0 ∧ x.pres.l.getD u 0 ≤ b.high.l.getD u 0 :=
  ⟨comp_low hf (airOk_of h.ck.h0) hA (fun v hv hs => (h.surf hv hs).1) (fun v hv hva hs => (h.net v hv (by rw [hva, hs]; simp)).2) hu hua,
   comp_high hf (airOk_of h.ck.h0) hA (fun v hv hs => (h.surf hv hs).2) (fun v hv hva hs => (h.net v hv (by rw [hva, hs]; simp)).1) hu hua⟩
theorem Accept.flows {a : XAir} {s : XSetting} {b : XBounds} {A : List Bool} {x : XState} (h : Accept a s b A) (hf : FitsF a s x) (hA : AiryIs a.mine A) {k : Nat} (hk : k < a.mine.roads.l.length) :
    (roadFlow a s b A k).low ≤ x.flows.l.getD k 0 ∧ x.flows.l.getD k 0 ≤ (roadFlow a s b A k).high := by
  have ha := airOk_of h.ck.h0
  have hro := ha.mine.road k _ (get_D default hk)
  have h1 := hro.fr
  have h2 := hro.to
  have hr : (0 : Int) ≤ (k : Int) ∧ (k : Int) < a.mine.roads.l.length := by omega
  have hfl := hf.flen
  have hq := hf.flow _ (List.mem_of_getElem? (get_D (l := x.flows.l) (k := k) 0 (by omega)))
  rw [roadFlow]
  cases hc : (a.mine.roads.l.getD k default).closed with
  | true =>
    rw [if_pos rfl, hf.shut hk hc]
    exact ⟨Int.le_refl _, Int.le_refl _⟩
  | false =>
    rw [if_neg (by decide)]
    split
    · rename_i hv
      have hs : Step a.mine (a.mine.roads.l.getD k default).fr.toNat (a.mine.roads.l.getD k default).to.toNat := ⟨_, List.mem_of_getElem? (get_D default hk), hc, .inl ⟨by omega, by omega⟩⟩
      have b1 := h.holds hf hA (by omega) hv
      have b2 := h.holds hf hA (by omega) (hA.step ha.mine hv hs)
      have hi := hf.inside ha hk hc (d := diffN a x.pres.l k) rfl
      have e : diffN a x.pres.l k = x.pres.l.getD (a.mine.roads.l.getD k default).fr.toNat 0 - x.pres.l.getD (a.mine.roads.l.getD k default).to.toNat 0 := rfl
      have m1 := flowLow_mono (s := s) ha hr (show b.low.l.getD (a.mine.roads.l.getD k default).fr.toNat 0 - b.high.l.getD (a.mine.roads.l.getD k default).to.toNat 0 ≤ diffN a x.pres.l k by omega)
      have m2 := flowHigh_mono (s := s) ha hr (show diffN a x.pres.l k ≤ b.high.l.getD (a.mine.roads.l.getD k default).fr.toNat 0 - b.low.l.getD (a.mine.roads.l.getD k default).to.toNat 0 by omega)
      exact ⟨Int.le_trans m1 hi.1, Int.le_trans hi.2 m2⟩
    · rw [nothingS]
      dsimp only
      omega
end Go.Proofs.Ytlgjgigciapkfaa
end
