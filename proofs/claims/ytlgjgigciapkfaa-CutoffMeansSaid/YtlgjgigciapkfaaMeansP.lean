import Derived.Test.YtlgjgigciapkfaaValueR
import Derived.Test.YtlgjgigciapkfaaOneR
import Derived.Test.YtlgjgigciapkfaaRule
import Derived.Test.YtlgjgigciapkfaaDraw13
import Derived.Test.YtlgjgigciapkfaaLaw10a
import Derived.Test.YtlgjgigciapkfaaLaw13a
section
/-
  The draws of the statements of chapter 20: what sensors said, watches. By an AI agent; no person has read it.
-/
set_option linter.unusedSimpArgs false
set_option linter.unusedVariables false
namespace Go.Proofs.Ytlgjgigciapkfaa
open Go.Aw Go
set_option maxRecDepth 20000
attribute [local irreducible] CJ LJ DJ Tri YV Gives seqK blockK loopK retK RV mergeK OwL.L
def WatD (w : XWatch) : Prop := w = ⟨true, -1, 0⟩ ∨ w = ⟨false, -1, 0⟩ ∨ ∃ r : Int, (0 ≤ r ∧ r ≤ 8) ∧ w = ⟨true, r, 9⟩
theorem WatD.ok {w : XWatch} (h : WatD w) : WatchOk w ∧ w.last ≤ 9 := by
  rcases h with rfl | rfl | ⟨r, hr, rfl⟩
  · exact ⟨by rw [WatchOk]; decide, by decide⟩
  · exact ⟨by rw [WatchOk]; decide, by decide⟩
  · exact ⟨by rw [WatchOk]; exact ⟨by dsimp only; omega, by dsimp only; omega, by dsimp only; omega, .inr rfl⟩, by dsimp only; omega⟩
theorem watched_tri (c : Nat) (x : Arr Int) (k : Nat) (s : XSite) (R : List Sl) (hx : CodesR x R) (hk : k ≤ x.l.length) (hn : s.conds.l.length ≤ 64) :
    Tri Try.prog 21 [.pointer (some ⟨c, 0, none⟩), s.val].toArray [cblk c x k] R
      (fun v L' R' => ∃ (p : OwL XWatch) (k' : Nat), v = p.val ∧ p.ok 3 XWatch.cells ∧ (p.l.length = s.conds.l.length ∧ ∀ w ∈ p.l, WatD w) ∧ k' ≤ x.l.length ∧ p.L 91 XWatch.cells ++ (cblk c x k' :: []) = L' ∧ R = R') := by
  refine tri_enter 30 Try.call21 Try.func21 rfl rfl rfl ?_
  refine qae ?_
  refine qax ?_
  intro b3
  refine qc4 ?_
  refine qam ?_
  refine qc4 ?_
  refine qaw ?_
  refine qab ?_
  refine qac ?_
  refine qag ?_
  refine qaa ?_
  refine qa2 ?_
  refine CJ_forget [(0, Value.pointer _), (5, Value.slice _ _ _), (9, Value.int _ _), (10, Value.int _ _)] (by repeat' (first | exact trivial | refine And.intro rfl ?_)) fun tq0 => ?_
  refine CJ_loop [5, 6, 10, 11, 12, 13, 14, 15, 16, 17, 18, 19, 20, 21, 22, 23, 24, 25, 26, 27, 28] ((⟨fun g => [(10, .int .i64 ((g.1.2.1 : Nat) : Int)), (5, g.1.2.2.val)], fun g => g.1.2.2.L 91 XWatch.cells ++ (⟨b3, s.cells, 36⟩ :: cblk c x g.1.1 :: []), fun _ => R, fun g => s.conds.l.length - g.1.2.1⟩ : Head {g : Nat × Nat × OwL XWatch // g.1 ≤ x.l.length ∧ g.2.1 ≤ s.conds.l.length ∧ g.2.2.ok 3 XWatch.cells ∧ g.2.2.l.length = g.2.1 ∧ ∀ w ∈ g.2.2.l, WatD w})) (⟨(k, 0, OwL.nil), hk, by dsimp only; omega, OwL.nil_ok, rfl, fun w hw => by cases hw⟩) (by repeat' (first | exact trivial | refine And.intro rfl ?_)) (by dsimp only; rw [nil_L, List.nil_append]; exact List.Sublist.refl _) (allR_self _) ?_
  rintro ⟨⟨kk, i, p⟩, hkk, hi, hpk, hpn, hW⟩ junk
  try dsimp only
  dsimp only at hkk hi hpk hpn hW
  refine qae ?_
  refine qaj ?_
  refine qa4 ?_
  refine q_c (fun hc0 => ?_) (fun hc0 => ?_)
  ·
   refine qbb ?_
   refine q_l rfl (refBegin_tri _ _) ?_
   refine qaq ?_
   intro b6
   refine qak ?_
   refine qaw ?_
   refine qa6 ?_
   refine LJ_call rfl (next1 (by repeat (first | apply USeg.here | apply USeg.cons | apply USeg.app)) hx hkk (by omega)) rfl ?_
   rintro v L' R' ⟨r1, k1, rfl, g1, g1', g1'', hk1, rfl, rfl⟩
   refine qaf ?_
   refine CJ_joinS [15, 16, 17, 18, 19, 20, 21, 22, 23] ((⟨fun _ => [], fun g => ⟨b6, XWatch.cells g.1.1, 91⟩ :: (p.L 91 XWatch.cells ++ (⟨b3, s.cells, 36⟩ :: cblk c x g.1.2 :: [])), fun _ => R, fun _ => 0⟩ : Head {g : XWatch × Nat // WatD g.1 ∧ g.2 ≤ x.l.length})) ?_ ?_
   ·
    refine CJ_block (CJ_seq (CJ_region ?_))
    refine qbn ?_
    refine qaz ?_
    refine qaf ?_
    refine q_c (fun hc1 => ?_) (fun hc1 => ?_)
    ·
     refine qay ?_
     refine qab ?_
     refine LJ_store1 (v := Value.bool _) tb rfl rfl rfl rfl (by repeat (first | apply zu0 | apply zu1 | apply zu2)) (by first | exact icell_fit (by omega) | rfl) (by first | exact icell_set | rfl) (by rfl) ?_
     refine LJ_nil (blockK_normal ?_)
     exact q_j ⟨(⟨false, -1, 0⟩, k1), .inr (.inl rfl), hk1⟩
    refine qae ?_
    refine qbn ?_
    refine qaz ?_
    refine qaf ?_
    refine q_c (fun hc2 => ?_) (fun hc2 => ?_)
    ·
     refine qay ?_
     refine qa6 ?_
     refine LJ_call rfl (next1 (by repeat (first | apply USeg.here | apply USeg.cons | apply USeg.app)) hx hk1 (by omega)) rfl ?_
     rintro v L' R' ⟨r2, k2, rfl, g2, g2', g2'', hk2, rfl, rfl⟩
     have g2q := g2' (by omega)
     refine qab ?_
     refine qcn ?_
     refine qab ?_
     refine qcn ?_
     refine LJ_nil (blockK_normal ?_)
     exact q_j ⟨(⟨true, r2, 9⟩, k2), .inr (.inr ⟨r2, by omega, rfl⟩), hk2⟩
    refine CJ_skip (blockK_normal ?_)
    exact q_j ⟨(⟨true, -1, 0⟩, k1), .inl rfl, hk1⟩
   rintro ⟨⟨w, k3⟩, hwD, hk3⟩ junk
   try dsimp only
   dsimp only at hwD hk3
   refine qay ?_
   refine qbm ?_
   refine LJ_q (yv_loadN (row := [_, _, _]) tb rfl rfl rfl (by repeat (first | exact zi0 | apply zi1 | apply zi2)) (by rfl) (by rfl)) rfl ?_
   refine LJ_g (gives_buildSlice (qs := [(0, (Value.agg _).cells.toList)]) (out := [_, _, _]) tb rfl rfl rfl rfl rfl rfl rfl) rfl ?_
   rintro v L' R' ⟨b26, rfl, rfl, hR26⟩
   replace hR26 := hR26.symm; subst hR26
   refine LJ_g (gives_append1 (f := XWatch.cells) (p := p) (a := w) tb rfl rfl rfl rfl (hpk) (by repeat (first | apply OSeg.cons | exact OSeg.here | exact OSeg.last | exact OSeg.at (by assumption) | apply OSeg.app)) (shown_own (by repeat (first | exact zi0 | apply zi1 | apply zi2)) rfl rfl) rfl (by first | omega | (simp only [List.length_cons, List.length_nil, List.length_append]; omega))) rfl ?_
   rintro v L' R' ⟨o27, rfl, hok27, rfl, rfl⟩
   refine qc4 ?_
   refine qcs ?_
   refine qar ?_
   refine qaa ?_
   refine qav ?_
   exact q_k ⟨(k3, i + 1, (⟨o27, _⟩ : OwL XWatch)), hk3, by dsimp only; omega, hok27, by dsimp only; simp only [List.length_append, List.length_cons, List.length_nil]; omega, fun y hy => by rcases List.mem_append.1 hy with h | h; exact hW y h; rw [List.mem_singleton.1 h]; exact hwD⟩
  obtain rfl : i = s.conds.l.length := by omega
  refine qbk ?_
  refine qbm ?_
  refine qc4 ?_
  refine qa0 ?_
  refine q_r (L' := p.L 91 XWatch.cells ++ (cblk c x kk :: [])) (R' := R) (res1 rfl (rv_tmp (show _ = Value.slice _ _ _ from rfl))) ?_
  exact ⟨p, kk, rfl, hpk, ⟨hpn, hW⟩, hkk, rfl, rfl⟩
end Go.Proofs.Ytlgjgigciapkfaa
end
section
/-
  Values of drawn measurements; cuts of own slices. By an AI agent; no person has read it.
-/
set_option linter.unusedSimpArgs false
set_option linter.unusedVariables false
namespace Go.Proofs.Ytlgjgigciapkfaa
open Go.Aw Go
section
variable {P : Program} {ρ : Operand → Value} {L : List Blk} {R : List Sl} {dst : Option Tmp} {ty : TypeId} {pos : String} {after : Array Edge} {guard : Option (Nat × Bool)} {T T2 : TypeId} {x y z : Operand} {a b c : Int} {k : IntKind}
end
set_option maxRecDepth 20000
attribute [local irreducible] CJ LJ DJ Tri YV Gives seqK blockK loopK retK RV mergeK OwL.L
theorem drawn_vals {s : XSite} {u : XSetting} {x : XState} (hD : SiteD s u x) {m : List XMeas} {w : List XWatch} {fl : List XSpan} {t : Int} (hm : m.length = s.sensors.l.length) (hw : w.length = s.conds.l.length ∧ ∀ y ∈ w, WatD y) (hf : fl.length = s.air.mine.roads.l.length) (ht : 9 ≤ t ∧ t ≤ 2147483648) : valuesErr s m w fl t = 0 := by
  rw [valuesErr_at hD.ok.err ⟨hm, hw.1, hf⟩ (by omega), findSome_no]
  · rfl
  · intro i hi
    rw [List.mem_range] at hi
    have hc := hD.ok.cond _ (List.mem_of_getElem? (get_D (l := s.conds.l) (k := i) default (by omega)))
    have hwi := (hw.2 _ (List.mem_of_getElem? (get_D (l := w) (k := i) default hi))).ok
    have h1 := condErr_facts hc
    rw [errF, valueE]
    split
    · rename_i hk
      rw [stepErr, if_neg (fun h => h (h1.2.2.1 hk)), if_neg (by omega), if_neg (fun h => h hwi.1)]; rfl
    · rfl
theorem valuesV_len {s : XSite} {m : List XMeas} {w : List XWatch} {fl : List XSpan} {t : Int} (h : valuesErr s m w fl t = 0) : (valuesV s m w fl t).length = w.length ∧ (valuesW s m w fl t).length = w.length ∧ (∀ i : Nat, i < w.length → (valuesV s m w fl t)[i]? = some (valF s m w fl t i)) ∧ ∀ i : Nat, i < w.length → (valuesW s m w fl t)[i]? = some (watF s m w t i) := by
  rw [valuesV, valuesW, if_neg (by omega), if_neg (by omega)]
  refine ⟨by simp, by simp, fun i hi => ?_, fun i hi => ?_⟩
  · rw [List.getElem?_map, List.getElem?_range hi]; rfl
  · rw [List.getElem?_map, List.getElem?_range hi]; rfl
end Go.Proofs.Ytlgjgigciapkfaa
end
section
/-
  What is known of the flows of a place below ground can be balanced. By an AI agent; no person has read it.
-/
set_option linter.unusedSimpArgs false
set_option linter.unusedVariables false
namespace Go.Proofs.Ytlgjgigciapkfaa
open Go.Aw Go

theorem ana_ok {a : XAir} {s : XSetting} {A : List Bool} (h0 : airErr a = 0) (hf : fitB a s = true) (hA : AiryIs a.mine A) :
    (anaS a s A).1 = 0 ∧ ((Accept a s (foundB a s A) A ∧ (∀ i : Nat, (foundB a s A).low.l.getD i 0 ≤ (foundB a s A).high.l.getD i 0) ∧ (anaS a s A).2 = (List.range a.mine.roads.l.length).map (roadFlow a s (foundB a s A) A)) ∨ (anaS a s A).2 = (List.range a.mine.roads.l.length).map (blindF a)) := by
  have hfn : ¬ fitB a s = false := by rw [hf]; decide
  rw [anaS, if_neg (by rw [h0]; decide), if_neg hfn]
  rcases solve_facts (A := A) h0 hf with h | h
  · have hac : Accept a s (foundB a s A) A := h.2.accept rfl rfl
    rw [if_pos h.1, boundFlows, if_pos (accept_iff.2 hac)]
    exact ⟨rfl, .inl ⟨hac, h.2.le, rfl⟩⟩
  · rw [if_neg (by rw [h]; decide)]
    exact ⟨rfl, .inr rfl⟩
theorem ana_len {a : XAir} {s : XSetting} {A : List Bool} (h0 : airErr a = 0) (hf : fitB a s = true) (hA : AiryIs a.mine A) : (anaS a s A).2.length = a.mine.roads.l.length := by
  rcases (ana_ok h0 hf hA).2 with ⟨_, _, e⟩ | e <;> rw [e] <;> simp
end Go.Proofs.Ytlgjgigciapkfaa
end
section
/-
  Sensors of flows and measurements of them that are drawn. By an AI agent; no person has read it.
-/
set_option linter.unusedSimpArgs false
set_option linter.unusedVariables false
namespace Go.Proofs.Ytlgjgigciapkfaa
open Go.Aw Go
set_option maxRecDepth 20000
attribute [local irreducible] CJ LJ DJ Tri YV Gives seqK blockK loopK retK RV mergeK OwL.L

end Go.Proofs.Ytlgjgigciapkfaa
end
section
/-
  True measurements contradict nothing, and leave the flows where they are. By an AI agent; no person has read it.
-/
set_option linter.unusedSimpArgs false
set_option linter.unusedVariables false
namespace Go.Proofs.Ytlgjgigciapkfaa
open Go.Aw Go

def Holds13 (fl : List Int) (l : List XSpan) : Prop := ∀ k : Nat, k < fl.length → (l.getD k default).low ≤ fl.getD k 0 ∧ fl.getD k 0 ≤ (l.getD k default).high
theorem ana_holds {a : XAir} {s : XSetting} {x : XState} {A : List Bool} (h0 : airErr a = 0) (hf : fitB a s = true) (hA : AiryIs a.mine A) (hF : FitsF a s x) : Holds13 x.flows.l (anaS a s A).2 := fun k hk => by
  have hn := hF.flen
  have hk' : k < a.mine.roads.l.length := by omega
  have hg := get_D (l := x.flows.l) (k := k) 0 hk
  have hq := hF.flow _ (List.mem_of_getElem? hg)
  rcases (ana_ok h0 hf hA).2 with ⟨hac, hle, e⟩ | e
  · rw [e, List.getD_eq_getElem?_getD (l := (List.range a.mine.roads.l.length).map (roadFlow a s (foundB a s A) A)), List.getElem?_map, List.getElem?_range hk']
    exact hac.flows hF hA hk'
  · rw [e, List.getD_eq_getElem?_getD (l := (List.range a.mine.roads.l.length).map (blindF a)), List.getElem?_map, List.getElem?_range hk']
    show (blindF a k).low ≤ _ ∧ _ ≤ (blindF a k).high
    rw [blindF]
    split
    · rename_i hc
      rw [hF.shut hk' hc]; decide
    · simp only [nothingS]; omega
end Go.Proofs.Ytlgjgigciapkfaa
end
section
/-
  What conditions say of a true state. Plain, and values of own watches. By an AI agent; no person has read it.
-/
set_option linter.unusedSimpArgs false
set_option linter.unusedVariables false
namespace Go.Proofs.Ytlgjgigciapkfaa
open Go.Aw Go
def TruQ (fl : List Int) (x : XSens) (q : Int) : Prop := (-1048576 ≤ q ∧ q ≤ 1048576) ∧ (x.kind ≠ 3 → 0 ≤ q) ∧ (x.kind = 3 → q = fl.getD x.target.toNat 0)
def TruM (q : Int) (i : Nat) (m : XMeas) : Prop := m.sensor = (i : Int) ∧ m.time = 5 ∧ (q - 4 ≤ m.span.low ∧ m.span.low ≤ q) ∧ q ≤ m.span.high ∧ m.span.high ≤ q + 4
structure TruTo (S : List XSens) (fl tr : List Int) (n : Nat) (l : List XMeas) : Prop where
  len : l.length = n
  at_ : ∀ i : Nat, i < n → TruQ fl (S.getD i default) (tr.getD i 0) ∧ TruM (tr.getD i 0) i (l.getD i default)
theorem TruTo.next {S : List XSens} {fl tr tr' : List Int} {n : Nat} {l : List XMeas} (h : TruTo S fl tr n l) {m : XMeas} {q : Int} (htr : tr' = tr.set n q) (hn : n < tr.length) (hq : TruQ fl (S.getD n default) q) (hm : TruM q n m) : TruTo S fl tr' (n + 1) (l ++ [m]) := by
  have hl := h.len
  subst htr
  refine ⟨by simp [hl], fun i hi => ?_⟩
  rcases Nat.lt_or_ge i n with h1 | h1
  · rw [List.getD_eq_getElem?_getD (l := l ++ [m]), List.getElem?_append_left (by omega), ← List.getD_eq_getElem?_getD]
    rw [show (tr.set n q).getD i 0 = tr.getD i 0 by rw [List.getD_eq_getElem?_getD, List.getElem?_set_ne (by omega), ← List.getD_eq_getElem?_getD]]
    exact h.at_ i h1
  · obtain rfl : i = n := by omega
    rw [List.getD_eq_getElem?_getD (l := l ++ [m]), List.getElem?_append_right (by omega), hl, Nat.sub_self]
    rw [show (tr.set i q).getD i 0 = q by rw [List.getD_eq_getElem?_getD, List.getElem?_set_self hn]; rfl]
    exact ⟨hq, hm⟩
theorem TruTo.ok {S : List XSens} {fl tr : List Int} {n : Nat} {l : List XMeas} (h : TruTo S fl tr n l) : ∀ m ∈ l, MeasOk m := fun m hm => by
  obtain ⟨i, hi, rfl⟩ := List.mem_iff_getElem.1 hm
  obtain ⟨⟨h1, _, _⟩, h2, h3, h4, h5, h6⟩ := h.at_ i (by rw [← h.len]; exact hi)
  rw [List.getD_eq_getElem?_getD (l := l), List.getElem?_eq_getElem hi, Option.getD_some] at h2 h3 h4 h5 h6
  rw [MeasOk, h3]
  omega
theorem at_holds2 {s : XSens} {m : XMeas} {t q : Int} (h : m.span.low ≤ q ∧ q ≤ m.span.high) (hq : -1048576 ≤ q ∧ q ≤ 1048576) (hk : s.kind ≠ 3 → 0 ≤ q) : (atS s m t).low ≤ q ∧ q ≤ (atS s m t).high := by
  rw [atS]
  split
  · simp only [nothingS]; omega
  · rename_i hg
    have hb := more_bounds hg
    split
    · exact h
    · split
      · rw [wideS]; dsimp only
        have := hk (by omega)
        omega
      · rw [wideS]; dsimp only; omega
theorem TruTo.known {S : List XSens} {fl tr : List Int} {l : List XMeas} (h : TruTo S fl tr S.length l) {n t : Int} (hn : 0 ≤ n ∧ n < S.length) : (knownS S l n t).low ≤ tr.getD n.toNat 0 ∧ tr.getD n.toNat 0 ≤ (knownS S l n t).high := by
  obtain ⟨⟨h1, h2, _⟩, h3, h4, h5, h6, h7⟩ := h.at_ n.toNat (by omega)
  have hl := h.len
  rw [knownS, if_pos ⟨hn, by omega, by omega⟩]
  exact at_holds2 ⟨h5.2, h6⟩ h1 h2
theorem means_val {S : List XSens} {fl tr : List Int} {l : List XMeas} {sp : List XSpan} {c : XCond} {w : XWatch} {t : Int} {n : Nat} (h : TruTo S fl tr S.length l) (hsp : Holds13 fl sp) (hn : fl.length = n) (hc : condErr S n c = 0) :
    (c.kind = 2 → (valueV S l sp c w t = -1 → ¬ tr.getD c.target.toNat 0 < c.value) ∧ (valueV S l sp c w t = 1 → tr.getD c.target.toNat 0 < c.value)) ∧
    (c.kind = 3 → (valueV S l sp c w t = -1 → tr.getD c.target.toNat 0 = 1) ∧ (valueV S l sp c w t = 1 → ¬ tr.getD c.target.toNat 0 = 1)) ∧
    (c.kind = 5 → (valueV S l sp c w t = -1 → ¬ max (fl.getD c.target.toNat 0) (-(fl.getD c.target.toNat 0)) < c.value) ∧ (valueV S l sp c w t = 1 → max (fl.getD c.target.toNat 0) (-(fl.getD c.target.toNat 0)) < c.value)) ∧
    (c.kind = 1 → (valueV S l sp c w t = -1 → tr.getD c.target.toNat 0 < c.level.cut) ∧ (valueV S l sp c w t = 1 → c.level.cut ≤ tr.getD c.target.toNat 0)) := by
  have hf := condErr_facts hc
  have hkn : c.kind ≠ 5 → (knownS S l c.target t).low ≤ tr.getD c.target.toNat 0 ∧ tr.getD c.target.toNat 0 ≤ (knownS S l c.target t).high := fun hk => h.known (hf.2.2.2.2.1 hk)
  refine ⟨fun hk => ?_, fun hk => ?_, fun hk => ?_, fun hk => ?_⟩
  · have hb := hkn (by omega)
    rw [valueV, if_neg (by omega), if_pos hk, aboveS]
    (repeat' split) <;> omega
  · have hb := hkn (by omega)
    rw [valueV, if_neg (by omega), if_neg (by omega), if_pos hk, stoppedS]
    (repeat' split) <;> omega
  · have ht := hf.2.2.2.1 hk
    have hb := hsp c.target.toNat (by omega)
    rw [valueV, if_pos hk, fedAt]
    split
    · dsimp only
      rw [fedS]
      (repeat' split) <;> omega
    · omega
  · have hb := hkn (by omega)
    rw [valueV, if_neg (by omega), if_neg (by omega), if_neg (by omega), if_neg (by omega), stepTo]
    have ha : aboveS (knownS S l c.target t) c.level.cut = -1 → tr.getD c.target.toNat 0 < c.level.cut := by rw [aboveS]; (repeat' split) <;> omega
    have ha2 : aboveS (knownS S l c.target t) c.level.cut = 1 → c.level.cut ≤ tr.getD c.target.toNat 0 := by rw [aboveS]; (repeat' split) <;> omega
    by_cases hx : aboveS (knownS S l c.target t) c.level.cut = -1
    · refine ⟨fun _ => ha hx, fun h1 => ?_⟩
      (repeat' split at h1) <;> (first | (exfalso; omega) | exact ha2 (by omega))
    · rw [if_pos (show aboveS (knownS S l c.target t) c.level.cut ≠ -1 from hx), if_neg (by show ¬ (true = false); decide)]
      constructor
      · intro h1; split at h1 <;> omega
      · intro h1
        split at h1
        · rename_i h2; exact ha2 h2
        · omega
set_option maxRecDepth 20000
attribute [local irreducible] CJ LJ DJ Tri YV Gives seqK blockK loopK retK RV mergeK OwL.L
theorem values_own {A : List Blk} {R : List Sl} {s : XSite} {m : Arr XMeas} {w : OwL XWatch} {fl : Arr XSpan} {t : Int} (hs : SiteR s R) (hm : InR (mesl m) R) (hw : InB (w.L 91 XWatch.cells) A) (okw : w.ok 3 XWatch.cells) (hfl : InR (spsl fl) R) (hok : ∀ x ∈ m.l, MeasOk x) :
    Tri Try.prog 26 [s.val, m.val, w.val, fl.val, .int .i64 t].toArray A R
      (fun v L' R' => ∃ (p : OwL Int) (q : OwL XWatch), v = .tuple #[p.val, q.val, .int .i64 (valuesErr s m.l w.l fl.l t)] ∧ (p.ok 1 icell ∧ q.ok 3 XWatch.cells) ∧ p.l = valuesV s m.l w.l fl.l t ∧ q.l = valuesW s m.l w.l fl.l t ∧ A ++ (p.L 3 icell ++ (q.L 91 XWatch.cells ++ [])) = L' ∧ R = R') := by
  refine (Tri.lend (S := [wasl w.arr]) (Post := fun v L' => ∃ (p : OwL Int) (q : OwL XWatch), v = .tuple #[p.val, q.val, .int .i64 (valuesErr s m.l w.l fl.l t)] ∧ (p.ok 1 icell ∧ q.ok 3 XWatch.cells) ∧ p.l = valuesV s m.l w.l fl.l t ∧ q.l = valuesW s m.l w.l fl.l t ∧ p.L 3 icell ++ (q.L 91 XWatch.cells ++ []) = L') (Spl.rest (L := A)) (fun w G hh s hs => ?_) ((values_tri s m w.arr fl t [] _ ⟨hs.mono fun r h => inR_self (.tail _ h), hm.mono fun r h => inR_self (.tail _ h), inR_self (.head _), hfl.mono fun r h => inR_self (.tail _ h), hok⟩).mono fun z L' R' h => ?_)).mono fun z L' R' h => ?_
  · rw [List.mem_singleton.1 hs]
    exact lend_rep hh hw okw (fun _ => rfl) (by decide) (fun s hs => by cases hs)
  · obtain ⟨p2, q2, h1, h2, h3, h4, h5, h6⟩ := h
    exact ⟨⟨p2, q2, h1, h2, h3, h4, h5⟩, h6⟩
  · obtain ⟨L1, rfl, ⟨p2, q2, h1, h2, h3, h4, rfl⟩, h6⟩ := h
    exact ⟨p2, q2, h1, h2, h3, h4, rfl, h6⟩
end Go.Proofs.Ytlgjgigciapkfaa
end
