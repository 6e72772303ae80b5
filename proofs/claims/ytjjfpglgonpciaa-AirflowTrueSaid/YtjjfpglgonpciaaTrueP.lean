/-
  True measurements contradict nothing, and leave the flows where they are. By an AI agent; no person has read it.
-/
import Derived.Test.YtjjfpglgonpciaaPlaceP
import Derived.Test.YtjjfpglgonpciaaNarrow
import Derived.Test.YtjjfpglgonpciaaFlowing
set_option linter.unusedSimpArgs false
set_option linter.unusedVariables false
namespace Go.Proofs.Ytjjfpglgonpciaa
open Go.Aw Go

/-- every flow lies in its span -/
def Holds13 (fl : List Int) (l : List XSpan) : Prop := ∀ k : Nat, k < fl.length → (l.getD k default).low ≤ fl.getD k 0 ∧ fl.getD k 0 ≤ (l.getD k default).high
theorem ana_holds {a : XAir} {s : XSetting} {x : XState} {A : List Bool} (h0 : airErr a = 0) (hf : fitB a s = true) (hA : AiryIs a.mine A) (hF : FitsF a s x) : Holds13 x.flows.l (anaS a s A).2 := fun k hk => by
  have hn := hF.flen
  have hk' : k < a.mine.roads.l.length := by omega
  have hg := get_D (l := x.flows.l) (k := k) 0 hk
  have hq := hF.flow _ (List.mem_of_getElem? hg)
  rcases (ana_ok h0 hf hA).2 with ⟨hac, hle, e⟩ | e
  · rw [e, List.getD_eq_getElem?_getD (l := (List.range a.mine.roads.l.length).map (roadFlow a s (foundB a s A) A)), List.getElem?_map, List.getElem?_range hk']
    exact hac.flows hF hA hk'
  · rw [e, List.getD_eq_getElem?_getD (l := (List.range a.mine.roads.l.length).map (blindF a)), List.getElem?_map, List.getElem?_range hk']
    show (blindF a k).low ≤ _ ∧ _ ≤ (blindF a k).high
    rw [blindF]
    split
    · rename_i hc
      rw [hF.shut hk' hc]; decide
    · simp only [nothingS]; omega
theorem at_holds {s : XSens} {m : XMeas} {t q : Int} (hk : s.kind = 3) (h : m.span.low ≤ q ∧ q ≤ m.span.high) (hq : -1048576 ≤ q ∧ q ≤ 1048576) : (atS s m t).low ≤ q ∧ q ≤ (atS s m t).high := by
  rw [atS]
  split
  · simp only [nothingS]; omega
  · rename_i hg
    have hb := more_bounds hg
    rw [if_neg (by omega), if_neg (by omega), wideS]
    dsimp only
    omega
structure TrueTo (fl : List Int) (l : List XSpan) (ns : Nat) (st : NarSt) : Prop where
  len : st.out.length = l.length
  at_ : ∀ j : Nat, j < fl.length → ((st.out.getD j default).low ≤ fl.getD j 0 ∧ fl.getD j 0 ≤ (st.out.getD j default).high) ∧ (l.getD j default).low ≤ (st.out.getD j default).low ∧ (st.out.getD j default).high ≤ (l.getD j default).high
  bad : st.bad = List.replicate ns false
theorem TrueTo.step {fl : List Int} {l : List XSpan} {S : List XSens} {st : NarSt} {x : XMeas} {t : Int} (h : TrueTo fl l S.length st) (hl : l.length = fl.length) (hS : SensL true fl.length S) (hx : MeasQ true fl S x) (hb : ∀ q ∈ fl, -1048576 ≤ q ∧ q ≤ 1048576) :
    TrueTo fl l S.length (narStep l.length 3 nothingS t S st x) := by
  rw [narStep]
  split
  · exact h
  · obtain ⟨hx1, hx2, hx3⟩ := hx
    obtain ⟨hs1, hs2, hs3⟩ := hx3 rfl
    have hg := get_D (l := S) (k := x.sensor.toNat) default (by omega)
    obtain ⟨s, hs⟩ : ∃ s, s = S.getD x.sensor.toNat default := ⟨_, rfl⟩
    have hsq := hS _ _ hg
    rw [← hs] at hs2 hs3 hsq
    obtain ⟨_, htg, hkd, _⟩ := hsq
    have hfg := get_D (l := fl) (k := s.target.toNat) 0 (by omega)
    have hqb := hb _ (List.mem_of_getElem? hfg)
    have ha := at_holds (t := t) (hkd rfl) ⟨hs2, hs3⟩ hqb
    have ho := h.at_ s.target.toNat (by omega)
    have hln := h.len
    have hnar : narAt st S t x = meet2 (st.out.getD s.target.toNat default) (atS s x t) := by rw [narAt, ← hs]
    rw [← hs, hnar]
    have hy : (meet2 (st.out.getD s.target.toNat default) (atS s x t)).low ≤ fl.getD s.target.toNat 0 ∧ fl.getD s.target.toNat 0 ≤ (meet2 (st.out.getD s.target.toNat default) (atS s x t)).high := by
      rw [meet2]; dsimp only; omega
    rw [if_pos (by omega)]
    refine ⟨by simp [hln], fun j hj => ?_, h.bad⟩
    dsimp only
    by_cases hjt : j = s.target.toNat
    · subst hjt
      have e : ((st.out.set s.target.toNat (meet2 (st.out.getD s.target.toNat default) (atS s x t))).getD s.target.toNat default) = meet2 (st.out.getD s.target.toNat default) (atS s x t) := by
        rw [List.getD_eq_getElem?_getD, List.getElem?_set_self (by omega)]; rfl
      rw [e]
      refine ⟨hy, ?_⟩
      rw [meet2]; dsimp only; omega
    · have e : ((st.out.set s.target.toNat (meet2 (st.out.getD s.target.toNat default) (atS s x t))).getD j default) = st.out.getD j default := by
        rw [List.getD_eq_getElem?_getD, List.getElem?_set_ne (fun h => hjt h.symm), ← List.getD_eq_getElem?_getD]
      rw [e]
      exact h.at_ j hj
theorem nar_true {fl : List Int} {l : List XSpan} {S : List XSens} {m : List XMeas} {t : Int} (hh : Holds13 fl l) (hl : l.length = fl.length) (hS : SensL true fl.length S) (hm : MeasL true fl S m) (hb : ∀ q ∈ fl, -1048576 ≤ q ∧ q ≤ 1048576) :
    ∀ k, k ≤ m.length → TrueTo fl l S.length (narTo l nothingS 3 S m t k)
  | 0, _ => ⟨rfl, fun j hj => ⟨hh j hj, Int.le_refl _, Int.le_refl _⟩, rfl⟩
  | k + 1, hk => by
    have hg := List.getElem?_eq_getElem (l := m) (i := k) (by omega)
    rw [narTo_succ hg]
    exact (nar_true hh hl hS hm hb k (by omega)).step hl hS (hm _ _ hg) hb
theorem wrong_none {n : Nat} : ∀ k, wrongS (List.replicate n false) k = []
  | 0 => rfl
  | k + 1 => by
    rw [wrongS_succ, wrong_none k, if_neg]
    rw [List.getD_eq_getElem?_getD, List.getElem?_replicate]
    split <;> decide
end Go.Proofs.Ytjjfpglgonpciaa
