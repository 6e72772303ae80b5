/-
  Drawn sites. Plain. By an AI agent; no person has read it.
-/
import Derived.Test.YtkpfjmibipblhaaOneR
import Derived.Test.YtkpfjmibipblhaaCutA
set_option linter.unusedSimpArgs false
set_option linter.unusedVariables false
namespace Go.Proofs.Ytkpfjmibipblhaa
open Go.Aw Go
structure AirD (a : XAir) (s : XSetting) (x : XState) : Prop where
  err : airErr a = 0
  fit : fitB a s = true
  fits : fitsS a s x = 0
  nplaces : 1 ≤ a.mine.places.l.length ∧ a.mine.places.l.length ≤ 7
  nroads : 1 ≤ a.mine.roads.l.length ∧ a.mine.roads.l.length ≤ 9
  nfans : a.fans.l.length ≤ 2
  ndoors : a.doors.l.length ≤ 2
theorem AirD.flows {a : XAir} {s : XSetting} {x : XState} (h : AirD a s x) : FitsF a s x := fitsF_of h.err h.fit h.fits
theorem airD_of {a : XAir} {s : XSetting} {x : XState} (h : MadeA a s x) (hr : ¬ a.mine.roads.l.length = 0) : AirD a s x := by
  have h1 := h.nplaces
  have h2 := h.nroads
  exact ⟨h.err, h.fit, h.fits, by omega, by omega, h.nfans, h.ndoors⟩
theorem airD_one {a : XAir} {s : XSetting} {x : XState} {P : Arr XPlace} {Rd : Arr XRoad} {Pr Fl : Arr Int} (h : MadeA a s x) (hr : a.mine.roads.l.length = 0) (hP : P.l = a.mine.places.l ++ [⟨0, true⟩]) (hR : Rd.l = [oneRoad a.mine.places.l.length]) (hPr : Pr.l = x.pres.l ++ [0]) (hFl : Fl.l = [0]) :
    AirD ⟨⟨P, Rd⟩, a.fans, a.doors⟩ s ⟨Pr, Fl⟩ := by
  have h1 := h.nplaces
  refine ⟨oneR_err h hr hP hR, h.fit, oneR_fits h hr hP hR hPr hFl, ?_, ?_, h.nfans, h.ndoors⟩
  · dsimp only; rw [hP, List.length_append, List.length_singleton]; omega
  · dsimp only; rw [hR, List.length_singleton]; omega
structure SenK (a : XAir) (i : Nat) (t : XSens) : Prop where
  kind : 1 ≤ t.kind ∧ t.kind ≤ 6
  d : SensD t.kind (i : Int) t.target t
  target : 0 ≤ t.target ∧ t.target < sensOf a t
def SenL (a : XAir) (l : List XSens) : Prop := ∀ (i : Nat) (t : XSens), l[i]? = some t → SenK a i t
theorem SenL.snoc {a : XAir} {l : List XSens} (h : SenL a l) {t : XSens} (ht : SenK a l.length t) : SenL a (l ++ [t]) := fun i z hz => by
  rw [List.getElem?_append] at hz
  split at hz
  · exact h i z hz
  · rw [List.getElem?_singleton] at hz
    split at hz
    · cases hz
      rename_i h1 h2
      rw [show i = l.length by omega]
      exact ht
    · cases hz
structure RoadsA (n i : Nat) (l : List Int) : Prop where
  len : l.length ≤ i
  at_ : ∀ k : Nat, k < l.length → 0 ≤ l.getD k 0 ∧ l.getD k 0 < n ∧ l.getD k 0 < i
  up : ∀ k : Nat, k + 1 < l.length → l.getD k 0 < l.getD (k + 1) 0
theorem RoadsA.nil {n : Nat} : RoadsA n 0 [] := ⟨Nat.le_refl _, fun k hk => absurd hk (by simp), fun k hk => absurd hk (by simp)⟩
theorem RoadsA.stay {n i : Nat} {l : List Int} (h : RoadsA n i l) : RoadsA n (i + 1) l := ⟨by have := h.len; omega, fun k hk => by have := h.at_ k hk; omega, h.up⟩
theorem RoadsA.next {n i : Nat} {l : List Int} (h : RoadsA n i l) (hi : i < n) : RoadsA n (i + 1) (l ++ [(i : Int)]) := by
  have hl := h.len
  have e : ∀ k : Nat, k < l.length → (l ++ [(i : Int)]).getD k 0 = l.getD k 0 := fun k hk => by
    rw [List.getD_eq_getElem?_getD, List.getElem?_append_left hk, ← List.getD_eq_getElem?_getD]
  have e2 : (l ++ [(i : Int)]).getD l.length 0 = (i : Int) := by
    rw [List.getD_eq_getElem?_getD, List.getElem?_append_right (Nat.le_refl _), Nat.sub_self]; rfl
  refine ⟨by rw [List.length_append, List.length_singleton]; omega, fun k hk => ?_, fun k hk => ?_⟩
  · rw [List.length_append, List.length_singleton] at hk
    rcases Nat.lt_or_ge k l.length with h1 | h1
    · rw [e k h1]; have := h.at_ k h1; omega
    · obtain rfl : k = l.length := by omega
      rw [e2]; omega
  · rw [List.length_append, List.length_singleton] at hk
    rcases Nat.lt_or_ge (k + 1) l.length with h1 | h1
    · rw [e k (by omega), e _ h1]; exact h.up k h1
    · have hk2 : k + 1 = l.length := by omega
      rw [e k (by omega), hk2, e2]
      have := h.at_ k (by omega)
      omega
theorem RoadsA.good {n i : Nat} {l : List Int} (h : RoadsA n i l) (k : Nat) (hk : k < l.length) : ¬ roadBad n l k := by
  rw [roadBad]
  have h1 := h.at_ k hk
  rintro (h2 | ⟨h2, h3⟩)
  · exact h2 (by omega)
  · have := h.up (k - 1) (by omega)
    rw [show k - 1 + 1 = k by omega] at this
    omega
structure ZoneD (conds n : Nat) (z : XZone) : Prop where
  rule : RuleD conds 2 z.rule.l
  hold : 0 ≤ z.hold ∧ z.hold ≤ 8
  fresh : 0 ≤ z.fresh ∧ z.fresh ≤ 1
  roads : RoadsA n n z.roads.l
theorem ZoneD.err {conds n : Nat} {z : XZone} (h : ZoneD conds n z) : zoneErr conds n z = 0 := by
  have h1 := h.hold
  have h2 := h.fresh
  rw [zoneErr, if_neg (by rw [h.rule.err]; decide), if_neg (by omega), if_neg]
  rintro ⟨i, hi, hb⟩
  exact h.roads.good i hi hb
structure SiteD (s : XSite) (u : XSetting) (x : XState) : Prop where
  air : AirD s.air u x
  sens : SenL s.air s.sensors.l
  nsens : 1 ≤ s.sensors.l.length ∧ s.sensors.l.length ≤ 8
  cond : ∀ c ∈ s.conds.l, CondD s.sensors.l s.air.mine.roads.l.length c
  ncond : 1 ≤ s.conds.l.length ∧ s.conds.l.length ≤ 4
  zone : ∀ z ∈ s.zones.l, ZoneD s.conds.l.length s.air.mine.roads.l.length z
  nzone : 1 ≤ s.zones.l.length ∧ s.zones.l.length ≤ 3
  pers : s.persons.l = [1, 2, 1, 3]
theorem SensD.err {kind address target : Int} {t : XSens} (h : SensD kind address target t) (hk : 1 ≤ kind ∧ kind ≤ 6) (ha : 0 ≤ address ∧ address ≤ 255) (ht : 0 ≤ target) : sensErr t = 0 := by
  obtain ⟨h1, h2, h3, h4, h5, h6, h7, h8⟩ := h
  rw [sensErr, if_neg (by omega), if_pos (by rw [SensOk]; omega)]
theorem SiteD.ok {s : XSite} {u : XSetting} {x : XState} (h : SiteD s u x) : SiteOk s := by
  have h1 := h.nsens
  have h2 := h.ncond
  have h3 := h.nzone
  refine ⟨h.air.err, ⟨by omega, by omega, by omega, by rw [h.pers]; decide⟩, fun i hi => ?_, fun c hc => (h.cond c hc).err, fun z hz => (h.zone z hz).err, fun p hp => ?_⟩
  · have hs := h.sens i _ (get_D default hi)
    refine sensAt_none rfl (hs.d.err hs.kind (by omega) hs.target.1) hs.target fun k hk e => ?_
    have h5 := h.sens k _ (get_D (l := s.sensors.l) (k := k) default (by omega))
    have e1 := h5.d.address
    have e2 := hs.d.address
    omega
  · rw [h.pers] at hp
    simp only [List.mem_cons, List.not_mem_nil, or_false] at hp
    omega
end Go.Proofs.Ytkpfjmibipblhaa
