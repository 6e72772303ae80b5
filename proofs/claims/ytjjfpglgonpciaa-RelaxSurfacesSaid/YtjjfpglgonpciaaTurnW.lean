/-
  Statements about chapter 12: turned round. By an AI agent; no person has read it.
-/
import Derived.Test.YtjjfpglgonpciaaLaw12d
import Derived.Test.YtjjfpglgonpciaaTurn
set_option linter.unusedSimpArgs false
set_option linter.unusedVariables false
namespace Go.Proofs.Ytjjfpglgonpciaa
open Go.Aw Go
set_option maxRecDepth 20000
attribute [local irreducible] CJ LJ DJ Tri YV Gives seqK blockK loopK retK RV mergeK OwL.L

theorem refCopy_tri (m : XMine) (L : List Blk) (R : List Sl) (hm : MineR m R) (hok : MineOk m) :
    Tri Try.prog 33 [m.val].toArray L R (fun w L' R' => ∃ (p : OwL XPlace) (q : OwL XRoad), w = .agg #[p.val, q.val] ∧ (p.ok 2 XPlace.cells ∧ q.ok 10 XRoad.cells) ∧ p.l = m.places.l ∧ q.l = m.roads.l ∧ q.L 68 XRoad.cells ++ (p.L 46 XPlace.cells ++ L) = L' ∧ R = R') := by
  have hmp := hm.places
  have hmr := hm.roads
  have hnp := hok.places
  have hnr := hok.roads
  refine tri_enter 10 Try.call33 Try.func33 rfl rfl rfl ?_
  refine qae ?_
  refine qax ?_
  intro b1
  refine qaq ?_
  intro b2
  refine qa4 ?_
  refine CJ_drawn2 tb [6, 7] [0, 1, 3, 4] [2, 5, 6, 7] ([Blk.mk b1 _ _]) _ mixed (by kernel_rfl) (by repeat (first | exact zs0 _ | exact zs1 _ | apply zs2 | apply zs3 | apply zs4 | apply zs5)) (by (repeat (first | apply List.Sublist.cons (a := Blk.mk b2 _ _) | apply List.Sublist.cons_cons)); exact List.Sublist.refl _) ?_
  refine qan ?_
  refine qau ?_
  refine qcp ?_
  refine qcu ?_
  refine qba ?_
  refine DJ_g (gives_copy (f := XPlace.cells) (xs := m.places) tb rfl rfl rfl (by decide) rfl rfl (hmp) (fun _ => rfl) (by omega)) rfl rfl rfl ?_
  rintro v L' R' ⟨o5, rfl, hok5, rfl, rfl⟩
  refine qa1 ?_
  refine DJ_g (gives_copy (f := XRoad.cells) (xs := m.roads) tb rfl rfl rfl (by decide) rfl rfl (hmr) (fun _ => rfl) (by omega)) rfl rfl rfl ?_
  rintro v L' R' ⟨o8, rfl, hok8, rfl, rfl⟩
  refine qa1 ?_
  refine qdq ?_
  refine qbg ?_
  refine DJ_nil (seqK_normal (CJ_ret ?_))
  refine q_r (L' := (⟨o8, m.roads.l⟩ : OwL XRoad).L 68 XRoad.cells ++ ((⟨o5, m.places.l⟩ : OwL XPlace).L 46 XPlace.cells ++ L)) (R' := R) (res1 rfl (rv_cell (row := [_, _]) tb rfl rfl rfl (by repeat (first | exact zi0 | apply zi1 | apply zi2)) (by rfl) (by rfl))) ?_
  exact ⟨⟨o5, m.places.l⟩, ⟨o8, m.roads.l⟩, rfl, ⟨hok5, hok8⟩, rfl, rfl, rfl, rfl⟩

theorem relaxS_fail {a : XAir} {s : XSetting} {A : List Bool} {up : Bool} {ps : List Int} (h : (relaxS a s A up ps).1 ≠ 0) : (relaxS a s A up ps).2 = [] := by
  unfold relaxS at h ⊢
  split
  · rfl
  · rename_i h1
    rw [if_neg h1] at h
    split
    · rfl
    · rename_i l e; rw [e] at h; exact absurd rfl h
theorem relaxS_pres (a : XAir) (s : XSetting) (A : List Bool) (up : Bool) (ps : List Int) : PresOk (relaxS a s A up ps).2 := by
  rcases Int.decEq (relaxS a s A up ps).1 0 with h | h
  · rw [relaxS_fail h]; intro p hp; cases hp
  · exact (relaxS_len h).2

/-- turned up to element i -/
structure MapTo {α : Type} [Inhabited α] (f : α → α) (l0 : List α) (i : Nat) (l : List α) : Prop where
  len : l.length = l0.length
  get : ∀ j : Nat, j < l0.length → l.getD j default = if j < i then f (l0.getD j default) else l0.getD j default
theorem MapTo.zero {α : Type} [Inhabited α] {f : α → α} {l0 : List α} : MapTo f l0 0 l0 := ⟨rfl, fun j hj => by rw [if_neg (by omega)]⟩
theorem MapTo.next {α : Type} [Inhabited α] {f : α → α} {l0 l : List α} {i : Nat} (h : MapTo f l0 i l) (hi : i < l0.length) : MapTo f l0 (i + 1) (l.set i (f (l0.getD i default))) := by
  have hl := h.len
  refine ⟨by simp [hl], fun j hj => ?_⟩
  rw [List.getD_eq_getElem?_getD, List.getElem?_set]
  split
  · rename_i e
    subst e
    rw [if_pos (by omega), if_pos (by omega)]; rfl
  · rename_i e
    rw [← List.getD_eq_getElem?_getD, h.get j hj]
    by_cases h1 : j < i
    · rw [if_pos h1, if_pos (by omega)]
    · rw [if_neg h1, if_neg (by omega)]
structure NegTo (l0 : List Int) (i : Nat) (l : List Int) : Prop where
  len : l.length = l0.length
  get : ∀ j : Nat, j < i → l.getD j 0 = -(l0.getD j 0)
theorem NegTo.next {l0 l : List Int} {i : Nat} (h : NegTo l0 i l) (hi : i < l.length) : NegTo l0 (i + 1) (l.set i (-(l0.getD i 0))) := by
  refine ⟨by simp [h.len], fun j hj => ?_⟩
  rw [getD_setK hi]
  split
  · rename_i e; subst e; rfl
  · exact h.get j (by omega)
theorem NegTo.done {l0 l : List Int} (h : NegTo l0 l0.length l) : l = negL l0 := by
  have hl := h.len
  refine List.ext_getElem? fun j => ?_
  rcases Nat.lt_or_ge j l.length with hj | hj
  · rw [get_D (l := l) (k := j) 0 hj, h.get j (by omega), List.getElem?_map, get_D (l := l0) (k := j) 0 (by omega)]; rfl
  · rw [List.getElem?_eq_none hj, List.getElem?_eq_none (by simp; omega)]
theorem turned_of {a b : XAir} (h1 : b.mine.places.l = a.mine.places.l) (h2 : MapTo turnR a.mine.roads.l a.mine.roads.l.length b.mine.roads.l) (h3 : MapTo turnF a.fans.l a.fans.l.length b.fans.l) (h4 : b.doors.l = a.doors.l) : Turned a b :=
  ⟨h1, h2.len, fun k hk => by rw [h2.get k hk, if_pos hk], h3.len, fun k hk => by rw [h3.get k hk, if_pos hk], h4⟩
theorem Turned.airy {a b : XAir} {A : List Bool} (h : Turned a b) (hA : AiryIs a.mine A) : AiryIs b.mine A := by
  have es : surf b.mine = surf a.mine := by rw [surf, surf, h.places]
  have st : ∀ u v, Step b.mine u v ↔ Step a.mine u v := fun u v => by
    constructor
    · rintro ⟨r, hr, hc, h1⟩
      obtain ⟨k, hk⟩ := List.mem_iff_getElem?.1 hr
      have hkl := (List.getElem?_eq_some_iff.1 hk).1
      have hl := h.rlen
      have e : b.mine.roads.l.getD k default = r := getD_some hk
      rw [h.road k (by omega)] at e
      exact ⟨_, List.mem_of_getElem? (get_D (l := a.mine.roads.l) (k := k) default (by omega)), by rw [← e] at hc; exact hc, by rw [← e] at h1; exact h1⟩
    · rintro ⟨r, hr, hc, h1⟩
      obtain ⟨k, hk⟩ := List.mem_iff_getElem?.1 hr
      have hkl := (List.getElem?_eq_some_iff.1 hk).1
      have hl := h.rlen
      have e : a.mine.roads.l.getD k default = r := getD_some hk
      have e2 := h.road k hkl
      rw [e] at e2
      exact ⟨_, List.mem_of_getElem? (get_D (l := b.mine.roads.l) (k := k) default (by omega)), by rw [e2]; exact hc, by rw [e2]; exact h1⟩
  have cn : ∀ u v, Conn b.mine u v ↔ Conn a.mine u v := fun u v => by
    constructor
    · intro hc
      induction hc with
      | refl => exact .refl
      | tail _ hs ih => exact ih.tail ((st _ _).1 hs)
    · intro hc
      induction hc with
      | refl => exact .refl
      | tail _ hs ih => exact ih.tail ((st _ _).2 hs)
  refine ⟨by rw [es]; exact hA.len, fun i hi => ?_⟩
  rw [es] at hi ⊢
  rw [hA.iff i hi]
  exact ⟨fun ⟨j, j1, j2, j3⟩ => ⟨j, j1, j2, (cn _ _).2 j3⟩, fun ⟨j, j1, j2, j3⟩ => ⟨j, j1, j2, (cn _ _).1 j3⟩⟩
theorem mine_parts2 {m : XMine} (h : mineErr m = 0) : m.places.l.findSome? placeErr = none ∧ m.roads.l.findSome? (roadErr m.places.l.length) = none := by
  unfold mineErr at h
  split at h
  · cases h
  · split at h
    · rename_i e he
      obtain ⟨p, _, hp⟩ := List.exists_of_findSome?_eq_some he
      unfold placeErr at hp
      split at hp
      · cases hp; cases h
      · cases hp
    · rename_i he
      refine ⟨he, ?_⟩
      cases e : m.roads.l.findSome? (roadErr m.places.l.length) with
      | none => rfl
      | some v =>
        rw [e] at h
        obtain ⟨r, _, hr⟩ := List.exists_of_findSome?_eq_some e
        unfold roadErr at hr
        split at hr
        · cases hr; cases h
        · split at hr
          · cases hr; cases h
          · cases hr
theorem roadErr_turn {n : Nat} {r : XRoad} (h : roadErr n r = none) : roadErr n (turnR r) = none := by
  unfold roadErr at h
  split at h
  · cases h
  · rename_i g1
    split at h
    · cases h
    · rename_i g2
      have e2 : spanB r.lift (-2199023255552) 2199023255552 = true := by cases e : spanB r.lift (-2199023255552) 2199023255552 with | true => rfl | false => exact absurd (by simp [e]) g2
      rw [spanB_iff] at e2
      have f2 : spanB (turnR r).lift (-2199023255552) 2199023255552 = true := by rw [spanB_iff]; simp only [turnR]; omega
      unfold roadErr
      rw [if_neg (show ¬ ((turnR r).fr < 0 ∨ (n : Int) ≤ (turnR r).fr ∨ (turnR r).to < 0 ∨ (n : Int) ≤ (turnR r).to ∨ (turnR r).fr = (turnR r).to) from g1), if_neg ?_]
      rw [f2]
      intro hh
      apply g2
      rcases hh with h | h | h | h | h | h
      · exact .inl h
      · exact .inr (.inl h)
      · exact .inr (.inr (.inl h))
      · exact .inr (.inr (.inr (.inl h)))
      · exact .inr (.inr (.inr (.inr (.inl h))))
      · cases h
theorem fanOk_turn {f : XFan} (h : FanOk f) : FanOk (turnF f) := ⟨h.road, h.len1, h.len8, h.ok⟩
theorem Turned.err {a b : XAir} {s : XSetting} {x : XState} (h : Turned a b) (hM : MadeA a s x) : airErr b = 0 := by
  have hok := airOk_of hM.err
  obtain ⟨p1, p2⟩ := mine_parts2 (airErr_mine hM.err)
  have hrl := h.rlen
  have hfl := h.flen
  have hnp := hok.mine.places
  have hnr := hok.mine.roads
  have hm2 : mineErr b.mine = 0 := by
    have hl : ¬ (64 < b.mine.places.l.length ∨ 128 < b.mine.roads.l.length) := by rw [h.places]; omega
    unfold mineErr
    rw [if_neg hl, h.places, p1]
    dsimp only
    rw [List.findSome?_eq_none_iff.2 fun r hr => by
      obtain ⟨i, hi⟩ := List.mem_iff_getElem?.1 hr
      have hil := (List.getElem?_eq_some_iff.1 hi).1
      have e : b.mine.roads.l.getD i default = r := getD_some hi
      rw [← e, h.road i (by omega)]
      exact roadErr_turn (List.findSome?_eq_none_iff.1 p2 _ (List.mem_of_getElem? (get_D default (by omega))))]
    rfl
  refine airErr_zero hm2 (by rw [hfl]; exact hok.nfans) (fun f hf => ?_) (by rw [h.doors]; exact hok.ndoors) (fun d hd => ?_)
  · obtain ⟨i, hi⟩ := List.mem_iff_getElem?.1 hf
    have hil := (List.getElem?_eq_some_iff.1 hi).1
    have e : b.fans.l.getD i default = f := getD_some hi
    have e2 := h.fan i (by omega)
    rw [e] at e2
    have := hok.fan i _ (get_D default (by omega))
    rw [e2]
    exact ⟨fanOk_turn this.1, by rw [hrl]; exact this.2⟩
  · rw [h.doors] at hd
    obtain ⟨i, hi⟩ := List.mem_iff_getElem?.1 hd
    have := hok.door i d hi
    exact ⟨⟨this.1, (hM.rests d hd).other⟩, by rw [hrl]; exact this.2⟩
theorem Turned.fits {a b : XAir} {s : XSetting} (h : Turned a b) : fitB b s = fitB a s := by
  unfold fitB
  rw [h.flen, h.doors]
end Go.Proofs.Ytjjfpglgonpciaa
