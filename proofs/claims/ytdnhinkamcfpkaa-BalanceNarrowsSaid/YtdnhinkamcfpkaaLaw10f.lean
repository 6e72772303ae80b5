/-
  Statements about chapter 10: what is known no worse. By an AI agent; no person has read it.
-/
import Derived.Test.YtdnhinkamcfpkaaLaw10a
set_option linter.unusedSimpArgs false
set_option linter.unusedVariables false
namespace Go.Proofs.Ytdnhinkamcfpkaa
open Go.Aw Go
set_option maxRecDepth 20000
attribute [local irreducible] CJ LJ DJ Tri YV Gives seqK blockK loopK retK RV mergeK OwL.L

/-- a road of which less is known -/
def widen (by_ : Int) (r : XRoad) : XRoad := { r with rest := ⟨max 1 (r.rest.low - by_.tmod 3), r.rest.high + by_.tmod 5⟩, lift := ⟨r.lift.low - by_, r.lift.high + by_.tmod 7⟩ }
theorem tmod_b {x n : Int} (hx : 0 ≤ x) (hn : 0 < n) : 0 ≤ x.tmod n ∧ x.tmod n < n := by
  rw [Int.tmod_eq_emod_of_nonneg hx]
  exact ⟨Int.emod_nonneg _ (by omega), Int.emod_lt_of_pos _ hn⟩
structure WideTo (rl0 : List XRoad) (by_ : Int) (i : Nat) (rl : List XRoad) : Prop where
  len : rl.length = rl0.length
  get : ∀ (j : Nat) (r : XRoad), rl0[j]? = some r → rl[j]? = some (if j < i then widen by_ r else r)
theorem WideTo.next {rl0 rl : List XRoad} {by_ : Int} {i : Nat} (h : WideTo rl0 by_ i rl) {r : XRoad} (hr : rl0[i]? = some r) : WideTo rl0 by_ (i + 1) (rl.set i (widen by_ r)) := by
  have hi := (List.getElem?_eq_some_iff.1 hr).1
  have hl := h.len
  refine ⟨by simp [hl], fun j q hq => ?_⟩
  rw [List.getElem?_set]
  split
  · rename_i e
    subst e
    rw [hr] at hq
    cases hq
    rw [if_pos (by omega), if_pos (by omega)]
  · rename_i e
    rw [h.get j q hq]
    by_cases hj : j < i
    · rw [if_pos hj, if_pos (by omega)]
    · rw [if_neg hj, if_neg (by omega)]

theorem mine_parts {m : XMine} (h : mineErr m = 0) : m.places.l.findSome? placeErr = none ∧ m.roads.l.findSome? (roadErr m.places.l.length) = none := by
  unfold mineErr at h
  split at h
  · cases h
  · split at h
    · rename_i e he
      obtain ⟨p, _, hp⟩ := List.exists_of_findSome?_eq_some he
      unfold placeErr at hp
      split at hp
      · cases hp; cases h
      · cases hp
    · rename_i he
      refine ⟨he, ?_⟩
      cases e : m.roads.l.findSome? (roadErr m.places.l.length) with
      | none => rfl
      | some v =>
        rw [e] at h
        obtain ⟨r, _, hr⟩ := List.exists_of_findSome?_eq_some e
        unfold roadErr at hr
        split at hr
        · cases hr; cases h
        · split at hr
          · cases hr; cases h
          · cases hr
theorem air_mine {a : XAir} (h : airErr a = 0) : mineErr a.mine = 0 := by
  unfold airErr at h
  split at h
  · rename_i h1; exact absurd h h1
  · rename_i h1; simpa using h1
theorem widen_err {n : Nat} {r : XRoad} {by_ : Int} (h : roadErr n r = none) (hb : 0 ≤ by_ ∧ by_ ≤ 255) (hs : (-1000000000 ≤ r.lift.low ∧ r.lift.high ≤ 1000000000) ∧ r.rest.high ≤ 22) : roadErr n (widen by_ r) = none := by
  have h3 := tmod_b hb.1 (show (0 : Int) < 3 by decide)
  have h5 := tmod_b hb.1 (show (0 : Int) < 5 by decide)
  have h7 := tmod_b hb.1 (show (0 : Int) < 7 by decide)
  unfold roadErr at h
  split at h
  · cases h
  · rename_i g1
    split at h
    · cases h
    · rename_i g2
      have e1 : spanB r.rest 1 262144 = true := by cases e : spanB r.rest 1 262144 with | true => rfl | false => exact absurd (by simp [e]) g2
      have e2 : spanB r.lift (-2199023255552) 2199023255552 = true := by cases e : spanB r.lift (-2199023255552) 2199023255552 with | true => rfl | false => exact absurd (by simp [e]) g2
      rw [spanB_iff] at e1 e2
      have f1 : spanB (widen by_ r).rest 1 262144 = true := by rw [spanB_iff]; simp only [widen]; omega
      have f2 : spanB (widen by_ r).lift (-2199023255552) 2199023255552 = true := by rw [spanB_iff]; simp only [widen]; omega
      unfold roadErr
      rw [if_neg (show ¬ ((widen by_ r).fr < 0 ∨ (n : Int) ≤ (widen by_ r).fr ∨ (widen by_ r).to < 0 ∨ (n : Int) ≤ (widen by_ r).to ∨ (widen by_ r).fr = (widen by_ r).to) from g1), if_neg ?_]
      rw [f1, f2]
      intro hh
      apply g2
      rcases hh with h | h | h | h | h | h
      · exact .inl h
      · exact .inr (.inl h)
      · exact .inr (.inr (.inl h))
      · exact .inr (.inr (.inr (.inl h)))
      · cases h
      · cases h

structure WideF (a b : XAir) (s : XSetting) (ps : List Int) (v : Int) : Prop where
  right : rightB b s = true
  low : lowN b s ps v ≤ lowN a s ps v
  high : highN a s ps v ≤ highN b s ps v
theorem wideF {a : XAir} {s : XSetting} {x : XState} (h : MadeA a s x) {by_ : Int} (hb : 0 ≤ by_ ∧ by_ ≤ 255) {y : Arr XRoad} (hy : WideTo a.mine.roads.l by_ a.mine.roads.l.length y.l) (ps : List Int) (v : Int) :
    WideF a ⟨⟨a.mine.places, y⟩, a.fans, a.doors⟩ s ps v := by
  have hok := airOk_of h.err
  obtain ⟨p1, p2⟩ := mine_parts (air_mine h.err)
  have hln := hy.len
  have hget : ∀ k : Nat, k < a.mine.roads.l.length → y.l.getD k default = widen by_ (a.mine.roads.l.getD k default) := fun k hk => by
    have := hy.get k _ (get_D default hk)
    rw [if_pos hk] at this
    exact getD_some this
  have hmem : ∀ r ∈ y.l, ∃ (i : Nat) (q : XRoad), a.mine.roads.l[i]? = some q ∧ r = widen by_ q := fun r hr => by
    obtain ⟨i, hi⟩ := List.mem_iff_getElem?.1 hr
    have hil := (List.getElem?_eq_some_iff.1 hi).1
    have := hy.get i _ (get_D default (by omega))
    rw [if_pos (by omega), hi] at this
    exact ⟨i, _, get_D default (by omega), Option.some.inj this⟩
  have hm2 : mineErr ⟨a.mine.places, y⟩ = 0 := by
    have hl : ¬ (64 < a.mine.places.l.length ∨ 128 < y.l.length) := by have := hok.mine.places; have := hok.mine.roads; omega
    unfold mineErr
    rw [if_neg hl]
    dsimp only
    rw [p1]
    dsimp only
    rw [List.findSome?_eq_none_iff.2 fun r hr => by
      obtain ⟨i, q, hq, rfl⟩ := hmem r hr
      exact widen_err (List.findSome?_eq_none_iff.1 p2 q (List.mem_of_getElem? hq)) hb (h.small i q hq)]
    rfl
  have he : airErr ⟨⟨a.mine.places, y⟩, a.fans, a.doors⟩ = 0 := airErr_zero hm2 hok.nfans (fun f hf => by
    obtain ⟨i, hi⟩ := List.mem_iff_getElem?.1 hf
    have := hok.fan i f hi
    exact ⟨this.1, by show f.road < y.l.length; omega⟩) hok.ndoors (fun d hd => by
    obtain ⟨i, hi⟩ := List.mem_iff_getElem?.1 hd
    have := hok.door i d hi
    exact ⟨⟨this.1, (h.rests d hd).other⟩, by show d.road < y.l.length; omega⟩)
  have hfb : fitB ⟨⟨a.mine.places, y⟩, a.fans, a.doors⟩ s = true := h.fit
  have hb2 := airOk_of he
  have h3 := tmod_b hb.1 (show (0 : Int) < 3 by decide)
  have h5 := tmod_b hb.1 (show (0 : Int) < 5 by decide)
  have h7 := tmod_b hb.1 (show (0 : Int) < 7 by decide)
  have wi : ∀ (k : Nat) (q : Int), k < a.mine.roads.l.length → Within (innerS a s k q) (innerS ⟨⟨a.mine.places, y⟩, a.fans, a.doors⟩ s k q) := fun k q hk => by
    have hro := hok.mine.road k _ (get_D default hk)
    have hrr := hro.rest
    refine innerS_within rfl rfl ?_ ?_ (fun _ _ => Within.refl _) (fun _ _ => Within.refl _)
    · rw [Int.toNat_natCast, hget k hk]
      exact ⟨by simp only [widen]; omega, by simp only [widen]; omega⟩
    · rw [Int.toNat_natCast, hget k hk]
      exact ⟨by simp only [widen]; omega, by simp only [widen]; omega⟩
  have same : ∀ k, k < a.mine.roads.l.length → (a.mine.roads.l.getD k default).closed = (y.l.getD k default).closed ∧ (a.mine.roads.l.getD k default).fr = (y.l.getD k default).fr ∧ (a.mine.roads.l.getD k default).to = (y.l.getD k default).to := fun k hk => by
    rw [hget k hk]; exact ⟨rfl, rfl, rfl⟩
  have fl : ∀ k : Nat, k < a.mine.roads.l.length → ∀ p, flowLow (innerS ⟨⟨a.mine.places, y⟩, a.fans, a.doors⟩ s k) p ≤ flowLow (innerS a s k) p := fun k hk p =>
    low_within (fun q _ _ => (wi k q hk).hi) (flowLow_is hok (by omega) p) (flowLow_is hb2 (by show (0 : Int) ≤ k ∧ (k : Int) < y.l.length; omega) p)
  have fh : ∀ k : Nat, k < a.mine.roads.l.length → ∀ p, flowHigh (innerS a s k) p ≤ flowHigh (innerS ⟨⟨a.mine.places, y⟩, a.fans, a.doors⟩ s k) p := fun k hk p =>
    high_within (fun q _ _ => (wi k q hk).lo) (flowHigh_is hok (by omega) p) (flowHigh_is hb2 (by show (0 : Int) ≤ k ∧ (k : Int) < y.l.length; omega) p)
  refine ⟨rightB_true he hfb, ?_, ?_⟩
  · unfold lowN
    show sumN _ _ _ s ps v y.l.length ≤ _
    rw [hln]
    exact sumN_le _ same fl fh _ (Nat.le_refl _)
  · unfold highN
    show _ ≤ sumN _ _ _ s ps v y.l.length
    rw [hln]
    exact sumN_le _ (fun k hk => by obtain ⟨e1, e2, e3⟩ := same k hk; exact ⟨e1.symm, e2.symm, e3.symm⟩) fh fl _ (Nat.le_refl _)

theorem balanceNarrows_law (y : Arr Int) (place by_ : Int) (R : List Sl) (hy : CodesR y R) (h1 : I64 place) (h3 : 0 ≤ by_ ∧ by_ ≤ 255) :
    Tri Try.prog 7 [y.val, .int .i64 place, .int .u8 by_].toArray [] R (fun v L' R' => v = .bool true ∧ [] = L' ∧ R = R') := by
  have hb3 := tmod_b h3.1 (show (0 : Int) < 3 by decide)
  have hb5 := tmod_b h3.1 (show (0 : Int) < 5 by decide)
  have hb7 := tmod_b h3.1 (show (0 : Int) < 7 by decide)
  refine tri_enter 144 Try.call7 Try.func7 rfl rfl rfl ?_
  refine qae ?_
  refine qaz ?_
  refine qam ?_
  refine qbm ?_
  refine LJ_call rfl (new_tri y _ _ hy) rfl ?_
  rintro v L' R' ⟨c, rfl, hx, rfl, rfl⟩
  refine qc1 ?_
  refine qam ?_
  refine qa6 ?_
  refine LJ_call rfl (made1 (.consL .nil) hx (Nat.zero_le _)) rfl ?_
  rintro v L' R' ⟨m, k1, S, rfl, hm, hMA, hif, hid, hk1, rfl, rfl⟩
  simp only [List.append_assoc, List.cons_append, List.nil_append]
  refine LJ_q (yv_move rfl) rfl ?_
  refine qbs ?_
  refine qbs ?_
  refine qbs ?_
  refine qaq ?_
  intro b8
  refine qaq ?_
  intro b9
  refine qaq ?_
  intro b10
  refine qak ?_
  refine qak ?_
  refine qak ?_
  refine qa4 ?_
  refine CJ_made (A := []) hm hMA (fun f hf => (hif f hf).mono fun r hr => inR_self (by simp [hr])) (fun f hf => (hid f hf).mono fun r hr => inR_self (by simp [hr])) fun a s x R1 hMA hA hT hX hR1 => ?_
  refine qb1 ?_
  obtain ⟨_, hae, hff, hri, hfo⟩ := hMA.b
  have hx1 : CodesR (codes300 y) R1 := hx.mono fun r hr => hR1 r (by simp [hr])
  have hnp := hMA.nplaces
  have hR0 : ∀ r ∈ R, InR r R1 := fun r hr => hR1 r (by simp [hr])
  refine qay ?_
  refine qa6 ?_
  refine qa8 ?_
  refine qbe ?_
  refine LJ_call rfl (around1 (.consB (.consB (.consB (.consL .nil)))) hx1 hk1 hA hX hMA) rfl ?_
  rintro v L' R' ⟨l, k2, rfl, hl, hal, hk2, rfl, rfl⟩
  simp only [List.append_assoc, List.cons_append, List.nil_append]
  refine qc4 ?_
  refine qa4 ?_
  refine CJ_frz1 (A := [_, _, _]) (wd := 1) [] (fun _ => rfl) (by decide) hl (fun s hs => by cases hs) ?_
  refine qb1 ?_
  have hllen := hal.len
  have hla : l.arr.l.length = l.l.length := rfl
  have hR2 : ∀ r ∈ R1, InR r (isl l.arr :: R1) := fun r hr => inR_self (.tail _ hr)
  have hA2 := airR_mono hA hR2
  have hT2 := setR_mono hT hR2
  have hX2 := stateR_mono hX hR2
  have hl2 : InR (isl l.arr) (isl l.arr :: R1) := inR_self (.head _)
  have hnr := hMA.nroads
  have hro := hA2.roads
  refine qay ?_
  refine qaa ?_
  refine qbm ?_
  refine qag ?_
  refine q_l rfl (mod_tri _ _ _ _ h1 (by omega)) ?_
  refine qad ?_
  refine qa4 ?_
  have hkb := modS_bounds (k := place) (n := (l.l.length : Int)) (by omega)
  obtain ⟨k, hk⟩ : ∃ k, k = modS place (l.l.length : Int) := ⟨_, rfl⟩
  rw [← hk] at hkb ⊢
  refine CJ_drawn tb [0, 1, 2, 3, 4, 5, 8, 9, 10, 11, 6, 7, 12, 13, 14] ([Blk.mk b8 _ _]) mixed (by kernel_rfl) (by repeat (first | exact zs0 _ | exact zs1 _ | apply zs2 | apply zs3 | apply zs4 | apply zs5)) ?_
  refine qal ?_
  refine qal ?_
  refine qat ?_
  refine qal ?_
  refine qal ?_
  refine qat ?_
  refine qal ?_
  refine qat ?_
  refine qal ?_
  refine qat ?_
  refine DJ_g (gives_copy (f := XRoad.cells) (xs := a.mine.roads) tb rfl rfl rfl (by decide) rfl rfl (hro) (fun _ => rfl) (by omega)) rfl rfl rfl ?_
  rintro v L' R' ⟨o40, rfl, hok40, rfl, rfl⟩
  refine qa1 ?_
  refine qdq ?_
  refine DJ_q (yv_build (qs := [(0, (Value.agg _).cells.toList), (1, (Value.slice _ _ _).cells.toList), (2, (Value.slice _ _ _).cells.toList)]) (out := [_, _, _, _]) tb rfl rfl rfl rfl) rfl rfl rfl ?_
  refine qbr ?_
  intro b13
  refine qbg ?_
  refine qc6 ?_
  refine qab ?_
  refine qab ?_
  refine qac ?_
  refine qag ?_
  refine qaa ?_
  refine qa2 ?_
  refine CJ_forget [(2, Value.int _ _), (8, Value.pointer _), (9, Value.pointer _), (11, Value.slice _ _ _), (12, Value.int _ _), (13, Value.pointer _), (50, Value.int _ _), (51, Value.int _ _)] (by repeat' (first | exact trivial | refine And.intro rfl ?_)) fun tq0 => ?_
  refine q_p [14, 15, 51, 52, 53, 54, 55, 56, 57, 58, 59, 60, 61, 62, 63, 64, 65, 66, 67, 68, 69, 70, 71, 72, 73, 74, 75, 76, 77, 78, 79, 80, 81, 82, 83, 84, 85, 86, 87, 88, 89, 90, 91, 92, 93, 94, 95, 96, 97, 98, 99, 100, 101, 102, 103, 104, 105, 106, 107, 108, 109, 110, 111] ((⟨fun q => [(51, .int .i64 ((q.1.1 : Nat) : Int))], fun q => ⟨b13, [a.mine.places.val, (⟨o40, a.mine.roads.l⟩ : OwL XRoad).val, a.fans.val, a.doors.val], 33⟩ :: ((⟨o40, q.1.2⟩ : OwL XRoad).L 59 XRoad.cells ++ (⟨b10, x.cells, 37⟩ :: ⟨b9, s.cells, 35⟩ :: ⟨b8, a.cells, 33⟩ :: [])), fun _ => isl l.arr :: R1, fun q => a.mine.roads.l.length - q.1.1⟩ : Head {q : Nat × List XRoad // q.1 ≤ a.mine.roads.l.length ∧ (⟨o40, q.2⟩ : OwL XRoad).ok 10 XRoad.cells ∧ WideTo a.mine.roads.l by_ q.1 q.2})) (⟨(0, a.mine.roads.l), by dsimp only; omega, hok40, ⟨rfl, fun j r hr => by rw [if_neg (by omega)]; exact hr⟩⟩) ?_
  rintro ⟨⟨i, rl⟩, q1, q2, q3⟩ junk
  try dsimp only
  dsimp only at q1 q2 q3
  have q4 := q3.len
  refine qae ?_
  refine qaj ?_
  refine qa4 ?_
  refine q_c (fun hc0 => ?_) (fun hc0 => ?_)
  ·
   have hr0 := get_D (l := a.mine.roads.l) (k := i) default (by omega)
   have hri0 := q3.get i _ hr0
   rw [if_neg (by omega)] at hri0
   have hsm := hMA.small i _ hr0
   have hrk := hae.mine.road i _ hr0
   have hrr := hrk.rest
   have hrl := hrk.lift
   obtain ⟨r, hrr0⟩ : ∃ r, r = a.mine.roads.l.getD i default := ⟨_, rfl⟩
   rw [← hrr0] at hr0 hri0 hsm hrk hrr hrl
   have hnx := q3.next hr0
   refine qbb ?_
   refine qaa ?_
   refine qad ?_
   refine qam ?_
   refine qab ?_
   refine qab ?_
   refine qac ?_
   refine qaa ?_
   refine LJ_q (yv_index_ow tb ((⟨o40, rl⟩ : OwL XRoad)) _ rfl rfl ((show _ = Value.slice _ _ _ from rfl).trans (by simp only [OwL.val, q4])) rfl (by assumption) (i := i) (by first | rfl | omega | (simp; omega)) (by first | omega | (dsimp only; omega) | (dsimp only; rw [List.length_set]; omega))) rfl ?_
   refine qc1 ?_
   refine qa4 ?_
   refine CJ_drawn2 tb [60, 76, 77, 78, 79] [0, 1, 2, 3, 4, 5, 6, 7, 8, 9, 10, 11, 12, 13, 14, 15, 16, 17, 18, 19, 20, 21, 22, 23] [24, 25, 26, 27, 28] (((⟨o40, rl⟩ : OwL XRoad).L 59 XRoad.cells ++ [])) _ mixed (by kernel_rfl) (by repeat (first | exact zs0 _ | exact zs1 _ | apply zs2 | apply zs3 | apply zs4 | apply zs5)) (List.nil_sublist _) ?_
   refine qb3 ?_
   refine DJ3_ql (yv_move (show _ = Value.pointer _ from rfl)) rfl rfl rfl rfl ?_
   refine qb3 ?_
   refine DJ3_q (yv_nilCheck rfl) rfl rfl rfl rfl ?_
   refine qcv ?_
   refine qcv ?_
   refine DJ3_q (yv_load1_ow tb ((⟨o40, rl⟩ : OwL XRoad)) rfl rfl rfl (by repeat (first | apply OSeg.cons | exact OSeg.here | exact OSeg.last | exact OSeg.at (by assumption) | apply OSeg.app)) (by assumption) (fun _ => rfl) (by assumption) (by rfl)) rfl rfl rfl rfl ?_
   refine qbf ?_
   refine DJ3_q (by first | exact yv_convert64 tb rfl rfl rfl (by omega) (by omega) | exact yv_convertU tb rfl rfl rfl (by omega) (by omega) | exact yv_convert tb rfl rfl rfl) rfl rfl rfl rfl ?_
   refine DJ3_q (by first | exact yv_remU rfl rfl (by omega) (by omega) | exact yv_rem rfl rfl (by omega)) rfl rfl rfl rfl ?_
   refine qcc ?_
   refine DJ3_q (yv_max2 rfl rfl) rfl rfl rfl rfl ?_
   refine qb3 ?_
   refine DJ3_q (yv_nilCheck rfl) rfl rfl rfl rfl ?_
   refine qcv ?_
   refine qcv ?_
   refine DJ3_q (yv_load1_ow tb ((⟨o40, rl⟩ : OwL XRoad)) rfl rfl rfl (by repeat (first | apply OSeg.cons | exact OSeg.here | exact OSeg.last | exact OSeg.at (by assumption) | apply OSeg.app)) (by assumption) (fun _ => rfl) (by assumption) (by rfl)) rfl rfl rfl rfl ?_
   refine DJ3_ql (yv_move (show _ = Value.int _ _ from rfl)) rfl rfl rfl rfl ?_
   refine DJ3_ql (by first | exact yv_convert64 tb rfl rfl rfl (by omega) (by omega) | exact yv_convertU tb rfl rfl rfl (by omega) (by omega) | exact yv_convert tb rfl rfl rfl) rfl rfl rfl rfl ?_
   refine DJ3_ql (by first | exact yv_remU rfl rfl (by omega) (by omega) | exact yv_rem rfl rfl (by omega)) rfl rfl rfl rfl ?_
   refine DJ3_ql (by first | exact yv_add64 rfl rfl (by omega) (by omega) | exact yv_addU rfl rfl (by omega) (by omega) | exact yv_add rfl rfl) rfl rfl rfl rfl ?_
   refine DJ3_q (yv_nilCheck rfl) rfl rfl rfl rfl ?_
   refine qcv ?_
   refine qcv ?_
   refine qba ?_
   refine DJ_g0 (gives_store1_ow tb ((⟨o40, rl⟩ : OwL XRoad)) ({ r with rest := ⟨max 1 (r.rest.low - by_.tmod 3), r.rest.high⟩ }) rfl rfl rfl rfl (by repeat (first | apply OSeg.cons | exact OSeg.here | exact OSeg.last | exact OSeg.at (by assumption) | apply OSeg.app)) (by assumption) (fun _ => rfl) (by assumption) (by decide) (by rfl) (by rfl)) rfl rfl ?_
   rintro v L' R' ⟨rfl, rfl⟩
   refine qa1 ?_
   refine qcb ?_
   refine qce ?_
   refine qce ?_
   have hg2 : (rl.set i { r with rest := ⟨max 1 (r.rest.low - by_.tmod 3), r.rest.high⟩ })[i]? = some { r with rest := ⟨max 1 (r.rest.low - by_.tmod 3), r.rest.high⟩ } := List.getElem?_set_self (by omega)
   have hk2 : (⟨o40, rl.set i { r with rest := ⟨max 1 (r.rest.low - by_.tmod 3), r.rest.high⟩ }⟩ : OwL XRoad).ok 10 XRoad.cells := OwL.len_ok (fun _ => rfl) q2 (by simp)
   refine DJ_g0 (gives_store1_ow tb ((⟨o40, rl.set i { r with rest := ⟨max 1 (r.rest.low - by_.tmod 3), r.rest.high⟩ }⟩ : OwL XRoad)) ({ r with rest := ⟨max 1 (r.rest.low - by_.tmod 3), r.rest.high + by_.tmod 5⟩ }) rfl rfl rfl rfl (by repeat (first | apply OSeg.cons | exact OSeg.here | exact OSeg.last | exact OSeg.at (by assumption) | apply OSeg.app)) (by assumption) (fun _ => rfl) (by assumption) (by decide) (by rfl) (by rfl)) rfl rfl ?_
   rintro v L' R' ⟨rfl, rfl⟩
   refine qa1 ?_
   refine qbu ?_
   refine CJ_L (by rw [List.set_set]) ?_
   obtain ⟨r2, hr2⟩ : ∃ r2, r2 = { r with rest := ⟨max 1 (r.rest.low - by_.tmod 3), r.rest.high + by_.tmod 5⟩ } := ⟨_, rfl⟩
   have hl2 : r2.lift = r.lift := by rw [hr2]
   rw [← hr2]
   have hg4 : (rl.set i r2)[i]? = some r2 := List.getElem?_set_self (by omega)
   have hk4 : (⟨o40, rl.set i r2⟩ : OwL XRoad).ok 10 XRoad.cells := OwL.len_ok (fun _ => rfl) q2 (by simp)
   rw [← hl2] at hsm hrl
   refine CJ_drawn2 tb [87, 101, 102, 103, 104] [0, 1, 2, 3, 4, 5, 6, 7, 8, 9, 10, 11, 12, 13, 14, 15, 16, 17, 18, 19, 20, 21] [22, 23, 24, 25, 26] (((⟨o40, rl.set i r2⟩ : OwL XRoad).L 59 XRoad.cells ++ [])) _ mixed (by kernel_rfl) (by repeat (first | exact zs0 _ | exact zs1 _ | apply zs2 | apply zs3 | apply zs4 | apply zs5)) (List.nil_sublist _) ?_
   refine qb3 ?_
   refine DJ3_ql (yv_move (show _ = Value.pointer _ from rfl)) rfl rfl rfl rfl ?_
   refine qb3 ?_
   refine DJ3_q (yv_nilCheck rfl) rfl rfl rfl rfl ?_
   refine qcv ?_
   refine qcv ?_
   refine DJ3_q (yv_load1_ow tb ((⟨o40, rl.set i r2⟩ : OwL XRoad)) rfl rfl rfl (by repeat (first | apply OSeg.cons | exact OSeg.here | exact OSeg.last | exact OSeg.at (by assumption) | apply OSeg.app)) (by assumption) (fun _ => rfl) (by assumption) (by rfl)) rfl rfl rfl rfl ?_
   refine qbf ?_
   refine DJ3_q (by first | exact yv_convert64 tb rfl rfl rfl (by omega) (by omega) | exact yv_convertU tb rfl rfl rfl (by omega) (by omega) | exact yv_convert tb rfl rfl rfl) rfl rfl rfl rfl ?_
   refine qcc ?_
   refine qb3 ?_
   refine DJ3_q (yv_nilCheck rfl) rfl rfl rfl rfl ?_
   refine qcv ?_
   refine qcv ?_
   refine DJ3_q (yv_load1_ow tb ((⟨o40, rl.set i r2⟩ : OwL XRoad)) rfl rfl rfl (by repeat (first | apply OSeg.cons | exact OSeg.here | exact OSeg.last | exact OSeg.at (by assumption) | apply OSeg.app)) (by assumption) (fun _ => rfl) (by assumption) (by rfl)) rfl rfl rfl rfl ?_
   refine DJ3_ql (yv_move (show _ = Value.int _ _ from rfl)) rfl rfl rfl rfl ?_
   refine DJ3_ql (by first | exact yv_convert64 tb rfl rfl rfl (by omega) (by omega) | exact yv_convertU tb rfl rfl rfl (by omega) (by omega) | exact yv_convert tb rfl rfl rfl) rfl rfl rfl rfl ?_
   refine DJ3_ql (by first | exact yv_remU rfl rfl (by omega) (by omega) | exact yv_rem rfl rfl (by omega)) rfl rfl rfl rfl ?_
   refine DJ3_ql (by first | exact yv_add64 rfl rfl (by omega) (by omega) | exact yv_addU rfl rfl (by omega) (by omega) | exact yv_add rfl rfl) rfl rfl rfl rfl ?_
   refine DJ3_q (yv_nilCheck rfl) rfl rfl rfl rfl ?_
   refine qcv ?_
   refine qcv ?_
   refine qba ?_
   refine DJ_g0 (gives_store1_ow tb ((⟨o40, rl.set i r2⟩ : OwL XRoad)) ({ r2 with lift := ⟨r2.lift.low - by_, r2.lift.high⟩ }) rfl rfl rfl rfl (by repeat (first | apply OSeg.cons | exact OSeg.here | exact OSeg.last | exact OSeg.at (by assumption) | apply OSeg.app)) (by assumption) (fun _ => rfl) (by assumption) (by decide) (by rfl) (by rfl)) rfl rfl ?_
   rintro v L' R' ⟨rfl, rfl⟩
   refine qa1 ?_
   refine qcb ?_
   refine qce ?_
   refine qce ?_
   have hg5 : ((rl.set i r2).set i { r2 with lift := ⟨r2.lift.low - by_, r2.lift.high⟩ })[i]? = some { r2 with lift := ⟨r2.lift.low - by_, r2.lift.high⟩ } := List.getElem?_set_self (by simp; omega)
   have hk5 : (⟨o40, (rl.set i r2).set i { r2 with lift := ⟨r2.lift.low - by_, r2.lift.high⟩ }⟩ : OwL XRoad).ok 10 XRoad.cells := OwL.len_ok (fun _ => rfl) q2 (by simp)
   refine DJ_g0 (gives_store1_ow tb ((⟨o40, (rl.set i r2).set i { r2 with lift := ⟨r2.lift.low - by_, r2.lift.high⟩ }⟩ : OwL XRoad)) ({ r2 with lift := ⟨r2.lift.low - by_, r2.lift.high + by_.tmod 7⟩ }) rfl rfl rfl rfl (by repeat (first | apply OSeg.cons | exact OSeg.here | exact OSeg.last | exact OSeg.at (by assumption) | apply OSeg.app)) (by assumption) (fun _ => rfl) (by assumption) (by decide) (by rfl) (by rfl)) rfl rfl ?_
   rintro v L' R' ⟨rfl, rfl⟩
   refine qa1 ?_
   refine qby ?_
   refine qar ?_
   refine qaa ?_
   refine qav ?_
   have ew : { r2 with lift := ⟨r2.lift.low - by_, r2.lift.high + by_.tmod 7⟩ } = widen by_ r := by rw [hr2]; rfl
   exact loopK_mk ⟨(i + 1, rl.set i (widen by_ r)), by dsimp only; omega, OwL.len_ok (fun _ => rfl) q2 (by simp), hnx⟩ (by repeat (first | exact Off.refl | apply Off.upd rfl | apply Off.havoc rfl | apply Off.updL rfl | apply Off.left rfl)) (by repeat' (first | exact trivial | refine And.intro rfl ?_)) (by dsimp only; rw [← ew, List.set_set, List.set_set]; exact (by repeat (first | exact zs0 _ | exact zs1 _ | apply zs2 | apply zs3 | apply zs4 | apply zs5))) (allR_self _) (by dsimp only; omega)
  ·
   obtain rfl : i = a.mine.roads.l.length := by omega
   refine qc3 ?_
   obtain ⟨yr, hyr⟩ : ∃ yr : Arr XRoad, yr = (⟨o40, rl⟩ : OwL XRoad).arr := ⟨_, rfl⟩
   have hyl : yr.l = rl := by rw [hyr]
   rw [show (⟨o40, a.mine.roads.l⟩ : OwL XRoad).val = yr.val from by rw [hyr]; simp only [OwL.val, Arr.val, q4]]
   refine CJ_frz1 (A := [_]) (wd := 10) [] (fun _ => rfl) (by decide) q2 (fun s hs => by cases hs) ?_
   refine qb1 ?_
   refine CJ_weak (R' := rsl yr :: isl l.arr :: R1) (List.Sublist.refl _) (fun r hr => inR_self (by rw [hyr] at hr; exact hr)) ?_
   have hR3 : ∀ r ∈ isl l.arr :: R1, InR r (rsl yr :: isl l.arr :: R1) := fun r hr => inR_self (.tail _ hr)
   have hA3 := airR_mono hA2 hR3
   have hW3 : AirR ⟨⟨a.mine.places, yr⟩, a.fans, a.doors⟩ (rsl yr :: isl l.arr :: R1) := ⟨hA3.places, inR_self (.head _), hA3.fans, hA3.doors⟩
   have hF := wideF hMA h3 (y := yr) (by rw [hyl]; exact q3) l.l k
   have n1 : netS a s l.l k = ⟨lowN a s l.l k, highN a s l.l k⟩ := by rw [netS, if_pos (rightN_iff.2 ⟨hri, hllen, by omega, by omega, presOk_none hal.pres⟩)]
   have n2 : netS ⟨⟨a.mine.places, yr⟩, a.fans, a.doors⟩ s l.l k = ⟨lowN ⟨⟨a.mine.places, yr⟩, a.fans, a.doors⟩ s l.l k, highN ⟨⟨a.mine.places, yr⟩, a.fans, a.doors⟩ s l.l k⟩ := by rw [netS, if_pos (rightN_iff.2 ⟨hF.right, hllen, by omega, by omega, presOk_none hal.pres⟩)]
   have hle := lowN_le_highN (s := s) (ps := l.l) (v := k) hae
   refine CJ_drawn tb [0, 1, 2, 3, 5, 6, 7, 8, 4, 9, 10, 11, 12, 13] _ mixed (by kernel_rfl) (List.Sublist.refl _) ?_
   refine qbc ?_
   refine qbd ?_
   refine DJ_q (yv_move (show _ = Value.slice _ _ _ from rfl)) rfl rfl rfl ?_
   refine qao ?_
   refine qbc ?_
   refine qbd ?_
   refine DJ_q (yv_move (show _ = Value.slice _ _ _ from rfl)) rfl rfl rfl ?_
   refine qao ?_
   refine q_d rfl (balNet_tri a s l.arr k _ _ hA3 (setR_mono hT2 hR3) (hl2.mono hR3)) ?_
   refine q_d rfl (balNet_tri ⟨⟨a.mine.places, yr⟩, a.fans, a.doors⟩ s l.arr k _ _ hW3 (setR_mono hT2 hR3) (hl2.mono hR3)) ?_
   refine qbr ?_
   intro b16
   refine qbr ?_
   intro b17
   refine qbg ?_
   refine qbg ?_
   refine qb9 ?_
   rw [n1, n2]
   refine qay ?_
   refine qab ?_
   refine qac ?_
   refine qab ?_
   refine qac ?_
   refine qbx ?_
   refine qah ?_
   apply LJ_and (G := [_, _, _, _, _]) (j := 5) (cj := 127) rfl rfl (by rfl) rfl (show _ = Value.bool _ from rfl) rfl
   ·
    intro hg6
    replace hg6 := qb hg6
    refine qab ?_
    refine qac ?_
    refine qab ?_
    refine qac ?_
    refine qbx ?_
    exact qai
   intro junk6
   refine qah ?_
   apply LJ_and (G := [_, _, _, _, _]) (j := 12) (cj := 134) rfl rfl (by rfl) rfl (show _ = Value.bool _ from rfl) rfl
   ·
    intro hg13
    replace hg13 := qb hg13
    refine qab ?_
    refine qac ?_
    refine qab ?_
    refine qac ?_
    refine qbz ?_
    exact qai
   intro junk13
   refine qah ?_
   apply LJ_and (G := [_]) (j := 19) (cj := 141) rfl rfl (by rfl) rfl (show _ = Value.bool _ from rfl) rfl
   ·
    intro hg20
    replace hg20 := qb hg20
    refine q_l rfl (awake10_tri _ _) ?_
    exact qai
   intro junk20
   refine qaz ?_
   refine qa0 ?_
   refine retK_ret (L' := []) (R' := R) (res1 rfl (rv_tmp (show _ = Value.bool _ from rfl))) ?hp ?hL ?hR
   case hp => exact ⟨by rw [decide_eq_true hF.low, decide_eq_true hle, decide_eq_true hF.high]; rfl, rfl, rfl⟩
   case hL => exact List.nil_sublist _
   case hR => exact fun r hr => (((hR0 r hr).mono hR2).mono hR3).mono fun s hs => inR_self (by simp [hs])
end Go.Proofs.Ytdnhinkamcfpkaa
