/-
  Statements about chapter 10: what they share. By an AI agent; no person has read it.
-/
import Derived.Test.YtdnhinkamcfpkaaNets
import Derived.Test.YtdnhinkamcfpkaaFits
set_option linter.unusedSimpArgs false
set_option linter.unusedVariables false
namespace Go.Proofs.Ytdnhinkamcfpkaa
open Go.Aw Go
set_option maxRecDepth 20000
attribute [local irreducible] CJ LJ DJ Tri YV Gives seqK blockK loopK retK RV mergeK OwL.L

def awake10Road : XRoad := ⟨1, 0, 1, 1, false, false, ⟨1, 1⟩, ⟨-100, -100⟩⟩
abbrev awake10 (b b' : Nat) : XAir := ⟨⟨⟨some ⟨b, 0, none⟩, 2, [⟨0, true⟩, ⟨0, false⟩]⟩, ⟨some ⟨b', 0, none⟩, 1, [awake10Road]⟩⟩, ⟨none, 0, []⟩, ⟨none, 0, []⟩⟩
abbrev noSet10 : XSetting := ⟨⟨none, 0, []⟩, ⟨none, 0, []⟩⟩
theorem awake10_right (b b' : Nat) : rightB (awake10 b b') noSet10 = true := by rfl
theorem awake10_inner (b b' : Nat) (q : Int) : innerS (awake10 b b') noSet10 0 q = if q < 0 then ⟨-(1 * q * q) - -100, -(1 * q * q) - -100⟩ else ⟨1 * q * q - -100, 1 * q * q - -100⟩ := by rfl
theorem awake10_low (b b' : Nat) (p : Int) : LowIs (innerS (awake10 b b') noSet10 0) p (flowLow (innerS (awake10 b b') noSet10 0) p) :=
  flowLow_is (right_of (awake10_right b b')).1 ⟨by decide, by show (0 : Int) < 1; decide⟩ p
theorem awake10_high (b b' : Nat) (p : Int) : HighIs (innerS (awake10 b b') noSet10 0) p (flowHigh (innerS (awake10 b b') noSet10 0) p) :=
  flowHigh_is (right_of (awake10_right b b')).1 ⟨by decide, by show (0 : Int) < 1; decide⟩ p
theorem awake10_m10 (b b' : Nat) : innerS (awake10 b b') noSet10 0 (-10) = ⟨0, 0⟩ := by rfl
theorem awake10_m9 (b b' : Nat) : innerS (awake10 b b') noSet10 0 (-9) = ⟨19, 19⟩ := by rfl
theorem awake10_m11 (b b' : Nat) : innerS (awake10 b b') noSet10 0 (-11) = ⟨-21, -21⟩ := by rfl
theorem awake10_0 (b b' : Nat) : innerS (awake10 b b') noSet10 0 0 = ⟨100, 100⟩ := by rfl
theorem awake10_len (b b' : Nat) : (awake10 b b').mine.roads.l.length = 1 := rfl
theorem awake10_road (b b' : Nat) : (awake10 b b').mine.roads.l.getD 0 default = awake10Road := rfl
theorem awake10_diff (b b' : Nat) (x : Int) : diffN (awake10 b b') [0, x] 0 = x := by
  rw [diffN, awake10_road]
  show x - 0 = x
  exact Int.sub_zero x
theorem awake10_sum (F G : (Int → XSpan) → Int → Int) (b b' : Nat) (x : Int) : sumN F G (awake10 b b') noSet10 [0, x] 1 1 = F (innerS (awake10 b b') noSet10 0) x := by
  rw [sumN, sumN, Int.zero_add, termN, awake10_road, if_neg (show ¬ awake10Road.closed = true from by decide), if_pos (show awake10Road.fr = 1 from rfl), awake10_diff]
  rfl
theorem awake10_lowN (b b' : Nat) (x : Int) : lowN (awake10 b b') noSet10 [0, x] 1 = flowLow (innerS (awake10 b b') noSet10 0) x := by
  rw [lowN, awake10_len, awake10_sum]
theorem awake10_highN (b b' : Nat) (x : Int) : highN (awake10 b b') noSet10 [0, x] 1 = flowHigh (innerS (awake10 b b') noSet10 0) x := by
  rw [highN, awake10_len, awake10_sum]
theorem awake10_net (b b' : Nat) : netS (awake10 b b') noSet10 [0, 0] 1 = ⟨-10, -10⟩ := by
  rw [netS, if_pos (by rfl), awake10_lowN, awake10_highN]
  have h1 := awake10_low b b' 0
  have h2 := awake10_high b b' 0
  have e10 := awake10_m10 b b'
  have e9 := awake10_m9 b b'
  have e11 := awake10_m11 b b'
  have l1 : flowLow (innerS (awake10 b b') noSet10 0) 0 = -10 := by
    generalize flowLow (innerS (awake10 b b') noSet10 0) 0 = z at *
    rcases Int.lt_trichotomy z (-10) with h | h | h
    · have := h1.gt (-10) h (by omega); rw [e10] at this; dsimp only at this; omega
    · exact h
    · have := h1.le (-9) (by omega) (by omega); rw [e9] at this; dsimp only at this; omega
  have l2 : flowHigh (innerS (awake10 b b') noSet10 0) 0 = -10 := by
    generalize flowHigh (innerS (awake10 b b') noSet10 0) 0 = z at *
    rcases Int.lt_trichotomy z (-10) with h | h | h
    · have := h2.ge (-11) (by omega) (by omega); rw [e11] at this; dsimp only at this; omega
    · exact h
    · have := h2.lt (-10) (by omega) h; rw [e10] at this; dsimp only at this; omega
  rw [l1, l2]
theorem awake10_g (b b' : Nat) (x : Int) : 0 ≤ flowLow (innerS (awake10 b b') noSet10 0) x ↔ 100 ≤ x := by
  have h1 := awake10_low b b' x
  have e0 := awake10_0 b b'
  generalize flowLow (innerS (awake10 b b') noSet10 0) x = z at *
  constructor
  · intro h
    have := h1.le 0 (by omega) h
    rw [e0] at this; exact this
  · intro h
    rcases Int.lt_or_le z 0 with h' | h'
    · have := h1.gt 0 h' (by omega)
      rw [e0] at this; dsimp only at this; omega
    · exact h'
theorem awake10_least (b b' : Nat) {z : Int} {ok : Bool} (h : LeastS (awake10 b b') noSet10 [0, 0] 1 z ok) : z = 100 ∧ ok = true := by
  rw [LeastS, if_pos (by rfl)] at h
  have e : ∀ x, lowG (awake10 b b') noSet10 [0, 0] 1 x = decide (100 ≤ x) := fun x => by
    have h : ([0, 0] : List Int).set (1 : Int).toNat x = [0, x] := rfl
    rw [lowG, h, awake10_lowN]
    exact decide_eq_decide.2 (awake10_g b b' x)
  have h0 : ([0, 0] : List Int).getD (1 : Int).toNat 0 = 0 := by rfl
  rw [h0] at h
  exact h.unique ⟨fun _ => ⟨100, by decide, by decide, by decide, by rw [e]; decide, fun j h1 h2 => by
    rw [e, decide_eq_false_iff_not]
    simp only [sgn]; simp; omega⟩, fun h => by cases h⟩

theorem awake10_tri (L : List Blk) (R : List Sl) : Tri Try.prog 21 ([] : List Value).toArray L R (fun v L' R' => v = .bool true ∧ L = L' ∧ R = R') := by
  refine tri_enter 35 Try.call21 Try.func21 rfl rfl rfl ?_
  refine qae ?_
  refine qaz ?_
  refine qam ?_
  refine LJ_q (yv_build (qs := [(1, (Value.bool _).cells.toList)]) (out := [_, _]) tb rfl rfl rfl rfl) rfl ?_
  refine qck ?_
  refine LJ_g (gives_buildSlice (qs := [(0, (Value.agg _).cells.toList), (1, (Value.agg _).cells.toList)]) (out := [_, _, _, _]) tb rfl rfl rfl rfl rfl rfl rfl) rfl ?_
  rintro v L' R' ⟨b7, rfl, rfl, hR7⟩
  replace hR7 := hR7.symm; subst hR7
  refine qcd ?_
  refine qcd ?_
  refine LJ_q (yv_build (qs := [(0, (Value.int _ _).cells.toList), (1, (Value.int _ _).cells.toList), (2, (Value.int _ _).cells.toList), (3, (Value.int _ _).cells.toList), (6, (Value.agg _).cells.toList), (7, (Value.agg _).cells.toList)]) (out := [_, _, _, _, _, _, _, _, _, _]) tb rfl rfl rfl rfl) rfl ?_
  refine LJ_g (gives_buildSlice (qs := [(0, (Value.agg _).cells.toList)]) (out := [_, _, _, _, _, _, _, _, _, _]) tb rfl rfl rfl rfl rfl rfl rfl) rfl ?_
  rintro v L' R' ⟨b11, rfl, rfl, hR11⟩
  replace hR11 := hR11.symm; subst hR11
  refine LJ_q (yv_build (qs := [(0, (Value.slice _ _ _).cells.toList), (1, (Value.slice _ _ _).cells.toList)]) (out := [_, _]) tb rfl rfl rfl rfl) rfl ?_
  refine qaq ?_
  intro b1
  refine qak ?_
  refine qam ?_
  refine qbe ?_
  refine LJ_q (yv_build (qs := [(0, (Value.agg _).cells.toList)]) (out := [_, _, _, _]) tb rfl rfl rfl rfl) rfl ?_
  refine qaq ?_
  intro b2
  refine qak ?_
  refine qa4 ?_
  refine CJ_frzB (A := [_, _]) (wd := 10) (len := 1) (cap := 1) (rows := [awake10Road.cells]) (subs := []) rfl (by decide) (by decide) (fun r hr => by rw [List.mem_singleton.1 hr]; rfl) (by decide) rfl (fun s hs => by cases hs) ?_
  refine qb1 ?_
  refine CJ_frzB (A := [_, _]) (wd := 2) (len := 2) (cap := 2) (rows := [XPlace.cells ⟨0, true⟩, XPlace.cells ⟨0, false⟩]) (subs := []) rfl (by decide) (by decide) (fun r hr => by simp only [List.mem_cons, List.not_mem_nil, or_false] at hr; rcases hr with rfl | rfl <;> rfl) (by decide) rfl (fun s hs => by cases hs) ?_
  refine qb1 ?_
  refine CJ_nil 4 (CJ_nil 3 (CJ_nil 1 ?_))
  obtain ⟨R1, hR1⟩ : ∃ R1, R1 = isl ⟨none, 0, []⟩ :: dsl ⟨none, 0, []⟩ :: fsl ⟨none, 0, []⟩ :: psl (awake10 b7 b11).mine.places :: rsl (awake10 b7 b11).mine.roads :: R := ⟨_, rfl⟩
  have hA : AirR (awake10 b7 b11) R1 := by rw [hR1]; exact ⟨inR_self (.tail _ (.tail _ (.tail _ (.head _)))), inR_self (.tail _ (.tail _ (.tail _ (.tail _ (.head _))))), inR_self (.tail _ (.tail _ (.head _))), inR_self (.tail _ (.head _))⟩
  have hS : SetR noSet10 R1 := by rw [hR1]; exact ⟨inR_self (.head _), inR_self (.head _)⟩
  refine CJ_weak (R' := R1) (List.Sublist.refl _) (fun r hr => inR_self (by rw [hR1] at hr; exact hr)) ?_
  refine qay ?_
  refine qa8 ?_
  refine qck ?_
  refine LJ_g (gives_buildSlice (qs := [(0, (Value.int _ _).cells.toList), (1, (Value.int _ _).cells.toList)]) (out := [_, _]) tb rfl rfl rfl rfl rfl rfl rfl) rfl ?_
  rintro v L' R' ⟨b18, rfl, rfl, hR18⟩
  replace hR18 := hR18.symm; subst hR18
  refine LJ_frz (wd := 1) (len := 2) (cap := 2) (rows := [icell 0, icell 0]) (subs := []) rfl (by decide) (by decide) (fun r hr => by simp only [List.mem_cons, List.not_mem_nil, or_false] at hr; rcases hr with rfl | rfl <;> rfl) (by decide) rfl (fun s hs => by cases hs) ?_
  refine LJ_call rfl (balLeast_tri (awake10 b7 b11) noSet10 ⟨some ⟨b18, 0, none⟩, 2, [0, 0]⟩ 1 _ _ (airR_mono hA fun r h => inR_self (.tail _ h)) (setR_mono hS fun r h => inR_self (.tail _ h)) (inR_self (.head _))) rfl ?_
  rintro v L' R' ⟨z, ok, rfl, hz, rfl, rfl⟩
  obtain ⟨rfl, rfl⟩ := awake10_least _ _ hz
  refine LJ_q (yv_move rfl) rfl ?_
  refine qbs ?_
  refine qbs ?_
  refine qad ?_
  refine qaz ?_
  refine qam ?_
  refine qa8 ?_
  refine qck ?_
  refine LJ_g (gives_buildSlice (qs := [(0, (Value.int _ _).cells.toList), (1, (Value.int _ _).cells.toList)]) (out := [_, _]) tb rfl rfl rfl rfl rfl rfl rfl) rfl ?_
  rintro v L' R' ⟨b24, rfl, rfl, hR24⟩
  replace hR24 := hR24.symm; subst hR24
  refine LJ_frz (wd := 1) (len := 2) (cap := 2) (rows := [icell 0, icell 0]) (subs := []) rfl (by decide) (by decide) (fun r hr => by simp only [List.mem_cons, List.not_mem_nil, or_false] at hr; rcases hr with rfl | rfl <;> rfl) (by decide) rfl (fun s hs => by cases hs) ?_
  refine q_l rfl (balNet_tri (awake10 b7 b11) noSet10 ⟨some ⟨b24, 0, none⟩, 2, [0, 0]⟩ 1 _ _ (airR_mono hA fun r h => inR_self (.tail _ (.tail _ h))) (setR_mono hS fun r h => inR_self (.tail _ (.tail _ h))) (inR_self (.head _))) ?_
  rw [awake10_net]
  refine qcd ?_
  refine LJ_q (yv_eql_span spanEq rfl rfl) rfl ?_
  refine qah ?_
  apply LJ_and (G := [_]) (j := 6) (cj := 28) rfl rfl (by rfl) rfl (show _ = Value.bool _ from rfl) rfl
  ·
   intro hg7
   replace hg7 := qb hg7
   refine qah ?_
   exact qai
  intro junk7
  refine qah ?_
  apply LJ_and (G := [_, _]) (j := 9) (cj := 31) rfl rfl (by rfl) rfl (show _ = Value.bool _ from rfl) rfl
  ·
   intro hg10
   replace hg10 := qb hg10
   refine qaa ?_
   refine qbn ?_
   exact qai
  intro junk10
  refine qaz ?_
  refine qa0 ?_
  refine retK_ret (L' := L) (R' := R) (res1 rfl (rv_tmp (show _ = Value.bool _ from rfl))) ?hp ?hL ?hR
  case hp => exact ⟨rfl, rfl, rfl⟩
  case hL => exact (by repeat (first | exact zs0 _ | exact zs1 _ | apply zs2 | apply zs3 | apply zs4 | apply zs5))
  case hR => exact fun r h => inR_self (by rw [hR1]; simp [h])

/-- pressures near those of a made state -/
structure Around (np : Nat) (l : List Int) : Prop where
  len : l.length = np
  val : ∀ p ∈ l, -7000 ≤ p ∧ p ≤ 7000
structure AroundTo (np : Nat) (i : Nat) (l : List Int) : Prop where
  len : l.length = np
  val : ∀ (j : Nat) (p : Int), l[j]? = some p → (-7000 ≤ p ∧ p ≤ 7000) ∧ (i ≤ j → -4000 ≤ p ∧ p ≤ 4000)
theorem AroundTo.next {np i : Nat} {l : List Int} (h : AroundTo np i l) {v : Int} (hv : -7000 ≤ v ∧ v ≤ 7000) : AroundTo np (i + 1) (l.set i v) := by
  refine ⟨by simp [h.len], fun j q hq => ?_⟩
  rw [List.getElem?_set] at hq
  split at hq
  · rename_i e
    split at hq
    · cases hq; exact ⟨hv, fun hj => by omega⟩
    · cases hq
  · exact ⟨(h.val j q hq).1, fun hj => (h.val j q hq).2 (by omega)⟩
theorem AroundTo.stay {np i : Nat} {l : List Int} (h : AroundTo np i l) : AroundTo np (i + 1) l := ⟨h.len, fun j q hq => ⟨(h.val j q hq).1, fun hj => (h.val j q hq).2 (by omega)⟩⟩
theorem AroundTo.done {np i : Nat} {l : List Int} (h : AroundTo np i l) : Around np l := ⟨h.len, fun p hp => by obtain ⟨j, hj⟩ := List.mem_iff_getElem?.1 hp; exact (h.val j p hj).1⟩
theorem Around.pres {np : Nat} {l : List Int} (h : Around np l) : PresOk l := fun p hp => by have := h.val p hp; omega

theorem around_tri (c : Nat) (x : Arr Int) (k : Nat) (a : XAir) (st : XState) (R : List Sl) (hx : CodesR x R) (hk : k ≤ x.l.length) (hA : AirR a R) (hX : StateR st R) (hl : st.pres.l.length = a.mine.places.l.length) (hb : ∀ p ∈ st.pres.l, -4000 ≤ p ∧ p ≤ 4000) (hn : a.mine.places.l.length ≤ 64) :
    Tri Try.prog 16 [.pointer (some ⟨c, 0, none⟩), a.val, st.val].toArray [cblk c x k] R
      (fun w L' R' => ∃ (p : OwL Int) (k' : Nat), w = p.val ∧ p.ok 1 icell ∧ Around a.mine.places.l.length p.l ∧ k' ≤ x.l.length ∧ p.L 3 icell ++ (cblk c x k' :: []) = L' ∧ R = R') := by
  have hpl := hA.places
  have hxp := hX.pres
  refine tri_enter 39 Try.call16 Try.func16 rfl rfl rfl ?_
  refine qae ?_
  refine qax ?_
  intro b4
  refine qax ?_
  intro b5
  refine qc4 ?_
  refine qam ?_
  refine qab ?_
  refine qac ?_
  refine LJ_g (gives_copy (f := icell) (xs := st.pres) tb rfl rfl rfl (by decide) rfl rfl (hxp) (fun _ => rfl) (by omega)) rfl ?_
  rintro v L' R' ⟨o11, rfl, hok11, rfl, rfl⟩
  refine qc4 ?_
  refine qaw ?_
  refine qad ?_
  refine qa2 ?_
  refine CJ_forget [(0, Value.pointer _), (4, Value.pointer _), (7, Value.slice _ _ _), (8, Value.int _ _)] (by repeat' (first | exact trivial | refine And.intro rfl ?_)) fun tq0 => ?_
  refine q_p [8, 12, 13, 14, 15, 16, 17, 18, 19, 20, 21, 22, 23, 24, 25, 26, 27, 28, 29, 30, 31, 32, 33, 34, 35, 36, 37] ((⟨fun q => [(8, .int .i64 ((q.1.1 : Nat) : Int))], fun q => (⟨o11, q.1.2.2⟩ : OwL Int).L 3 icell ++ (⟨b5, st.cells, 37⟩ :: ⟨b4, a.cells, 33⟩ :: cblk c x q.1.2.1 :: []), fun _ => R, fun q => st.pres.l.length - q.1.1⟩ : Head {q : Nat × Nat × List Int // q.1 ≤ st.pres.l.length ∧ q.2.1 ≤ x.l.length ∧ (⟨o11, q.2.2⟩ : OwL Int).ok 1 icell ∧ AroundTo a.mine.places.l.length q.1 q.2.2})) (⟨(0, k, st.pres.l), by dsimp only; omega, hk, hok11, ⟨hl, fun j p hj => by have := hb p (List.mem_of_getElem? hj); omega⟩⟩) ?_
  rintro ⟨⟨i, kk, l⟩, q1, q2, q3, q4⟩ junk
  try dsimp only
  dsimp only at q1 q2 q3 q4
  have q5 := q4.len
  refine qbi ?_
  refine qaa ?_
  refine qbm ?_
  refine qag ?_
  refine qaj ?_
  refine qaf ?_
  refine q_c (fun hc0 => ?_) (fun hc0 => ?_)
  ·
   have hpg := get_D (l := a.mine.places.l) (k := i) default (by omega)
   have hlg := get_D (l := l) (k := i) 0 (by omega)
   have hlb := (q4.val i _ hlg).2 (Nat.le_refl _)
   refine qbb ?_
   refine qab ?_
   refine qab ?_
   refine qac ?_
   refine qaa ?_
   refine LJ_q (by first | exact yv_index_ro tb rfl rfl rfl rfl (by first | assumption | exact zr (by simp)) (i := i) (by first | rfl | omega | (simp; omega)) (by omega) | exact yv_index tb rfl rfl rfl rfl (i := i) (by first | rfl | omega | (simp; omega)) (by omega)) rfl ?_
   refine qb0 ?_
   refine qa7 ?_
   refine qb4 ?_
   refine qah ?_
   refine LJ_case (k := 26) (show _ = Value.bool _ from rfl) (fun hg9 => ?_) (fun hg9 => ?_)
   ·
    replace hg9 := qb hg9
    refine LJ_skg rfl rfl ?_
    refine LJ_skg rfl rfl ?_
    refine LJ_q (by first | exact yv_pick_true rfl rfl | exact yv_pick_false rfl rfl | exact yv_pick rfl) rfl ?_
    refine qaf ?_
    refine CJ_cond_true rfl ?_
    refine CJ_drawn2 tb [] [0, 1, 2, 3, 4, 5, 6, 7] [8] (((⟨o11, l⟩ : OwL Int).L 3 icell ++ [])) _ mixed (by kernel_rfl) (by repeat (first | exact zs0 _ | exact zs1 _ | apply zs2 | apply zs3 | apply zs4 | apply zs5)) (List.nil_sublist _) ?_
    refine qct ?_
    refine qbf ?_
    refine DJ3_q (yv_index_ow tb ((⟨o11, l⟩ : OwL Int)) _ rfl rfl ((show _ = Value.slice _ _ _ from rfl).trans (by simp only [OwL.val, q5, hl])) rfl (by assumption) (i := i) (by first | rfl | omega | (simp; omega)) (by first | omega | (dsimp only; omega) | (dsimp only; rw [List.length_set]; omega))) rfl rfl rfl rfl ?_
    refine DJ3_q (yv_load1_ow tb ((⟨o11, l⟩ : OwL Int)) rfl rfl rfl (by repeat (first | apply OSeg.cons | exact OSeg.here | exact OSeg.last | exact OSeg.at (by assumption) | apply OSeg.app)) (by assumption) (fun _ => rfl) (by assumption) (by rfl)) rfl rfl rfl rfl ?_
    refine qb3 ?_
    refine DJ3_call rfl (range1 (by repeat (first | apply USeg.here | apply USeg.cons | apply USeg.app)) hx (by assumption) (by omega)) rfl rfl ?_
    rintro v L' R' ⟨r1, k2, rfl, g1, g1', hk2, rfl, rfl⟩
    refine qas ?_
    refine qcj ?_
    refine DJ3_q (yv_index_ow tb ((⟨o11, l⟩ : OwL Int)) _ rfl rfl ((show _ = Value.slice _ _ _ from rfl).trans (by simp only [OwL.val, q5, hl])) rfl (by assumption) (i := i) (by first | rfl | omega | (simp; omega)) (by first | omega | (dsimp only; omega) | (dsimp only; rw [List.length_set]; omega))) rfl rfl rfl rfl ?_
    refine qba ?_
    refine DJ_g0 (gives_store1_ow tb ((⟨o11, l⟩ : OwL Int)) ((l.getD i 0 + r1)) rfl rfl rfl rfl (by repeat (first | apply OSeg.cons | exact OSeg.here | exact OSeg.last | exact OSeg.at (by assumption) | apply OSeg.app)) (by assumption) (fun _ => rfl) (by assumption) (by decide) (by rfl) (by rfl)) rfl rfl ?_
    rintro v L' R' ⟨rfl, rfl⟩
    refine qa1 ?_
    refine qby ?_
    refine qaa ?_
    refine qar ?_
    refine qad ?_
    refine qav ?_
    exact q_k ⟨(i + 1, k2, l.set i (l.getD i 0 + r1)), by dsimp only; omega, hk2, OwL.len_ok icell_len hok11 (by simp; omega), q4.next (by omega)⟩
   ·
    replace hg9 := qb hg9
    refine LJ_qg (yv_move (show _ = Value.pointer _ from rfl)) rfl rfl ?_
    refine LJ_callg rfl (one1 (by repeat (first | apply USeg.here | apply USeg.cons | apply USeg.app)) hx q2 (by omega)) rfl rfl ?_
    rintro v L' R' ⟨b1, k1, rfl, hk1, rfl, rfl⟩
    refine LJ_q (by first | exact yv_pick_true rfl rfl | exact yv_pick_false rfl rfl | exact yv_pick rfl) rfl ?_
    refine qaf ?_
    refine q_c (fun hc1 => ?_) (fun hc1 => ?_)
    ·
     refine CJ_drawn2 tb [] [0, 1, 2, 3, 4, 5, 6, 7] [8] (((⟨o11, l⟩ : OwL Int).L 3 icell ++ [])) _ mixed (by kernel_rfl) (by repeat (first | exact zs0 _ | exact zs1 _ | apply zs2 | apply zs3 | apply zs4 | apply zs5)) (List.nil_sublist _) ?_
     refine qct ?_
     refine qbf ?_
     refine DJ3_q (yv_index_ow tb ((⟨o11, l⟩ : OwL Int)) _ rfl rfl ((show _ = Value.slice _ _ _ from rfl).trans (by simp only [OwL.val, q5, hl])) rfl (by assumption) (i := i) (by first | rfl | omega | (simp; omega)) (by first | omega | (dsimp only; omega) | (dsimp only; rw [List.length_set]; omega))) rfl rfl rfl rfl ?_
     refine DJ3_q (yv_load1_ow tb ((⟨o11, l⟩ : OwL Int)) rfl rfl rfl (by repeat (first | apply OSeg.cons | exact OSeg.here | exact OSeg.last | exact OSeg.at (by assumption) | apply OSeg.app)) (by assumption) (fun _ => rfl) (by assumption) (by rfl)) rfl rfl rfl rfl ?_
     refine qb3 ?_
     refine DJ3_call rfl (range1 (by repeat (first | apply USeg.here | apply USeg.cons | apply USeg.app)) hx (by assumption) (by omega)) rfl rfl ?_
     rintro v L' R' ⟨r1, k2, rfl, g1, g1', hk2, rfl, rfl⟩
     refine qas ?_
     refine qcj ?_
     refine DJ3_q (yv_index_ow tb ((⟨o11, l⟩ : OwL Int)) _ rfl rfl ((show _ = Value.slice _ _ _ from rfl).trans (by simp only [OwL.val, q5, hl])) rfl (by assumption) (i := i) (by first | rfl | omega | (simp; omega)) (by first | omega | (dsimp only; omega) | (dsimp only; rw [List.length_set]; omega))) rfl rfl rfl rfl ?_
     refine qba ?_
     refine DJ_g0 (gives_store1_ow tb ((⟨o11, l⟩ : OwL Int)) ((l.getD i 0 + r1)) rfl rfl rfl rfl (by repeat (first | apply OSeg.cons | exact OSeg.here | exact OSeg.last | exact OSeg.at (by assumption) | apply OSeg.app)) (by assumption) (fun _ => rfl) (by assumption) (by decide) (by rfl) (by rfl)) rfl rfl ?_
     rintro v L' R' ⟨rfl, rfl⟩
     refine qa1 ?_
     refine qby ?_
     refine qaa ?_
     refine qar ?_
     refine qad ?_
     refine qav ?_
     exact q_k ⟨(i + 1, k2, l.set i (l.getD i 0 + r1)), by dsimp only; omega, hk2, OwL.len_ok icell_len hok11 (by simp; omega), q4.next (by omega)⟩
    ·
     refine qbj ?_
     refine qaa ?_
     refine qar ?_
     refine qad ?_
     refine qav ?_
     exact q_k ⟨(i + 1, _, l), by dsimp only; omega, by assumption, q3, q4.stay⟩
  ·
   refine qbk ?_
   refine qbm ?_
   refine qc4 ?_
   refine qa0 ?_
   refine q_r (L' := (⟨o11, l⟩ : OwL Int).L 3 icell ++ (cblk c x kk :: [])) (R' := R) (res1 rfl (rv_tmp (show _ = Value.slice _ _ _ from rfl))) ?_
   exact ⟨⟨o11, l⟩, kk, by simp only [OwL.val, q5, hl], q3, q4.done, q2, rfl, rfl⟩
/-- the same at another place -/
theorem around1 {c : Nat} {x : Arr Int} {k : Nat} {a : XAir} {st : XState} {L B : List Blk} {R : List Sl} (hu : Spl L B [cblk c x k]) (hx : CodesR x R) (hk : k ≤ x.l.length) (hA : AirR a R) (hX : StateR st R) {s : XSetting} (hM : MadeA a s st) :
    Tri Try.prog 16 [.pointer (some ⟨c, 0, none⟩), a.val, st.val].toArray L R
      (fun w L' R' => ∃ (p : OwL Int) (k' : Nat), w = p.val ∧ p.ok 1 icell ∧ Around a.mine.places.l.length p.l ∧ k' ≤ x.l.length ∧ B ++ (p.L 3 icell ++ (cblk c x k' :: [])) = L' ∧ R = R') :=
  (Tri.spl hu (around_tri c x k a st R hx hk hA hX hM.b.fits.plen hM.press (by have := hM.nplaces; omega))).mono fun v L'' R' ⟨L', e, p, k', a1, a2, a3, a4, a5, a6⟩ => ⟨p, k', a1, a2, a3, a4, by rw [a5]; exact e, a6⟩
end Go.Proofs.Ytdnhinkamcfpkaa
