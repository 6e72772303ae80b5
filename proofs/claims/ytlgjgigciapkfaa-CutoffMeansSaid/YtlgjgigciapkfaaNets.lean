/-
  Nets: NetS, NetW, Find, LeastW, RefUp, Bal, NetP, in one text. By an AI agent; no person has read it.
-/
import Derived.Test.YtlgjgigciapkfaaFits
import Derived.Test.YtlgjgigciapkfaaDraws
set_option linter.unusedSimpArgs false
set_option linter.unusedVariables false
section
variable {A9 B9 : Prop}
theorem yanaa (a : A9) (h : A9 → B9 := by exact DJ_q (yv_move (show _ = Value.slice _ _ _ from rfl)) rfl rfl rfl) : B9 := h a
theorem yanab (a : A9) (h : A9 → B9 := by exact CJ_drawn tb [0, 1, 2, 3, 4, 5, 6, 7, 8, 9, 10, 11, 12, 13, 14, 15, 16, 17] _ mixed (by kernel_rfl) (List.Sublist.refl _)) : B9 := h a
theorem yanac (a : A9) (h : A9 → B9 := by exact DJ_q (by first | exact yv_index_ro tb rfl rfl rfl rfl (by first | assumption | exact zr (by simp)) (i := (a.mine.roads.l.getD k default).fr.toNat) (by first | rfl | omega | (simp; omega)) (by omega) | exact yv_index tb rfl rfl rfl rfl (i := (a.mine.roads.l.getD k default).fr.toNat) (by first | rfl | omega | (simp; omega)) (by omega)) rfl rfl rfl) : B9 := h a
theorem yanad (a : A9) (h : A9 → B9 := by exact DJ_q (by first | exact yv_index_ro tb rfl rfl rfl rfl (by first | assumption | exact zr (by simp)) (i := (a.mine.roads.l.getD k default).to.toNat) (by first | rfl | omega | (simp; omega)) (by omega) | exact yv_index tb rfl rfl rfl rfl (i := (a.mine.roads.l.getD k default).to.toNat) (by first | rfl | omega | (simp; omega)) (by omega)) rfl rfl rfl) : B9 := h a
theorem yanae (a : A9) (h : A9 → B9 := by exact LJ_q (yv_index_ow tb ((⟨o15, ps.l.set u.toNat start⟩ : OwL Int)) _ rfl rfl ((show _ = Value.slice _ _ _ from rfl).trans setv) rfl (by assumption) (i := u.toNat) (by first | rfl | omega | (simp; omega)) (by first | omega | (dsimp only; omega) | (dsimp only; rw [List.length_set]; omega))) rfl) : B9 := h a
theorem yanaf (a : A9) (h : A9 → B9 := by exact LJ_q (yv_load1_ow tb ((⟨o15, ps.l.set u.toNat start⟩ : OwL Int)) rfl rfl rfl (by repeat (first | apply OSeg.cons | exact OSeg.here | exact OSeg.last | exact OSeg.at (by assumption) | apply OSeg.app)) (by assumption) (fun _ => rfl) (by assumption) (by rfl)) rfl) : B9 := h a
theorem yanag (a : A9) (h : A9 → B9 := by exact LJ_q (yv_index_ow tb ((⟨o15, ps.l.set u.toNat y⟩ : OwL Int)) _ rfl rfl ((show _ = Value.slice _ _ _ from rfl).trans setv) rfl (by assumption) (i := u.toNat) (by first | rfl | omega | (simp; omega)) (by first | omega | (dsimp only; omega) | (dsimp only; rw [List.length_set]; omega))) rfl) : B9 := h a
theorem yanah (a : A9) (h : A9 → B9 := by exact LJ_q (yv_index_ow tb ((⟨o15, ps.l.set u.toNat w⟩ : OwL Int)) _ rfl rfl ((show _ = Value.slice _ _ _ from rfl).trans setv) rfl (by assumption) (i := u.toNat) (by first | rfl | omega | (simp; omega)) (by first | omega | (dsimp only; omega) | (dsimp only; rw [List.length_set]; omega))) rfl) : B9 := h a
theorem yanai (a : A9) (h : A9 → B9 := by exact LJ_q (yv_load1_ow tb ((⟨o15, ps.l.set u.toNat w⟩ : OwL Int)) rfl rfl rfl (by repeat (first | apply OSeg.cons | exact OSeg.here | exact OSeg.last | exact OSeg.at (by assumption) | apply OSeg.app)) (by assumption) (fun _ => rfl) (by assumption) (by rfl)) rfl) : B9 := h a
theorem yanaj (a : A9) (h : A9 → B9 := by exact LJ_q (yv_index_ow tb ((⟨o15, ps.l.set u.toNat mid⟩ : OwL Int)) _ rfl rfl ((show _ = Value.slice _ _ _ from rfl).trans setv) rfl (by assumption) (i := u.toNat) (by first | rfl | omega | (simp; omega)) (by first | omega | (dsimp only; omega) | (dsimp only; rw [List.length_set]; omega))) rfl) : B9 := h a
theorem yanak (a : A9) (h : A9 → B9 := by exact LJ_q (yv_load1_ow tb ((⟨o15, ps.l.set u.toNat mid⟩ : OwL Int)) rfl rfl rfl (by repeat (first | apply OSeg.cons | exact OSeg.here | exact OSeg.last | exact OSeg.at (by assumption) | apply OSeg.app)) (by assumption) (fun _ => rfl) (by assumption) (by rfl)) rfl) : B9 := h a
theorem yanal (a : A9) (h : A9 → B9 := by exact LJ_q (by first | exact yv_index_ro tb rfl rfl rfl rfl (by first | assumption | exact zr (by simp)) (i := k) (by first | rfl | omega | (simp; omega)) (by omega) | exact yv_index tb rfl rfl rfl rfl (i := k) (by first | rfl | omega | (simp; omega)) (by omega)) rfl) : B9 := h a
theorem yanam (a : A9) (h : A9 → B9 := by exact LJ_g (gives_copy (f := icell) (xs := ps) tb rfl rfl rfl (by decide) rfl rfl (hps) (fun _ => rfl) (by omega)) rfl) : B9 := h a
theorem yanan (a : A9) (h : A9 → B9 := by exact CJ_L (show _ = (⟨o15, ps.l.set u.toNat start⟩ : OwL Int).L 3 icell ++ (⟨b5, s.cells, 40⟩ :: ⟨b4, a.cells, 30⟩ :: L) from by rw [hself]; rfl)) : B9 := h a
theorem yanao (h : B9 := by exact ⟨start, true, rfl, ⟨fun _ => ⟨0, by omega, by rw [hrm]; omega, by simp, by rw [decide_eq_true_eq]; exact hc0, fun j h1 h2 => by omega⟩, fun h => by cases h⟩, rfl, rfl⟩) : B9 := h
theorem yanap (a : A9) (h : A9 → B9 := by exact LJ_q (yv_load1_ow tb ((⟨o15, ps.l.set u.toNat y⟩ : OwL Int)) rfl rfl rfl (by repeat (first | apply OSeg.cons | exact OSeg.here | exact OSeg.last | exact OSeg.at (by assumption) | apply OSeg.app)) (by assumption) (fun _ => rfl) (by assumption) (by rfl)) rfl) : B9 := h a
theorem yanaq (a : A9) (h : A9 → B9 := by exact LJ_q (yv_index_ow tb ((⟨o15, ps.l.set u.toNat z⟩ : OwL Int)) _ rfl rfl ((show _ = Value.slice _ _ _ from rfl).trans setv) rfl (by assumption) (i := u.toNat) (by first | rfl | omega | (simp; omega)) (by first | omega | (dsimp only; omega) | (dsimp only; rw [List.length_set]; omega))) rfl) : B9 := h a
theorem yanar (a : A9) (h : A9 → B9 := by exact LJ_g0 (gives_store1_ow tb ((⟨o15, ps.l.set u.toNat z⟩ : OwL Int)) ((lo + (hi - lo).tdiv 2)) rfl rfl rfl rfl (by repeat (first | apply OSeg.cons | exact OSeg.here | exact OSeg.last | exact OSeg.at (by assumption) | apply OSeg.app)) (by assumption) (fun _ => rfl) (by assumption) (by decide) (by rfl) (by rfl))) : B9 := h a
end
section
namespace Go.Proofs.Ytlgjgigciapkfaa
open Go.Aw Go

def diffN (a : XAir) (ps : List Int) (k : Nat) : Int := ps.getD (a.mine.roads.l.getD k default).fr.toNat 0 - ps.getD (a.mine.roads.l.getD k default).to.toNat 0
def termN (F G : (Int → XSpan) → Int → Int) (a : XAir) (s : XSetting) (ps : List Int) (v : Int) (k : Nat) : Int :=
  if (a.mine.roads.l.getD k default).closed = true then 0
  else if (a.mine.roads.l.getD k default).fr = v then F (innerS a s k) (diffN a ps k)
  else if (a.mine.roads.l.getD k default).to = v then -(G (innerS a s k) (diffN a ps k)) else 0
def sumN (F G : (Int → XSpan) → Int → Int) (a : XAir) (s : XSetting) (ps : List Int) (v : Int) : Nat → Int
  | 0 => 0
  | k + 1 => sumN F G a s ps v k + termN F G a s ps v k
def lowN (a : XAir) (s : XSetting) (ps : List Int) (v : Int) : Int := sumN flowLow flowHigh a s ps v a.mine.roads.l.length
def highN (a : XAir) (s : XSetting) (ps : List Int) (v : Int) : Int := sumN flowHigh flowLow a s ps v a.mine.roads.l.length

structure Ends (F : (Int → XSpan) → Int → Int) (a : XAir) (s : XSetting) : Prop where
  bnd : ∀ k : Nat, k < a.mine.roads.l.length → ∀ p, -1048577 ≤ F (innerS a s k) p ∧ F (innerS a s k) p ≤ 1048577
theorem ends_low {a : XAir} {s : XSetting} (ha : AirOk a) : Ends flowLow a s := ⟨fun k hk p => by have := (flowLow_is (s := s) ha (r := (k : Int)) (by omega) p).bnd; omega⟩
theorem ends_high {a : XAir} {s : XSetting} (ha : AirOk a) : Ends flowHigh a s := ⟨fun k hk p => by have := (flowHigh_is (s := s) ha (r := (k : Int)) (by omega) p).bnd; omega⟩

section
variable {F G : (Int → XSpan) → Int → Int} {a : XAir} {s : XSetting} {ps : List Int} {v : Int}
theorem termN_bounds (hF : Ends F a s) (hG : Ends G a s) {k : Nat} (hk : k < a.mine.roads.l.length) : -1048577 ≤ termN F G a s ps v k ∧ termN F G a s ps v k ≤ 1048577 := by
  have h1 := hF.bnd k hk (diffN a ps k)
  have h2 := hG.bnd k hk (diffN a ps k)
  unfold termN
  split
  · omega
  · split
    · exact h1
    · split <;> omega
theorem sumN_bounds (hF : Ends F a s) (hG : Ends G a s) : ∀ k : Nat, k ≤ a.mine.roads.l.length → -(1048577 * (k : Int)) ≤ sumN F G a s ps v k ∧ sumN F G a s ps v k ≤ 1048577 * (k : Int)
  | 0, _ => by simp [sumN]
  | k + 1, hk => by
    have ih := sumN_bounds hF hG k (by omega)
    have h := termN_bounds (ps := ps) (v := v) hF hG (k := k) (by omega)
    rw [sumN]
    omega

end

structure MonoE (F : (Int → XSpan) → Int → Int) (a : XAir) (s : XSetting) : Prop where
  mono : ∀ k : Nat, k < a.mine.roads.l.length → ∀ p q : Int, p ≤ q → F (innerS a s k) p ≤ F (innerS a s k) q
theorem mono_low {a : XAir} {s : XSetting} (ha : AirOk a) : MonoE flowLow a s := ⟨fun k hk p q h => flowLow_mono (s := s) ha (r := (k : Int)) (by omega) h⟩
theorem mono_high {a : XAir} {s : XSetting} (ha : AirOk a) : MonoE flowHigh a s := ⟨fun k hk p q h => flowHigh_mono (s := s) ha (r := (k : Int)) (by omega) h⟩
structure Above (ps qs : List Int) (v : Int) : Prop where
  own : ps.getD v.toNat 0 ≤ qs.getD v.toNat 0
  rest : ∀ k : Nat, k ≠ v.toNat → qs.getD k 0 ≤ ps.getD k 0
theorem sumN_mono {F G : (Int → XSpan) → Int → Int} {a : XAir} {s : XSetting} {ps qs : List Int} {v : Int} (ha : AirOk a) (hF : MonoE F a s) (hG : MonoE G a s) (h : Above ps qs v) : ∀ k : Nat, k ≤ a.mine.roads.l.length → sumN F G a s ps v k ≤ sumN F G a s qs v k
  | 0, _ => Int.le_refl _
  | k + 1, hk => by
    have ih := sumN_mono ha hF hG h k (by omega)
    have hro := ha.mine.road k _ (get_D default (by omega))
    have h1 := hro.fr
    have h2 := hro.to
    have h3 := hro.ne
    have ho := h.own
    rw [sumN, sumN, termN, termN]
    split
    · omega
    · split
      · rename_i hf
        have hr := h.rest (a.mine.roads.l.getD k default).to.toNat (by omega)
        have := hF.mono k (by omega) (diffN a ps k) (diffN a qs k) (by rw [diffN, diffN, hf]; omega)
        omega
      · split
        · rename_i hf ht
          have hr := h.rest (a.mine.roads.l.getD k default).fr.toNat (by omega)
          have := hG.mono k (by omega) (diffN a qs k) (diffN a ps k) (by rw [diffN, diffN, ht]; omega)
          omega
        · omega
theorem lowN_mono {a : XAir} {s : XSetting} {ps qs : List Int} {v : Int} (ha : AirOk a) (h : Above ps qs v) : lowN a s ps v ≤ lowN a s qs v := sumN_mono ha (mono_low ha) (mono_high ha) h _ (Nat.le_refl _)
theorem highN_mono {a : XAir} {s : XSetting} {ps qs : List Int} {v : Int} (ha : AirOk a) (h : Above ps qs v) : highN a s ps v ≤ highN a s qs v := sumN_mono ha (mono_high ha) (mono_low ha) h _ (Nat.le_refl _)
theorem getD_setK {l : List Int} {k i : Nat} {v : Int} (hk : k < l.length) : (l.set k v).getD i 0 = if i = k then v else l.getD i 0 := by
  rw [List.getD_eq_getElem?_getD, List.getElem?_set, List.getD_eq_getElem?_getD]
  split
  · rename_i h; subst h; simp [hk]
  · rename_i h; rw [if_neg (fun e => h e.symm)]
theorem above_set {ps : List Int} {v x y : Int} (hv : v.toNat < ps.length) (h : x ≤ y) : Above (ps.set v.toNat x) (ps.set v.toNat y) v :=
  ⟨by rw [getD_setK hv, getD_setK hv, if_pos rfl, if_pos rfl]; exact h, fun k hk => by rw [getD_setK hv, getD_setK hv, if_neg hk, if_neg hk]; exact Int.le_refl _⟩
theorem set_self {l : List Int} {k : Nat} : l.set k (l.getD k 0) = l := by
  rcases Nat.lt_or_ge k l.length with h | h
  · have := get_D (l := l) (k := k) 0 h
    obtain ⟨_, h2⟩ := List.getElem?_eq_some_iff.1 this
    rw [← h2, List.set_getElem_self]
  · exact List.set_eq_of_length_le h

def PresOk (ps : List Int) : Prop := ∀ p ∈ ps, -70368744177664 ≤ p ∧ p ≤ 70368744177664
theorem PresOk.get {ps : List Int} (h : PresOk ps) (k : Nat) : -70368744177664 ≤ ps.getD k 0 ∧ ps.getD k 0 ≤ 70368744177664 := by
  rcases Nat.lt_or_ge k ps.length with h' | h'
  · exact h _ (List.mem_of_getElem? (get_D (l := ps) 0 h'))
  · rw [List.getD_eq_getElem?_getD, List.getElem?_eq_none h']; decide
theorem PresOk.set {ps : List Int} (h : PresOk ps) (k : Nat) {x : Int} (hx : -70368744177664 ≤ x ∧ x ≤ 70368744177664) : PresOk (ps.set k x) := fun p hp => by
  rcases List.mem_or_eq_of_mem_set hp with h1 | h1
  · exact h p h1
  · rw [h1]; exact hx
end Go.Proofs.Ytlgjgigciapkfaa

end
section
namespace Go.Proofs.Ytlgjgigciapkfaa
open Go.Aw Go
set_option maxRecDepth 20000
attribute [local irreducible] CJ LJ DJ Tri YV Gives seqK blockK loopK retK RV mergeK OwL.L

section
variable {F G : (Int → XSpan) → Int → Int} {a : XAir} {s : XSetting} {ps : List Int} {v : Int}
end
theorem refLow_tri (a : XAir) (s : XSetting) (ps : Arr Int) (v : Int) (L : List Blk) (R : List Sl) (hm : AirR a R) (hs : SetR s R) (hps : InR (isl ps) R) (ha : AirOk a) (hf : FitOk a s) (hl : ps.l.length = a.mine.places.l.length) (hb : PresOk ps.l) :
    Tri Try.prog 162 [a.val, s.val, ps.val, .int .i64 v].toArray L R (fun w L' R' => w = .int .i64 (lowN a s ps.l v) ∧ L = L' ∧ R = R') := by
  have hnr := ha.mine.roads
  have hmr := hm.roads
  refine tri_enter 71 Try.call162 Try.func162 rfl rfl rfl ?_
  refine qae ?_
  refine qax ?_
  intro b4
  refine qax ?_
  intro b5
  refine qad ?_
  refine qam ?_
  refine qad ?_
  refine qaw ?_
  refine qad ?_
  refine qa2 ?_
  refine CJ_forget [(2, Value.slice _ _ _), (3, Value.int _ _), (4, Value.pointer _), (5, Value.pointer _), (9, Value.int _ _), (10, Value.int _ _)] (by repeat' (first | exact trivial | refine And.intro rfl ?_)) fun tq0 => ?_
  refine q_s [9, 10, 11, 12, 13, 14, 15, 16, 17, 18, 19, 20, 21, 22, 23, 24, 25, 26, 27, 28, 29, 30, 31, 32, 33, 34, 35, 36, 37, 38, 39, 40, 41, 42, 43, 44, 45, 46, 47, 48, 49, 50, 51, 52, 53, 54, 55, 56, 57, 58, 59, 60, 61, 62, 63, 64, 65, 66, 67, 68, 69] (fun g : {k : Nat // k ≤ a.mine.roads.l.length} => [(9, .int .i64 (sumN flowLow flowHigh a s ps.l v g.1)), (10, .int .i64 ((g.1 : Nat) : Int))]) (fun g => a.mine.roads.l.length - g.1) (⟨0, by omega⟩) ?_
  rintro ⟨k, hk⟩ junk
  try dsimp only
  refine qbi ?_
  refine qaa ?_
  refine qab ?_
  refine qab ?_
  refine qac ?_
  refine qag ?_
  refine qaj ?_
  refine qaf ?_
  refine q_c (fun hc0 => ?_) (fun hc0 => ?_)
  ·
   have hro := get_D (l := a.mine.roads.l) (k := k) default (by omega)
   have hrk := ha.mine.road _ _ hro
   have hr1 := hrk.fr
   have hr2 := hrk.to
   have hr3 := hrk.ne
   have hsb := sumN_bounds (ps := ps.l) (v := v) (ends_low (s := s) ha) (ends_high (s := s) ha) k hk
   have hpf := get_D (l := ps.l) (k := (a.mine.roads.l.getD k default).fr.toNat) 0 (by omega)
   have hpt := get_D (l := ps.l) (k := (a.mine.roads.l.getD k default).to.toNat) 0 (by omega)
   have hbf := hb.get (a.mine.roads.l.getD k default).fr.toNat
   have hbt := hb.get (a.mine.roads.l.getD k default).to.toNat
   have hfl := (ends_low (s := s) ha).bnd k (by omega) (diffN a ps.l k)
   have hfh := (ends_high (s := s) ha).bnd k (by omega) (diffN a ps.l k)
   rw [diffN] at hfl hfh
   have hst : sumN flowLow flowHigh a s ps.l v (k + 1) = sumN flowLow flowHigh a s ps.l v k + termN flowLow flowHigh a s ps.l v k := rfl
   rw [termN, diffN] at hst
   refine qbb ?_
   refine qab ?_
   refine qab ?_
   refine qac ?_
   refine qaa ?_
   refine yanal ?_
   refine qc8 ?_
   refine qaq ?_
   intro b11
   refine qak ?_
   refine qaw ?_
   refine qab ?_
   refine qac ?_
   refine qaf ?_
   refine q_c (fun hc1 => ?_) (fun hc1 => ?_)
   ·
    rw [if_pos hc1, Int.add_zero] at hst
    refine CJ_exit (seqK_exit (blockK_exit (seqK_normal (CJ_region ?_))))
    refine qaa ?_
    refine qar ?_
    refine qad ?_
    refine qav ?_
    exact loopK_mk ⟨k + 1, by omega⟩ (by repeat (first | exact Off.refl | apply Off.upd rfl | apply Off.havoc rfl | apply Off.updL rfl | apply Off.left rfl)) (by dsimp only; rw [hst]; exact (by repeat' (first | exact trivial | refine And.intro rfl ?_))) (by repeat (first | exact zs0 _ | exact zs1 _ | apply zs2 | apply zs3 | apply zs4 | apply zs5)) (allR_self _) (by dsimp only; omega)
   rw [if_neg (by simpa using hc1)] at hst
   refine qbo ?_
   refine qab ?_
   refine qac ?_
   refine qaa ?_
   refine qbn ?_
   refine qaf ?_
   refine q_c (fun hc2 => ?_) (fun hc2 => ?_)
   ·
    rw [if_pos hc2] at hst
    refine yanab ?_
    refine qao ?_
    refine qbc ?_
    refine qbd ?_
    refine qao ?_
    refine yanaa ?_
    refine qal ?_
    refine qat ?_
    refine yanac ?_
    refine qbl ?_
    refine yanaa ?_
    refine qal ?_
    refine qat ?_
    refine yanad ?_
    refine qbl ?_
    refine qb7 ?_
    refine q_d rfl (lowest_tri a s k (ps.l.getD (a.mine.roads.l.getD k default).fr.toNat 0 - ps.l.getD (a.mine.roads.l.getD k default).to.toNat 0) _ _ hm hs ha hf (by omega)) ?_
    refine qc2 ?_
    refine qcg ?_
    refine DJ_nil (seqK_normal (CJ_seq (CJ_region ?_)))
    refine qab ?_
    refine qac ?_
    refine qaa ?_
    refine qbn ?_
    refine qaf ?_
    refine q_c (fun hc3 => ?_) (fun hc3 => ?_)
    ·
     refine yanab ?_
     refine qao ?_
     refine qbc ?_
     refine qbd ?_
     refine qao ?_
     refine yanaa ?_
     refine qal ?_
     refine qat ?_
     refine yanac ?_
     refine qbl ?_
     refine yanaa ?_
     refine qal ?_
     refine qat ?_
     refine yanad ?_
     refine qbl ?_
     refine qb7 ?_
     refine q_d rfl (highest_tri a s k (ps.l.getD (a.mine.roads.l.getD k default).fr.toNat 0 - ps.l.getD (a.mine.roads.l.getD k default).to.toNat 0) _ _ hm hs ha hf (by omega)) ?_
     refine qb7 ?_
     refine qcg ?_
     refine qby ?_
     refine qaa ?_
     refine qar ?_
     refine qad ?_
     refine qav ?_
     first | (exfalso; omega) | (rw [if_pos hc3, ← Int.sub_eq_add_neg] at hst; exact loopK_mk ⟨k + 1, by omega⟩ (by repeat (first | exact Off.refl | apply Off.upd rfl | apply Off.havoc rfl | apply Off.updL rfl | apply Off.left rfl)) (by dsimp only; rw [hst]; exact (by repeat' (first | exact trivial | refine And.intro rfl ?_))) (by repeat (first | exact zs0 _ | exact zs1 _ | apply zs2 | apply zs3 | apply zs4 | apply zs5)) (allR_self _) (by dsimp only; omega))
    refine qbj ?_
    refine qaa ?_
    refine qar ?_
    refine qad ?_
    refine qav ?_
    first | (rw [if_neg hc3, Int.add_zero] at hst; exact loopK_mk ⟨k + 1, by omega⟩ (by repeat (first | exact Off.refl | apply Off.upd rfl | apply Off.havoc rfl | apply Off.updL rfl | apply Off.left rfl)) (by dsimp only; rw [hst]; exact (by repeat' (first | exact trivial | refine And.intro rfl ?_))) (by repeat (first | exact zs0 _ | exact zs1 _ | apply zs2 | apply zs3 | apply zs4 | apply zs5)) (allR_self _) (by dsimp only; omega)) | exact loopK_mk ⟨k + 1, by omega⟩ (by repeat (first | exact Off.refl | apply Off.upd rfl | apply Off.havoc rfl | apply Off.updL rfl | apply Off.left rfl)) (by dsimp only; rw [hst]; exact (by repeat' (first | exact trivial | refine And.intro rfl ?_))) (by repeat (first | exact zs0 _ | exact zs1 _ | apply zs2 | apply zs3 | apply zs4 | apply zs5)) (allR_self _) (by dsimp only; omega)
   rw [if_neg hc2] at hst
   refine qbv ?_
   refine qab ?_
   refine qac ?_
   refine qaa ?_
   refine qbn ?_
   refine qaf ?_
   refine q_c (fun hc3 => ?_) (fun hc3 => ?_)
   ·
    refine yanab ?_
    refine qao ?_
    refine qbc ?_
    refine qbd ?_
    refine qao ?_
    refine yanaa ?_
    refine qal ?_
    refine qat ?_
    refine yanac ?_
    refine qbl ?_
    refine yanaa ?_
    refine qal ?_
    refine qat ?_
    refine yanad ?_
    refine qbl ?_
    refine qb7 ?_
    refine q_d rfl (highest_tri a s k (ps.l.getD (a.mine.roads.l.getD k default).fr.toNat 0 - ps.l.getD (a.mine.roads.l.getD k default).to.toNat 0) _ _ hm hs ha hf (by omega)) ?_
    refine qb7 ?_
    refine qcg ?_
    refine qby ?_
    refine qaa ?_
    refine qar ?_
    refine qad ?_
    refine qav ?_
    first | (exfalso; omega) | (rw [if_pos hc3, ← Int.sub_eq_add_neg] at hst; exact loopK_mk ⟨k + 1, by omega⟩ (by repeat (first | exact Off.refl | apply Off.upd rfl | apply Off.havoc rfl | apply Off.updL rfl | apply Off.left rfl)) (by dsimp only; rw [hst]; exact (by repeat' (first | exact trivial | refine And.intro rfl ?_))) (by repeat (first | exact zs0 _ | exact zs1 _ | apply zs2 | apply zs3 | apply zs4 | apply zs5)) (allR_self _) (by dsimp only; omega))
   refine qbj ?_
   refine qaa ?_
   refine qar ?_
   refine qad ?_
   refine qav ?_
   first | (rw [if_neg hc3, Int.add_zero] at hst; exact loopK_mk ⟨k + 1, by omega⟩ (by repeat (first | exact Off.refl | apply Off.upd rfl | apply Off.havoc rfl | apply Off.updL rfl | apply Off.left rfl)) (by dsimp only; rw [hst]; exact (by repeat' (first | exact trivial | refine And.intro rfl ?_))) (by repeat (first | exact zs0 _ | exact zs1 _ | apply zs2 | apply zs3 | apply zs4 | apply zs5)) (allR_self _) (by dsimp only; omega)) | exact loopK_mk ⟨k + 1, by omega⟩ (by repeat (first | exact Off.refl | apply Off.upd rfl | apply Off.havoc rfl | apply Off.updL rfl | apply Off.left rfl)) (by dsimp only; rw [hst]; exact (by repeat' (first | exact trivial | refine And.intro rfl ?_))) (by repeat (first | exact zs0 _ | exact zs1 _ | apply zs2 | apply zs3 | apply zs4 | apply zs5)) (allR_self _) (by dsimp only; omega)
  obtain rfl : k = a.mine.roads.l.length := by omega
  refine qbk ?_
  refine qaa ?_
  refine qad ?_
  refine qa0 ?_
  refine q_i (L' := L) (R' := R) ?_
  exact ⟨rfl, rfl, rfl⟩

theorem refHigh_tri (a : XAir) (s : XSetting) (ps : Arr Int) (v : Int) (L : List Blk) (R : List Sl) (hm : AirR a R) (hs : SetR s R) (hps : InR (isl ps) R) (ha : AirOk a) (hf : FitOk a s) (hl : ps.l.length = a.mine.places.l.length) (hb : PresOk ps.l) :
    Tri Try.prog 163 [a.val, s.val, ps.val, .int .i64 v].toArray L R (fun w L' R' => w = .int .i64 (highN a s ps.l v) ∧ L = L' ∧ R = R') := by
  have hnr := ha.mine.roads
  have hmr := hm.roads
  refine tri_enter 71 Try.call163 Try.func163 rfl rfl rfl ?_
  refine qae ?_
  refine qax ?_
  intro b4
  refine qax ?_
  intro b5
  refine qad ?_
  refine qam ?_
  refine qad ?_
  refine qaw ?_
  refine qad ?_
  refine qa2 ?_
  refine CJ_forget [(2, Value.slice _ _ _), (3, Value.int _ _), (4, Value.pointer _), (5, Value.pointer _), (9, Value.int _ _), (10, Value.int _ _)] (by repeat' (first | exact trivial | refine And.intro rfl ?_)) fun tq0 => ?_
  refine q_s [9, 10, 11, 12, 13, 14, 15, 16, 17, 18, 19, 20, 21, 22, 23, 24, 25, 26, 27, 28, 29, 30, 31, 32, 33, 34, 35, 36, 37, 38, 39, 40, 41, 42, 43, 44, 45, 46, 47, 48, 49, 50, 51, 52, 53, 54, 55, 56, 57, 58, 59, 60, 61, 62, 63, 64, 65, 66, 67, 68, 69] (fun g : {k : Nat // k ≤ a.mine.roads.l.length} => [(9, .int .i64 (sumN flowHigh flowLow a s ps.l v g.1)), (10, .int .i64 ((g.1 : Nat) : Int))]) (fun g => a.mine.roads.l.length - g.1) (⟨0, by omega⟩) ?_
  rintro ⟨k, hk⟩ junk
  try dsimp only
  refine qbi ?_
  refine qaa ?_
  refine qab ?_
  refine qab ?_
  refine qac ?_
  refine qag ?_
  refine qaj ?_
  refine qaf ?_
  refine q_c (fun hc0 => ?_) (fun hc0 => ?_)
  ·
   have hro := get_D (l := a.mine.roads.l) (k := k) default (by omega)
   have hrk := ha.mine.road _ _ hro
   have hr1 := hrk.fr
   have hr2 := hrk.to
   have hr3 := hrk.ne
   have hsb := sumN_bounds (ps := ps.l) (v := v) (ends_high (s := s) ha) (ends_low (s := s) ha) k hk
   have hpf := get_D (l := ps.l) (k := (a.mine.roads.l.getD k default).fr.toNat) 0 (by omega)
   have hpt := get_D (l := ps.l) (k := (a.mine.roads.l.getD k default).to.toNat) 0 (by omega)
   have hbf := hb.get (a.mine.roads.l.getD k default).fr.toNat
   have hbt := hb.get (a.mine.roads.l.getD k default).to.toNat
   have hfl := (ends_high (s := s) ha).bnd k (by omega) (diffN a ps.l k)
   have hfh := (ends_low (s := s) ha).bnd k (by omega) (diffN a ps.l k)
   rw [diffN] at hfl hfh
   have hst : sumN flowHigh flowLow a s ps.l v (k + 1) = sumN flowHigh flowLow a s ps.l v k + termN flowHigh flowLow a s ps.l v k := rfl
   rw [termN, diffN] at hst
   refine qbb ?_
   refine qab ?_
   refine qab ?_
   refine qac ?_
   refine qaa ?_
   refine yanal ?_
   refine qc8 ?_
   refine qaq ?_
   intro b11
   refine qak ?_
   refine qaw ?_
   refine qab ?_
   refine qac ?_
   refine qaf ?_
   refine q_c (fun hc1 => ?_) (fun hc1 => ?_)
   ·
    rw [if_pos hc1, Int.add_zero] at hst
    refine CJ_exit (seqK_exit (blockK_exit (seqK_normal (CJ_region ?_))))
    refine qaa ?_
    refine qar ?_
    refine qad ?_
    refine qav ?_
    exact loopK_mk ⟨k + 1, by omega⟩ (by repeat (first | exact Off.refl | apply Off.upd rfl | apply Off.havoc rfl | apply Off.updL rfl | apply Off.left rfl)) (by dsimp only; rw [hst]; exact (by repeat' (first | exact trivial | refine And.intro rfl ?_))) (by repeat (first | exact zs0 _ | exact zs1 _ | apply zs2 | apply zs3 | apply zs4 | apply zs5)) (allR_self _) (by dsimp only; omega)
   rw [if_neg (by simpa using hc1)] at hst
   refine qbo ?_
   refine qab ?_
   refine qac ?_
   refine qaa ?_
   refine qbn ?_
   refine qaf ?_
   refine q_c (fun hc2 => ?_) (fun hc2 => ?_)
   ·
    rw [if_pos hc2] at hst
    refine yanab ?_
    refine qao ?_
    refine qbc ?_
    refine qbd ?_
    refine qao ?_
    refine yanaa ?_
    refine qal ?_
    refine qat ?_
    refine yanac ?_
    refine qbl ?_
    refine yanaa ?_
    refine qal ?_
    refine qat ?_
    refine yanad ?_
    refine qbl ?_
    refine qb7 ?_
    refine q_d rfl (highest_tri a s k (ps.l.getD (a.mine.roads.l.getD k default).fr.toNat 0 - ps.l.getD (a.mine.roads.l.getD k default).to.toNat 0) _ _ hm hs ha hf (by omega)) ?_
    refine qc2 ?_
    refine qcg ?_
    refine DJ_nil (seqK_normal (CJ_seq (CJ_region ?_)))
    refine qab ?_
    refine qac ?_
    refine qaa ?_
    refine qbn ?_
    refine qaf ?_
    refine q_c (fun hc3 => ?_) (fun hc3 => ?_)
    ·
     refine yanab ?_
     refine qao ?_
     refine qbc ?_
     refine qbd ?_
     refine qao ?_
     refine yanaa ?_
     refine qal ?_
     refine qat ?_
     refine yanac ?_
     refine qbl ?_
     refine yanaa ?_
     refine qal ?_
     refine qat ?_
     refine yanad ?_
     refine qbl ?_
     refine qb7 ?_
     refine q_d rfl (lowest_tri a s k (ps.l.getD (a.mine.roads.l.getD k default).fr.toNat 0 - ps.l.getD (a.mine.roads.l.getD k default).to.toNat 0) _ _ hm hs ha hf (by omega)) ?_
     refine qb7 ?_
     refine qcg ?_
     refine qby ?_
     refine qaa ?_
     refine qar ?_
     refine qad ?_
     refine qav ?_
     first | (exfalso; omega) | (rw [if_pos hc3, ← Int.sub_eq_add_neg] at hst; exact loopK_mk ⟨k + 1, by omega⟩ (by repeat (first | exact Off.refl | apply Off.upd rfl | apply Off.havoc rfl | apply Off.updL rfl | apply Off.left rfl)) (by dsimp only; rw [hst]; exact (by repeat' (first | exact trivial | refine And.intro rfl ?_))) (by repeat (first | exact zs0 _ | exact zs1 _ | apply zs2 | apply zs3 | apply zs4 | apply zs5)) (allR_self _) (by dsimp only; omega))
    refine qbj ?_
    refine qaa ?_
    refine qar ?_
    refine qad ?_
    refine qav ?_
    first | (rw [if_neg hc3, Int.add_zero] at hst; exact loopK_mk ⟨k + 1, by omega⟩ (by repeat (first | exact Off.refl | apply Off.upd rfl | apply Off.havoc rfl | apply Off.updL rfl | apply Off.left rfl)) (by dsimp only; rw [hst]; exact (by repeat' (first | exact trivial | refine And.intro rfl ?_))) (by repeat (first | exact zs0 _ | exact zs1 _ | apply zs2 | apply zs3 | apply zs4 | apply zs5)) (allR_self _) (by dsimp only; omega)) | exact loopK_mk ⟨k + 1, by omega⟩ (by repeat (first | exact Off.refl | apply Off.upd rfl | apply Off.havoc rfl | apply Off.updL rfl | apply Off.left rfl)) (by dsimp only; rw [hst]; exact (by repeat' (first | exact trivial | refine And.intro rfl ?_))) (by repeat (first | exact zs0 _ | exact zs1 _ | apply zs2 | apply zs3 | apply zs4 | apply zs5)) (allR_self _) (by dsimp only; omega)
   rw [if_neg hc2] at hst
   refine qbv ?_
   refine qab ?_
   refine qac ?_
   refine qaa ?_
   refine qbn ?_
   refine qaf ?_
   refine q_c (fun hc3 => ?_) (fun hc3 => ?_)
   ·
    refine yanab ?_
    refine qao ?_
    refine qbc ?_
    refine qbd ?_
    refine qao ?_
    refine yanaa ?_
    refine qal ?_
    refine qat ?_
    refine yanac ?_
    refine qbl ?_
    refine yanaa ?_
    refine qal ?_
    refine qat ?_
    refine yanad ?_
    refine qbl ?_
    refine qb7 ?_
    refine q_d rfl (lowest_tri a s k (ps.l.getD (a.mine.roads.l.getD k default).fr.toNat 0 - ps.l.getD (a.mine.roads.l.getD k default).to.toNat 0) _ _ hm hs ha hf (by omega)) ?_
    refine qb7 ?_
    refine qcg ?_
    refine qby ?_
    refine qaa ?_
    refine qar ?_
    refine qad ?_
    refine qav ?_
    first | (exfalso; omega) | (rw [if_pos hc3, ← Int.sub_eq_add_neg] at hst; exact loopK_mk ⟨k + 1, by omega⟩ (by repeat (first | exact Off.refl | apply Off.upd rfl | apply Off.havoc rfl | apply Off.updL rfl | apply Off.left rfl)) (by dsimp only; rw [hst]; exact (by repeat' (first | exact trivial | refine And.intro rfl ?_))) (by repeat (first | exact zs0 _ | exact zs1 _ | apply zs2 | apply zs3 | apply zs4 | apply zs5)) (allR_self _) (by dsimp only; omega))
   refine qbj ?_
   refine qaa ?_
   refine qar ?_
   refine qad ?_
   refine qav ?_
   first | (rw [if_neg hc3, Int.add_zero] at hst; exact loopK_mk ⟨k + 1, by omega⟩ (by repeat (first | exact Off.refl | apply Off.upd rfl | apply Off.havoc rfl | apply Off.updL rfl | apply Off.left rfl)) (by dsimp only; rw [hst]; exact (by repeat' (first | exact trivial | refine And.intro rfl ?_))) (by repeat (first | exact zs0 _ | exact zs1 _ | apply zs2 | apply zs3 | apply zs4 | apply zs5)) (allR_self _) (by dsimp only; omega)) | exact loopK_mk ⟨k + 1, by omega⟩ (by repeat (first | exact Off.refl | apply Off.upd rfl | apply Off.havoc rfl | apply Off.updL rfl | apply Off.left rfl)) (by dsimp only; rw [hst]; exact (by repeat' (first | exact trivial | refine And.intro rfl ?_))) (by repeat (first | exact zs0 _ | exact zs1 _ | apply zs2 | apply zs3 | apply zs4 | apply zs5)) (allR_self _) (by dsimp only; omega)
  obtain rfl : k = a.mine.roads.l.length := by omega
  refine qbk ?_
  refine qaa ?_
  refine qad ?_
  refine qa0 ?_
  refine q_i (L' := L) (R' := R) ?_
  exact ⟨rfl, rfl, rfl⟩

end Go.Proofs.Ytlgjgigciapkfaa

end
section
namespace Go.Proofs.Ytlgjgigciapkfaa
open Go.Aw Go
set_option maxRecDepth 20000
attribute [local irreducible] CJ LJ DJ Tri YV Gives seqK blockK loopK retK RV mergeK OwL.L

abbrev sgn (up : Bool) : Int := if up then 1 else -1
abbrev room (up : Bool) (start : Int) : Int := if up then 70368744177664 - start else start + 70368744177664
structure First (g : Int → Bool) (start : Int) (up : Bool) (v : Int) (ok : Bool) : Prop where
  yes : ok = true → ∃ m, 0 ≤ m ∧ m ≤ room up start ∧ v = start + sgn up * m ∧ g v = true ∧ ∀ j, 0 ≤ j → j < m → g (start + sgn up * j) = false
  no : ok = false → v = 0 ∧ ∀ j, 0 ≤ j → j ≤ room up start → g (start + sgn up * j) = false
def Stays (g : Int → Bool) (start : Int) (up : Bool) : Prop := ∀ i j, 0 ≤ i → i ≤ j → j ≤ room up start → g (start + sgn up * i) = true → g (start + sgn up * j) = true
theorem Stays.no {g : Int → Bool} {start : Int} {up : Bool} (h : Stays g start up) {i j : Int} (h0 : 0 ≤ i) (hij : i ≤ j) (hj : j ≤ room up start) (hg : g (start + sgn up * j) = false) : g (start + sgn up * i) = false := by
  cases e : g (start + sgn up * i) with
  | false => rfl
  | true => rw [h i j h0 hij hj e] at hg; cases hg

theorem sgn_in {up : Bool} {start z : Int} (hs : -70368744177664 ≤ start ∧ start ≤ 70368744177664) (h : 0 ≤ z ∧ z ≤ room up start) : -70368744177664 ≤ start + sgn up * z ∧ start + sgn up * z ≤ 70368744177664 := by
  cases up <;> simp only [sgn, room] at h ⊢ <;> simp at h ⊢ <;> omega
theorem room_in {up : Bool} {start : Int} (hs : -70368744177664 ≤ start ∧ start ≤ 70368744177664) : 0 ≤ room up start ∧ room up start ≤ 140737488355328 := by
  cases up <;> simp [room] <;> omega

end Go.Proofs.Ytlgjgigciapkfaa

end
section
namespace Go.Proofs.Ytlgjgigciapkfaa
open Go.Aw Go
set_option maxRecDepth 20000
attribute [local irreducible] CJ LJ DJ Tri YV Gives seqK blockK loopK retK RV mergeK OwL.L

theorem Tri.lend1 {P : Program} {f : FuncId} {args : Array Value} {A : List Blk} {R : List Sl} {p : OwL Int} {T : TypeId} {u : Value} (hin : InB (p.L T icell) A) (hok : p.ok 1 icell)
    (h : Tri P f args [] (isl p.arr :: R) (fun v L' R' => v = u ∧ [] = L' ∧ isl p.arr :: R = R')) : Tri P f args A R (fun v L' R' => v = u ∧ A = L' ∧ R = R') := by
  have h2 := Tri.lend (S := [isl p.arr]) (Post := fun v L' => v = u ∧ [] = L') (Spl.rest (L := A)) (fun w G hh s hs => by
    rw [List.mem_singleton.1 hs]
    exact lend_rep hh hin hok (fun _ => rfl) (by decide) (fun s hs => by cases hs)) (h.mono fun v L' R' ⟨a1, a2, a3⟩ => ⟨⟨a1, a2⟩, a3⟩)
  exact h2.mono fun v L'' R' ⟨L', e, ⟨a1, a2⟩, a3⟩ => ⟨a1, by rw [← a2, List.append_nil] at e; exact e, a3⟩

theorem setv {o : Ow} {l : List Int} {k : Nat} {y : Int} : (⟨o, l⟩ : OwL Int).val = (⟨o, l.set k y⟩ : OwL Int).val := OwL.set_val.symm

structure HypsR (a : XAir) (s : XSetting) (ps : List Int) (v : Int) (R : List Sl) : Prop where
  air : AirR a R
  set : SetR s R
  ok : AirOk a
  fit : FitOk a s
  len : ps.length = a.mine.places.l.length
  pres : PresOk ps
  v : 0 ≤ v ∧ v < a.mine.places.l.length
theorem refLowL {a : XAir} {s : XSetting} {o : Ow} {ps : List Int} {v y : Int} {A : List Blk} {R : List Sl} (h : HypsR a s ps v R) (hy : -70368744177664 ≤ y ∧ y ≤ 70368744177664) (hin : InB ((⟨o, ps.set v.toNat y⟩ : OwL Int).L 3 icell) A) (hok : (⟨o, ps.set v.toNat y⟩ : OwL Int).ok 1 icell) :
    Tri Try.prog 162 [a.val, s.val, (⟨o, ps⟩ : OwL Int).val, .int .i64 v].toArray A R (fun w L' R' => w = .int .i64 (lowN a s (ps.set v.toNat y) v) ∧ A = L' ∧ R = R') := by
  rw [setv (k := v.toNat) (y := y)]
  exact Tri.lend1 hin hok (refLow_tri a s (⟨o, ps.set v.toNat y⟩ : OwL Int).arr v [] _ (airR_mono h.air fun r hr => inR_self (.tail _ hr)) (setR_mono h.set fun r hr => inR_self (.tail _ hr)) (inR_self (.head _)) h.ok h.fit (by simp [h.len]) (h.pres.set _ hy))

theorem refHighL {a : XAir} {s : XSetting} {o : Ow} {ps : List Int} {v y : Int} {A : List Blk} {R : List Sl} (h : HypsR a s ps v R) (hy : -70368744177664 ≤ y ∧ y ≤ 70368744177664) (hin : InB ((⟨o, ps.set v.toNat y⟩ : OwL Int).L 3 icell) A) (hok : (⟨o, ps.set v.toNat y⟩ : OwL Int).ok 1 icell) :
    Tri Try.prog 163 [a.val, s.val, (⟨o, ps⟩ : OwL Int).val, .int .i64 v].toArray A R (fun w L' R' => w = .int .i64 (highN a s (ps.set v.toNat y) v) ∧ A = L' ∧ R = R') := by
  rw [setv (k := v.toNat) (y := y)]
  exact Tri.lend1 hin hok (refHigh_tri a s (⟨o, ps.set v.toNat y⟩ : OwL Int).arr v [] _ (airR_mono h.air fun r hr => inR_self (.tail _ hr)) (setR_mono h.set fun r hr => inR_self (.tail _ hr)) (inR_self (.head _)) h.ok h.fit (by simp [h.len]) (h.pres.set _ hy))

abbrev lowG (a : XAir) (s : XSetting) (ps : List Int) (v : Int) : Int → Bool := fun x => decide (0 ≤ lowN a s (ps.set v.toNat x) v)
abbrev highG (a : XAir) (s : XSetting) (ps : List Int) (v : Int) : Int → Bool := fun x => decide (highN a s (ps.set v.toNat x) v ≤ 0)
theorem lowG_stays {a : XAir} {s : XSetting} {ps : List Int} {v start : Int} (ha : AirOk a) (hv : v.toNat < ps.length) : Stays (lowG a s ps v) start true := by
  intro i j h0 hij hj hg
  rw [decide_eq_true_eq] at hg ⊢
  have := lowN_mono (s := s) ha (above_set (ps := ps) hv (show start + sgn true * i ≤ start + sgn true * j by simp only [sgn]; simp; omega))
  omega
theorem highG_stays {a : XAir} {s : XSetting} {ps : List Int} {v start : Int} (ha : AirOk a) (hv : v.toNat < ps.length) : Stays (highG a s ps v) start false := by
  intro i j h0 hij hj hg
  rw [decide_eq_true_eq] at hg ⊢
  have := highN_mono (s := s) ha (above_set (ps := ps) hv (show start + sgn false * j ≤ start + sgn false * i by simp only [sgn]; simp; omega))
  omega

end Go.Proofs.Ytlgjgigciapkfaa

end
section
namespace Go.Proofs.Ytlgjgigciapkfaa
open Go.Aw Go
set_option maxRecDepth 20000
attribute [local irreducible] CJ LJ DJ Tri YV Gives seqK blockK loopK retK RV mergeK OwL.L

theorem up_tri (a : XAir) (s : XSetting) (ps : Arr Int) (u : Int) (L : List Blk) (R : List Sl) (h : HypsR a s ps.l u R) (hps : InR (isl ps) R) :
    Tri Try.prog 180 [a.val, s.val, ps.val, .int .i64 u].toArray L R (fun w L' R' => ∃ (z : Int) (ok : Bool), w = .tuple #[.int .i64 z, .bool ok] ∧ First (lowG a s ps.l u) (ps.l.getD u.toNat 0) true z ok ∧ L = L' ∧ R = R') := by
  have hv := h.v
  have hlen := h.len
  have hnp := h.ok.mine.places
  obtain ⟨start, hstart⟩ : ∃ start, start = ps.l.getD u.toNat 0 := ⟨_, rfl⟩
  have hget : ps.l[u.toNat]? = some start := by rw [hstart]; exact get_D (l := ps.l) (k := u.toNat) 0 (by omega)
  have hb : -70368744177664 ≤ start ∧ start ≤ 70368744177664 := by rw [hstart]; exact h.pres.get u.toNat
  have hst := lowG_stays (s := s) (start := start) h.ok (ps := ps.l) (v := u) (by omega)
  have hself : ps.l.set u.toNat start = ps.l := by rw [hstart]; exact set_self
  have hgs : ∀ y, (ps.l.set u.toNat y)[u.toNat]? = some y := fun y => by rw [List.getElem?_set_self (by omega)]
  have hsg : ∀ j : Int, start + sgn true * j = start + j := fun j => by simp [sgn]
  have hrm : room true start = 70368744177664 - start := rfl
  rw [← hstart]
  refine tri_enter 86 Try.call180 Try.func180 rfl rfl rfl ?_
  refine qae ?_
  refine qax ?_
  intro b4
  refine qax ?_
  intro b5
  refine qad ?_
  refine qaz ?_
  refine qam ?_
  refine qbm ?_
  refine yanam ?_
  rintro v L' R' ⟨o15, rfl, hok15, rfl, rfl⟩
  refine qc4 ?_
  refine qco ?_
  have hok2 : ∀ z, (⟨o15, ps.l.set u.toNat z⟩ : OwL Int).ok 1 icell := fun z => OwL.len_ok icell_len hok15 (by simp)
  refine yanan ?_
  refine qay ?_
  refine qa8 ?_
  refine qbe ?_
  refine qbm ?_
  refine qaa ?_
  refine q_l rfl (refLowL (o := o15) (y := start) h hb (by repeat (first | exact inB_here | apply inB_cons | apply inB_app)) (hok2 start)) ?_
  refine qbz ?_
  refine qaf ?_
  refine q_c (fun hc0 => ?_) (fun hc0 => ?_)
  ·
   have hoks := hok2 start
   have hgy := hgs start
   refine qae ?_
   refine qbm ?_
   refine qaa ?_
   refine yanae ?_
   refine yanaf ?_
   refine qad ?_
   refine qaz ?_
   refine qbh ?_
   refine q_r (L' := L) (R' := R) (res2 rfl (rv_tmp (show _ = Value.int _ _ from rfl)) (rv_tmp (show _ = Value.bool _ from rfl))) ?_
   exact yanao
  have hoks := hok2 start
  have hgy := hgs start
  have hf0 : lowG a s ps.l u start = false := decide_eq_false hc0
  refine qbv ?_
  refine qbm ?_
  refine qaa ?_
  refine yanae ?_
  refine yanaf ?_
  refine qad ?_
  refine qad ?_
  refine qa4 ?_
  refine CJ_joinS [8, 9, 11, 12, 30, 31, 32, 33, 34, 35, 36, 37, 38, 39, 40, 41, 42, 43, 44, 45, 46, 47, 48, 49, 50, 51, 52, 53] ((⟨fun q => [(11, .int .i64 q.1.1)], fun q => (⟨o15, ps.l.set u.toNat q.1.2.2⟩ : OwL Int).L 3 icell ++ (⟨b5, s.cells, 40⟩ :: ⟨b4, a.cells, 30⟩ :: L), fun _ => R, fun _ => 0⟩ : Head {q : Int × Int × Int // (start ≤ q.1 ∧ q.1 ≤ 70368744177664) ∧ lowG a s ps.l u q.1 = false ∧ (q.1 < q.2.2 ∧ q.2.2 ≤ 70368744177664) ∧ lowG a s ps.l u q.2.2 = true})) ?_ ?_
  ·
   refine CJ_block ?_
   refine CJ_forgetW [8, 9, 11, 12, 30, 31, 32, 33, 34, 35, 36, 37, 38, 39, 40, 41, 42, 43, 44, 45, 46, 47, 48, 49, 50, 51, 52, 53] (by repeat (first | apply Off.upd rfl | apply Off.havoc rfl | refine Off.updL (t' := havoc _ _ _) rfl ?_ | exact Off.refl)) [(11, Value.int _ _), (12, Value.int _ _)] (by repeat' (first | exact trivial | refine And.intro rfl ?_)) fun tq0 => ?_
   refine q_p [8, 9, 11, 12, 30, 31, 32, 33, 34, 35, 36, 37, 38, 39, 40, 41, 42, 43, 44, 45, 46, 47, 48, 49, 50, 51, 52, 53] ((⟨fun q => [(11, .int .i64 q.1.1), (12, .int .i64 q.1.2.1)], fun q => (⟨o15, ps.l.set u.toNat q.1.2.2⟩ : OwL Int).L 3 icell ++ (⟨b5, s.cells, 40⟩ :: ⟨b4, a.cells, 30⟩ :: L), fun _ => R, fun q => (70368744177664 - q.1.1).toNat⟩ : Head {q : Int × Int × Int // (start ≤ q.1 ∧ q.1 ≤ 70368744177664) ∧ lowG a s ps.l u q.1 = false ∧ q.2.1 = q.1 - start + 1})) (⟨(start, 1, start), by dsimp only; omega, hf0, by dsimp only; omega⟩) ?_
   rintro ⟨⟨low, step, y⟩, j1, j2, j3⟩ junk
   try dsimp only
   dsimp only at j1 j2 j3
   have hoky := hok2 y
   have hgy := hgs y
   refine CJ_block (CJ_seq (CJ_region ?_))
   refine qbm ?_
   iterate 3 refine qaa ?_
   refine qar ?_
   refine LJ_q (yv_min2 rfl rfl) rfl ?_
   refine yanag ?_
   refine LJ_g0 (gives_store1_ow tb ((⟨o15, ps.l.set u.toNat y⟩ : OwL Int)) (min (low + step) 70368744177664) rfl rfl rfl rfl (by repeat (first | apply OSeg.cons | exact OSeg.here | exact OSeg.last | exact OSeg.at (by assumption) | apply OSeg.app)) (by assumption) (fun _ => rfl) (by assumption) (by decide) (by rfl) (by rfl)) ?_
   rintro v L' R' ⟨rfl, rfl⟩
   refine qco ?_
   obtain ⟨w, hw⟩ : ∃ w, w = min (low + step) 70368744177664 := ⟨_, rfl⟩
   have hwb : w ≤ 70368744177664 ∧ low ≤ w ∧ (w < 70368744177664 → w = low + step) := by omega
   rw [← hw]
   refine CJ_L (by rw [List.set_set]) ?_
   have hokw := hok2 w
   have hgw := hgs w
   refine qay ?_
   refine qa8 ?_
   refine qbe ?_
   refine qbm ?_
   refine qaa ?_
   refine q_l rfl (refLowL (o := o15) (y := w) h (by omega) (by repeat (first | exact inB_here | apply inB_cons | apply inB_app)) (hok2 w)) ?_
   refine qbz ?_
   refine qaf ?_
   refine q_c (fun hc1 => ?_) (fun hc1 => ?_)
   ·
    refine CJ_exit (seqK_exit ?_)
    refine blockK_other rfl ?_
    refine loopK_exit (blockK_exit ?_)
    have hgt : lowG a s ps.l u w = true := decide_eq_true hc1
    have hne : low ≠ w := fun e => by rw [e, hgt] at j2; cases j2
    exact joinK_mk ⟨(low, step, w), j1, j2, by dsimp only; omega, hgt⟩ (by repeat (first | exact Off.refl | apply Off.upd rfl | apply Off.havoc rfl | apply Off.updL rfl | apply Off.left rfl | apply Off.leftu rfl)) (by repeat' (first | exact trivial | refine And.intro rfl ?_)) (by repeat (first | exact zs0 _ | exact zs1 _ | apply zs2 | apply zs3 | apply zs4 | apply zs5)) (allR_self _)
   have hgf : lowG a s ps.l u w = false := decide_eq_false hc1
   refine qbo ?_
   refine qbm ?_
   refine qaa ?_
   refine yanah ?_
   refine yanai ?_
   refine qbn ?_
   refine qaf ?_
   refine q_c (fun hc2 => ?_) (fun hc2 => ?_)
   ·
    refine qae ?_
    refine qad ?_
    refine qaz ?_
    refine LJ_nil (seqK_normal (CJ_ret (seqK_ret (blockK_ret (loopK_ret (blockK_ret (joinK_ret ?_)))))))
    refine q_r (L' := L) (R' := R) (res2 rfl (rv_tmp (show _ = Value.int _ _ from rfl)) (rv_tmp (show _ = Value.bool _ from rfl))) ?_
    refine ⟨0, false, rfl, ⟨(fun h => by cases h), fun _ => ⟨rfl, fun j h1 h2 => ?_⟩⟩, rfl, rfl⟩
    refine hst.no h1 h2 (Int.le_refl _) ?_
    rw [hsg, hrm, show start + (70368744177664 - start) = w from by omega]; exact hgf
   refine qbv ?_
   refine qbm ?_
   refine qaa ?_
   refine yanah ?_
   refine yanai ?_
   refine qad ?_
   refine LJ_nil (seqK_normal (CJ_region ?_))
   refine qaa ?_
   refine qcm ?_
   refine qad ?_
   refine LJ_nil (blockK_normal ?_)
   exact q_k ⟨(w, step * 2, w), by dsimp only; omega, hgf, by dsimp only; omega⟩
  rintro ⟨⟨low, step, y⟩, j1, j2, j3, j4⟩ junk
  try dsimp only
  dsimp only at j1 j2 j3 j4
  have hoky := hok2 y
  have hgy := hgs y
  refine qae ?_
  refine qbm ?_
  refine qaa ?_
  refine yanag ?_
  refine yanap ?_
  refine qad ?_
  refine LJ_nil (seqK_normal (CJ_seq (CJ_block ?_)))
  refine CJ_forget [(3, Value.int _ _), (4, Value.pointer _), (5, Value.pointer _), (10, Value.slice _ _ _), (11, Value.int _ _), (13, Value.int _ _)] (by repeat' (first | exact trivial | refine And.intro rfl ?_)) fun tq1 => ?_
  refine q_p [11, 13, 58, 59, 60, 61, 62, 63, 64, 65, 66, 67, 68, 69, 70, 71, 72, 73, 74, 75, 76, 77, 78, 79, 80, 81, 82, 83, 84] ((⟨fun q => [(11, .int .i64 q.1.1), (13, .int .i64 q.1.2.1)], fun q => (⟨o15, ps.l.set u.toNat q.1.2.2⟩ : OwL Int).L 3 icell ++ (⟨b5, s.cells, 40⟩ :: ⟨b4, a.cells, 30⟩ :: L), fun _ => R, fun q => (q.1.2.1 - q.1.1).toNat⟩ : Head {q : Int × Int × Int // (start ≤ q.1 ∧ q.1 < q.2.1 ∧ q.2.1 ≤ 70368744177664) ∧ lowG a s ps.l u q.1 = false ∧ lowG a s ps.l u q.2.1 = true})) (⟨(low, y, y), by dsimp only; omega, j2, j4⟩) ?_
  rintro ⟨⟨lo, hi, z⟩, q1, q2, q3⟩ junk
  try dsimp only
  dsimp only at q1 q2 q3
  have hokz := hok2 z
  have hgz := hgs z
  refine qbi ?_
  refine qaa ?_
  refine qar ?_
  refine qaa ?_
  refine qaj ?_
  refine qaf ?_
  refine q_c (fun hc3 => ?_) (fun hc3 => ?_)
  ·
   obtain ⟨mid, hmid⟩ : ∃ mid, mid = lo + (hi - lo).tdiv 2 := ⟨_, rfl⟩
   have hmb : lo < mid ∧ mid < hi := by rw [Int.tdiv_eq_ediv_of_nonneg (by omega)] at hmid; omega
   have hdv : 0 ≤ (hi - lo).tdiv 2 ∧ (hi - lo).tdiv 2 ≤ hi - lo := by rw [Int.tdiv_eq_ediv_of_nonneg (by omega)]; omega
   refine CJ_skip (seqK_normal (CJ_block (CJ_seq (CJ_region ?_))))
   refine qbm ?_
   iterate 4 refine qaa ?_
   refine qa9 ?_
   refine qdd ?_
   refine qar ?_
   refine yanaq ?_
   refine yanar ?_
   rintro v L' R' ⟨rfl, rfl⟩
   refine qa4 ?_
   rw [← hmid]
   refine CJ_L (by rw [List.set_set]) ?_
   have hokm := hok2 mid
   have hgm := hgs mid
   refine qay ?_
   refine qa8 ?_
   refine qbe ?_
   refine qbm ?_
   refine qaa ?_
   refine q_l rfl (refLowL (o := o15) (y := mid) h (by omega) (by repeat (first | exact inB_here | apply inB_cons | apply inB_app)) (hok2 mid)) ?_
   refine qbz ?_
   refine qaf ?_
   refine q_c (fun hc4 => ?_) (fun hc4 => ?_)
   ·
    refine qay ?_
    refine qbm ?_
    refine qaa ?_
    refine yanaj ?_
    refine yanak ?_
    refine qad ?_
    refine LJ_nil (blockK_normal ?_)
    exact q_k ⟨(lo, mid, mid), by dsimp only; omega, q2, decide_eq_true hc4⟩
   refine qay ?_
   refine qbm ?_
   refine qaa ?_
   refine yanaj ?_
   refine yanak ?_
   refine qad ?_
   refine LJ_nil (blockK_normal ?_)
   exact q_k ⟨(mid, hi, mid), by dsimp only; omega, decide_eq_false hc4, q3⟩
  refine qbk ?_
  refine qaa ?_
  refine qad ?_
  refine qaz ?_
  refine qa0 ?_
  refine q_r (L' := L) (R' := R) (res2 rfl (rv_tmp (show _ = Value.int _ _ from rfl)) (rv_tmp (show _ = Value.bool _ from rfl))) ?_
  refine ⟨hi, true, rfl, ⟨fun _ => ⟨hi - start, by omega, by rw [hrm]; omega, by rw [hsg]; omega, q3, fun j h1 h2 => ?_⟩, fun h => by cases h⟩, rfl, rfl⟩
  refine hst.no h1 (show j ≤ lo - start by omega) (by rw [hrm]; omega) ?_
  rw [hsg, show start + (lo - start) = lo from by omega]; exact q2

theorem down_tri (a : XAir) (s : XSetting) (ps : Arr Int) (u : Int) (L : List Blk) (R : List Sl) (h : HypsR a s ps.l u R) (hps : InR (isl ps) R) :
    Tri Try.prog 181 [a.val, s.val, ps.val, .int .i64 u].toArray L R (fun w L' R' => ∃ (z : Int) (ok : Bool), w = .tuple #[.int .i64 z, .bool ok] ∧ First (highG a s ps.l u) (ps.l.getD u.toNat 0) false z ok ∧ L = L' ∧ R = R') := by
  have hv := h.v
  have hlen := h.len
  have hnp := h.ok.mine.places
  obtain ⟨start, hstart⟩ : ∃ start, start = ps.l.getD u.toNat 0 := ⟨_, rfl⟩
  have hget : ps.l[u.toNat]? = some start := by rw [hstart]; exact get_D (l := ps.l) (k := u.toNat) 0 (by omega)
  have hb : -70368744177664 ≤ start ∧ start ≤ 70368744177664 := by rw [hstart]; exact h.pres.get u.toNat
  have hst := highG_stays (s := s) (start := start) h.ok (ps := ps.l) (v := u) (by omega)
  have hself : ps.l.set u.toNat start = ps.l := by rw [hstart]; exact set_self
  have hgs : ∀ y, (ps.l.set u.toNat y)[u.toNat]? = some y := fun y => by rw [List.getElem?_set_self (by omega)]
  have hsg : ∀ j : Int, start + sgn false * j = start - j := fun j => by simp [sgn]; omega
  have hrm : room false start = start + 70368744177664 := rfl
  rw [← hstart]
  refine tri_enter 86 Try.call181 Try.func181 rfl rfl rfl ?_
  refine qae ?_
  refine qax ?_
  intro b4
  refine qax ?_
  intro b5
  refine qad ?_
  refine qaz ?_
  refine qam ?_
  refine qbm ?_
  refine yanam ?_
  rintro v L' R' ⟨o15, rfl, hok15, rfl, rfl⟩
  refine qc4 ?_
  refine qco ?_
  have hok2 : ∀ z, (⟨o15, ps.l.set u.toNat z⟩ : OwL Int).ok 1 icell := fun z => OwL.len_ok icell_len hok15 (by simp)
  refine yanan ?_
  refine qay ?_
  refine qa8 ?_
  refine qbe ?_
  refine qbm ?_
  refine qaa ?_
  refine q_l rfl (refHighL (o := o15) (y := start) h hb (by repeat (first | exact inB_here | apply inB_cons | apply inB_app)) (hok2 start)) ?_
  refine qbx ?_
  refine qaf ?_
  refine q_c (fun hc0 => ?_) (fun hc0 => ?_)
  ·
   have hoks := hok2 start
   have hgy := hgs start
   refine qae ?_
   refine qbm ?_
   refine qaa ?_
   refine yanae ?_
   refine yanaf ?_
   refine qad ?_
   refine qaz ?_
   refine qbh ?_
   refine q_r (L' := L) (R' := R) (res2 rfl (rv_tmp (show _ = Value.int _ _ from rfl)) (rv_tmp (show _ = Value.bool _ from rfl))) ?_
   exact yanao
  have hoks := hok2 start
  have hgy := hgs start
  have hf0 : highG a s ps.l u start = false := decide_eq_false hc0
  refine qbv ?_
  refine qbm ?_
  refine qaa ?_
  refine yanae ?_
  refine yanaf ?_
  refine qad ?_
  refine qad ?_
  refine qa4 ?_
  refine CJ_joinS [8, 9, 11, 12, 30, 31, 32, 33, 34, 35, 36, 37, 38, 39, 40, 41, 42, 43, 44, 45, 46, 47, 48, 49, 50, 51, 52, 53] ((⟨fun q => [(11, .int .i64 q.1.1)], fun q => (⟨o15, ps.l.set u.toNat q.1.2.2⟩ : OwL Int).L 3 icell ++ (⟨b5, s.cells, 40⟩ :: ⟨b4, a.cells, 30⟩ :: L), fun _ => R, fun _ => 0⟩ : Head {q : Int × Int × Int // (-70368744177664 ≤ q.1 ∧ q.1 ≤ start) ∧ highG a s ps.l u q.1 = false ∧ (-70368744177664 ≤ q.2.2 ∧ q.2.2 < q.1) ∧ highG a s ps.l u q.2.2 = true})) ?_ ?_
  ·
   refine CJ_block ?_
   refine CJ_forgetW [8, 9, 11, 12, 30, 31, 32, 33, 34, 35, 36, 37, 38, 39, 40, 41, 42, 43, 44, 45, 46, 47, 48, 49, 50, 51, 52, 53] (by repeat (first | apply Off.upd rfl | apply Off.havoc rfl | refine Off.updL (t' := havoc _ _ _) rfl ?_ | exact Off.refl)) [(11, Value.int _ _), (12, Value.int _ _)] (by repeat' (first | exact trivial | refine And.intro rfl ?_)) fun tq0 => ?_
   refine q_p [8, 9, 11, 12, 30, 31, 32, 33, 34, 35, 36, 37, 38, 39, 40, 41, 42, 43, 44, 45, 46, 47, 48, 49, 50, 51, 52, 53] ((⟨fun q => [(11, .int .i64 q.1.1), (12, .int .i64 q.1.2.1)], fun q => (⟨o15, ps.l.set u.toNat q.1.2.2⟩ : OwL Int).L 3 icell ++ (⟨b5, s.cells, 40⟩ :: ⟨b4, a.cells, 30⟩ :: L), fun _ => R, fun q => (q.1.1 + 70368744177664).toNat⟩ : Head {q : Int × Int × Int // (-70368744177664 ≤ q.1 ∧ q.1 ≤ start) ∧ highG a s ps.l u q.1 = false ∧ q.2.1 = start - q.1 + 1})) (⟨(start, 1, start), by dsimp only; omega, hf0, by dsimp only; omega⟩) ?_
   rintro ⟨⟨low, step, y⟩, j1, j2, j3⟩ junk
   try dsimp only
   dsimp only at j1 j2 j3
   have hoky := hok2 y
   have hgy := hgs y
   refine CJ_block (CJ_seq (CJ_region ?_))
   refine qbm ?_
   iterate 3 refine qaa ?_
   refine qa9 ?_
   refine LJ_q (yv_max2 rfl rfl) rfl ?_
   refine yanag ?_
   refine LJ_g0 (gives_store1_ow tb ((⟨o15, ps.l.set u.toNat y⟩ : OwL Int)) (max (low - step) (-70368744177664)) rfl rfl rfl rfl (by repeat (first | apply OSeg.cons | exact OSeg.here | exact OSeg.last | exact OSeg.at (by assumption) | apply OSeg.app)) (by assumption) (fun _ => rfl) (by assumption) (by decide) (by rfl) (by rfl)) ?_
   rintro v L' R' ⟨rfl, rfl⟩
   refine qco ?_
   obtain ⟨w, hw⟩ : ∃ w, w = max (low - step) (-70368744177664) := ⟨_, rfl⟩
   have hwb : -70368744177664 ≤ w ∧ w ≤ low ∧ (-70368744177664 < w → w = low - step) := by omega
   rw [← hw]
   refine CJ_L (by rw [List.set_set]) ?_
   have hokw := hok2 w
   have hgw := hgs w
   refine qay ?_
   refine qa8 ?_
   refine qbe ?_
   refine qbm ?_
   refine qaa ?_
   refine q_l rfl (refHighL (o := o15) (y := w) h (by omega) (by repeat (first | exact inB_here | apply inB_cons | apply inB_app)) (hok2 w)) ?_
   refine qbx ?_
   refine qaf ?_
   refine q_c (fun hc1 => ?_) (fun hc1 => ?_)
   ·
    refine CJ_exit (seqK_exit ?_)
    refine blockK_other rfl ?_
    refine loopK_exit (blockK_exit ?_)
    have hgt : highG a s ps.l u w = true := decide_eq_true hc1
    have hne : low ≠ w := fun e => by rw [e, hgt] at j2; cases j2
    exact joinK_mk ⟨(low, step, w), j1, j2, by dsimp only; omega, hgt⟩ (by repeat (first | exact Off.refl | apply Off.upd rfl | apply Off.havoc rfl | apply Off.updL rfl | apply Off.left rfl | apply Off.leftu rfl)) (by repeat' (first | exact trivial | refine And.intro rfl ?_)) (by repeat (first | exact zs0 _ | exact zs1 _ | apply zs2 | apply zs3 | apply zs4 | apply zs5)) (allR_self _)
   have hgf : highG a s ps.l u w = false := decide_eq_false hc1
   refine qbo ?_
   refine qbm ?_
   refine qaa ?_
   refine yanah ?_
   refine yanai ?_
   refine qbn ?_
   refine qaf ?_
   refine q_c (fun hc2 => ?_) (fun hc2 => ?_)
   ·
    refine qae ?_
    refine qad ?_
    refine qaz ?_
    refine LJ_nil (seqK_normal (CJ_ret (seqK_ret (blockK_ret (loopK_ret (blockK_ret (joinK_ret ?_)))))))
    refine q_r (L' := L) (R' := R) (res2 rfl (rv_tmp (show _ = Value.int _ _ from rfl)) (rv_tmp (show _ = Value.bool _ from rfl))) ?_
    refine ⟨0, false, rfl, ⟨(fun h => by cases h), fun _ => ⟨rfl, fun j h1 h2 => ?_⟩⟩, rfl, rfl⟩
    refine hst.no h1 h2 (Int.le_refl _) ?_
    rw [hsg, hrm, show start - (start + 70368744177664) = w from by omega]; exact hgf
   refine qbv ?_
   refine qbm ?_
   refine qaa ?_
   refine yanah ?_
   refine yanai ?_
   refine qad ?_
   refine LJ_nil (seqK_normal (CJ_region ?_))
   refine qaa ?_
   refine qcm ?_
   refine qad ?_
   refine LJ_nil (blockK_normal ?_)
   exact q_k ⟨(w, step * 2, w), by dsimp only; omega, hgf, by dsimp only; omega⟩
  rintro ⟨⟨low, step, y⟩, j1, j2, j3, j4⟩ junk
  try dsimp only
  dsimp only at j1 j2 j3 j4
  have hoky := hok2 y
  have hgy := hgs y
  refine qae ?_
  refine qbm ?_
  refine qaa ?_
  refine yanag ?_
  refine yanap ?_
  refine qad ?_
  refine LJ_nil (seqK_normal (CJ_seq (CJ_block ?_)))
  refine CJ_forget [(3, Value.int _ _), (4, Value.pointer _), (5, Value.pointer _), (10, Value.slice _ _ _), (11, Value.int _ _), (13, Value.int _ _)] (by repeat' (first | exact trivial | refine And.intro rfl ?_)) fun tq1 => ?_
  refine q_p [11, 13, 58, 59, 60, 61, 62, 63, 64, 65, 66, 67, 68, 69, 70, 71, 72, 73, 74, 75, 76, 77, 78, 79, 80, 81, 82, 83, 84] ((⟨fun q => [(11, .int .i64 q.1.1), (13, .int .i64 q.1.2.1)], fun q => (⟨o15, ps.l.set u.toNat q.1.2.2⟩ : OwL Int).L 3 icell ++ (⟨b5, s.cells, 40⟩ :: ⟨b4, a.cells, 30⟩ :: L), fun _ => R, fun q => (q.1.1 - q.1.2.1).toNat⟩ : Head {q : Int × Int × Int // (-70368744177664 ≤ q.2.1 ∧ q.2.1 < q.1 ∧ q.1 ≤ start) ∧ highG a s ps.l u q.1 = false ∧ highG a s ps.l u q.2.1 = true})) (⟨(low, y, y), by dsimp only; omega, j2, j4⟩) ?_
  rintro ⟨⟨hi, lo, z⟩, q1, q2, q3⟩ junk
  try dsimp only
  dsimp only at q1 q2 q3
  have hokz := hok2 z
  have hgz := hgs z
  refine qbi ?_
  refine qaa ?_
  refine qar ?_
  refine qaa ?_
  refine qaj ?_
  refine qaf ?_
  refine q_c (fun hc3 => ?_) (fun hc3 => ?_)
  ·
   obtain ⟨mid, hmid⟩ : ∃ mid, mid = lo + (hi - lo).tdiv 2 := ⟨_, rfl⟩
   have hmb : lo < mid ∧ mid < hi := by rw [Int.tdiv_eq_ediv_of_nonneg (by omega)] at hmid; omega
   have hdv : 0 ≤ (hi - lo).tdiv 2 ∧ (hi - lo).tdiv 2 ≤ hi - lo := by rw [Int.tdiv_eq_ediv_of_nonneg (by omega)]; omega
   refine CJ_skip (seqK_normal (CJ_block (CJ_seq (CJ_region ?_))))
   refine qbm ?_
   iterate 4 refine qaa ?_
   refine qa9 ?_
   refine qdd ?_
   refine qar ?_
   refine yanaq ?_
   refine yanar ?_
   rintro v L' R' ⟨rfl, rfl⟩
   refine qa4 ?_
   rw [← hmid]
   refine CJ_L (by rw [List.set_set]) ?_
   have hokm := hok2 mid
   have hgm := hgs mid
   refine qay ?_
   refine qa8 ?_
   refine qbe ?_
   refine qbm ?_
   refine qaa ?_
   refine q_l rfl (refHighL (o := o15) (y := mid) h (by omega) (by repeat (first | exact inB_here | apply inB_cons | apply inB_app)) (hok2 mid)) ?_
   refine qbx ?_
   refine qaf ?_
   refine q_c (fun hc4 => ?_) (fun hc4 => ?_)
   ·
    refine qay ?_
    refine qbm ?_
    refine qaa ?_
    refine yanaj ?_
    refine yanak ?_
    refine qad ?_
    refine LJ_nil (blockK_normal ?_)
    exact q_k ⟨(hi, mid, mid), by dsimp only; omega, q2, decide_eq_true hc4⟩
   refine qay ?_
   refine qbm ?_
   refine qaa ?_
   refine yanaj ?_
   refine yanak ?_
   refine qad ?_
   refine LJ_nil (blockK_normal ?_)
   exact q_k ⟨(mid, lo, mid), by dsimp only; omega, decide_eq_false hc4, q3⟩
  refine qbk ?_
  refine qaa ?_
  refine qad ?_
  refine qaz ?_
  refine qa0 ?_
  refine q_r (L' := L) (R' := R) (res2 rfl (rv_tmp (show _ = Value.int _ _ from rfl)) (rv_tmp (show _ = Value.bool _ from rfl))) ?_
  refine ⟨lo, true, rfl, ⟨fun _ => ⟨start - lo, by omega, by rw [hrm]; omega, by rw [hsg]; omega, q3, fun j h1 h2 => ?_⟩, fun h => by cases h⟩, rfl, rfl⟩
  refine hst.no h1 (show j ≤ start - hi by omega) (by rw [hrm]; omega) ?_
  rw [hsg, show start - (start - hi) = hi from by omega]; exact q2
end Go.Proofs.Ytlgjgigciapkfaa

end
section
namespace Go.Proofs.Ytlgjgigciapkfaa
open Go.Aw Go
set_option maxRecDepth 20000
attribute [local irreducible] CJ LJ DJ Tri YV Gives seqK blockK loopK retK RV mergeK OwL.L

theorem presOk_of {ps : List Int} (h : ps.findSome? presBad = none) : PresOk ps := fun p hp => by
  obtain ⟨i, hi⟩ := List.mem_iff_getElem?.1 hp
  exact presBad_none h i p hi
theorem presOk_none {ps : List Int} (h : PresOk ps) : ps.findSome? presBad = none := List.findSome?_eq_none_iff.2 fun p hp => by
  have := h p hp
  exact if_neg (by omega)

section
variable {a : XAir} {s : XSetting} {ps : Arr Int} {v : Int}
end

end Go.Proofs.Ytlgjgigciapkfaa

end
section
namespace Go.Proofs.Ytlgjgigciapkfaa
open Go.Aw Go

def outTo (a : XAir) (fl : List Int) (v : Int) : Nat → Int
  | 0 => 0
  | k + 1 => outTo a fl v k + (if (a.mine.roads.l.getD k default).fr = v then fl.getD k 0 else if (a.mine.roads.l.getD k default).to = v then -(fl.getD k 0) else 0)
theorem netTo_out {a : XAir} {x : XState} (ha : AirOk a) (hl : x.pres.l.length = a.mine.places.l.length) {v : Nat} (hv : v < a.mine.places.l.length) : ∀ k, k ≤ a.mine.roads.l.length → (netTo a x k).getD v 0 = outTo a x.flows.l (v : Int) k
  | 0, _ => by rw [netTo, outTo, List.getD_eq_getElem?_getD, List.getElem?_replicate]; split <;> rfl
  | k + 1, hk => by
    have ih := netTo_out ha hl hv k (by omega)
    have hln := netTo_length a x k
    have hro := ha.mine.road k _ (get_D default (by omega))
    have h1 := hro.fr
    have h2 := hro.to
    have h3 := hro.ne
    rw [netTo, outTo]
    rw [getD_setK (by rw [List.length_set]; omega), getD_setK (by omega), getD_setK (by omega)]
    by_cases hf : (a.mine.roads.l.getD k default).fr = (v : Int)
    · rw [if_neg (by omega), if_pos (by omega), if_pos hf, show (a.mine.roads.l.getD k default).fr.toNat = v from by omega, ih]
    · rw [if_neg hf]
      by_cases ht : (a.mine.roads.l.getD k default).to = (v : Int)
      · rw [if_pos (by omega), if_pos ht, if_neg (by omega), show (a.mine.roads.l.getD k default).to.toNat = v from by omega, ih]
        omega
      · rw [if_neg (by omega), if_neg (by omega), if_neg ht, ih]
        omega
theorem FitsF.still {a : XAir} {s : XSetting} {x : XState} (h : FitsF a s x) (ha : AirOk a) {v : Nat} (hv : v < a.mine.places.l.length) (hs : (a.mine.places.l.getD v default).surface = false) : outTo a x.flows.l (v : Int) a.mine.roads.l.length = 0 := by
  have hp := h.place v hv
  unfold placeUnfit at hp
  split at hp
  · cases hp
  · rename_i hn
    rw [h.flen, netTo_out ha h.plen hv _ (Nat.le_refl _)] at hn
    rcases Int.decEq (outTo a x.flows.l (v : Int) a.mine.roads.l.length) 0 with h0 | h0
    · exact absurd (.inr ⟨hs, h0⟩) hn
    · exact h0
end Go.Proofs.Ytlgjgigciapkfaa

end
