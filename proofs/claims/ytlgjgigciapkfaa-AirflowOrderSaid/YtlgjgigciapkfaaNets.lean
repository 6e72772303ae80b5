/-
  Nets: NetS, NetW, Find, LeastW, RefUp, Bal, NetP, in one text. By an AI agent; no person has read it.
-/
import Derived.Test.YtlgjgigciapkfaaFits
import Derived.Test.YtlgjgigciapkfaaDraws
set_option linter.unusedSimpArgs false
set_option linter.unusedVariables false
section
namespace Go.Proofs.Ytlgjgigciapkfaa
open Go.Aw Go

/-- the difference of pressure along road k -/
def diffN (a : XAir) (ps : List Int) (k : Nat) : Int := ps.getD (a.mine.roads.l.getD k default).fr.toNat 0 - ps.getD (a.mine.roads.l.getD k default).to.toNat 0
/-- what road k adds -/
def termN (F G : (Int → XSpan) → Int → Int) (a : XAir) (s : XSetting) (ps : List Int) (v : Int) (k : Nat) : Int :=
  if (a.mine.roads.l.getD k default).closed = true then 0
  else if (a.mine.roads.l.getD k default).fr = v then F (innerS a s k) (diffN a ps k)
  else if (a.mine.roads.l.getD k default).to = v then -(G (innerS a s k) (diffN a ps k)) else 0
def sumN (F G : (Int → XSpan) → Int → Int) (a : XAir) (s : XSetting) (ps : List Int) (v : Int) : Nat → Int
  | 0 => 0
  | k + 1 => sumN F G a s ps v k + termN F G a s ps v k
def lowN (a : XAir) (s : XSetting) (ps : List Int) (v : Int) : Int := sumN flowLow flowHigh a s ps v a.mine.roads.l.length
def highN (a : XAir) (s : XSetting) (ps : List Int) (v : Int) : Int := sumN flowHigh flowLow a s ps v a.mine.roads.l.length

/-- both ends of a search -/
structure Ends (F : (Int → XSpan) → Int → Int) (a : XAir) (s : XSetting) : Prop where
  bnd : ∀ k : Nat, k < a.mine.roads.l.length → ∀ p, -1048577 ≤ F (innerS a s k) p ∧ F (innerS a s k) p ≤ 1048577
theorem ends_low {a : XAir} {s : XSetting} (ha : AirOk a) : Ends flowLow a s := ⟨fun k hk p => by have := (flowLow_is (s := s) ha (r := (k : Int)) (by omega) p).bnd; omega⟩
theorem ends_high {a : XAir} {s : XSetting} (ha : AirOk a) : Ends flowHigh a s := ⟨fun k hk p => by have := (flowHigh_is (s := s) ha (r := (k : Int)) (by omega) p).bnd; omega⟩

section
variable {F G : (Int → XSpan) → Int → Int} {a : XAir} {s : XSetting} {ps : List Int} {v : Int}
theorem termN_bounds (hF : Ends F a s) (hG : Ends G a s) {k : Nat} (hk : k < a.mine.roads.l.length) : -1048577 ≤ termN F G a s ps v k ∧ termN F G a s ps v k ≤ 1048577 := by
  have h1 := hF.bnd k hk (diffN a ps k)
  have h2 := hG.bnd k hk (diffN a ps k)
  unfold termN
  split
  · omega
  · split
    · exact h1
    · split <;> omega
theorem sumN_bounds (hF : Ends F a s) (hG : Ends G a s) : ∀ k : Nat, k ≤ a.mine.roads.l.length → -(1048577 * (k : Int)) ≤ sumN F G a s ps v k ∧ sumN F G a s ps v k ≤ 1048577 * (k : Int)
  | 0, _ => by simp [sumN]
  | k + 1, hk => by
    have ih := sumN_bounds hF hG k (by omega)
    have h := termN_bounds (ps := ps) (v := v) hF hG (k := k) (by omega)
    rw [sumN]
    omega

/-- the same sum along the list of the pipes that end at v -/
def sumL (F G : (Int → XSpan) → Int → Int) (a : XAir) (s : XSetting) (ps : List Int) (v : Int) (n : Nat) : List Int → Int
  | [] => 0
  | e :: l => sumL F G a s ps v n l + termN F G a s ps v ((openTo a n).getD e.toNat 0)
theorem sumL_append (n : Nat) (l m : List Int) : sumL F G a s ps v n (l ++ m) = sumL F G a s ps v n l + sumL F G a s ps v n m := by
  induction l with
  | nil => simp [sumL]
  | cons e l ih => rw [List.cons_append, sumL, sumL, ih]; omega
theorem openTo_prefix (a : XAir) {k : Nat} : ∀ {n : Nat}, k ≤ n → ∃ m, openTo a n = openTo a k ++ m
  | 0, h => ⟨[], by rw [show k = 0 by omega]; rfl⟩
  | n + 1, h => by
    rcases Nat.lt_or_ge n k with h' | h'
    · exact ⟨[], by rw [show k = n + 1 by omega]; simp⟩
    · obtain ⟨m, hm⟩ := openTo_prefix a (k := k) (n := n) h'
      rw [openTo]
      split
      · exact ⟨m, hm⟩
      · exact ⟨m ++ [n], by rw [hm, List.append_assoc]⟩
theorem openTo_at (a : XAir) {k n : Nat} (hk : k < n) (hc : ¬ (a.mine.roads.l.getD k default).closed = true) : (openTo a n).getD (openTo a k).length 0 = k := by
  obtain ⟨m, hm⟩ := openTo_prefix a (show k + 1 ≤ n from hk)
  rw [hm, openTo, if_neg hc, List.append_assoc, List.getD_eq_getElem?_getD, List.getElem?_append_right (Nat.le_refl _)]
  simp
theorem sumL_at (n : Nat) {v : Nat} : ∀ k, k ≤ n → sumL F G a s ps v n (atTo a v k) = sumN F G a s ps v k
  | 0, _ => rfl
  | k + 1, hk => by
    have ih := sumL_at n (v := v) k (by omega)
    rw [atTo, sumN]
    split
    · rename_i hc
      rw [ih, termN, if_pos hc]; omega
    · rename_i hc
      split
      · rename_i hv
        rw [sumL_append, ih, sumL, sumL, Int.toNat_natCast, openTo_at a (by omega) hc]
        omega
      · rename_i hv
        rw [ih, termN, if_neg hc, if_neg (fun h => hv (.inl h)), if_neg (fun h => hv (.inr h))]; omega
/-- an element of the list -/
theorem atTo_mem (a : XAir) {v : Nat} : ∀ k, ∀ e ∈ atTo a v k, ∃ i : Nat, i < k ∧ e = ((openTo a i).length : Int) ∧ ¬ (a.mine.roads.l.getD i default).closed = true ∧ ((a.mine.roads.l.getD i default).fr = (v : Int) ∨ (a.mine.roads.l.getD i default).to = (v : Int))
  | 0, e, h => by cases h
  | k + 1, e, h => by
    rw [atTo] at h
    split at h
    · obtain ⟨i, h1, h2⟩ := atTo_mem a k e h; exact ⟨i, by omega, h2⟩
    · rename_i hc
      split at h
      · rename_i hv
        rcases List.mem_append.1 h with h | h
        · obtain ⟨i, h1, h2⟩ := atTo_mem a k e h; exact ⟨i, by omega, h2⟩
        · rw [List.mem_singleton.1 h]; exact ⟨k, by omega, rfl, hc, hv⟩
      · obtain ⟨i, h1, h2⟩ := atTo_mem a k e h; exact ⟨i, by omega, h2⟩
end

/-- it does not fall -/
structure MonoE (F : (Int → XSpan) → Int → Int) (a : XAir) (s : XSetting) : Prop where
  mono : ∀ k : Nat, k < a.mine.roads.l.length → ∀ p q : Int, p ≤ q → F (innerS a s k) p ≤ F (innerS a s k) q
theorem mono_low {a : XAir} {s : XSetting} (ha : AirOk a) : MonoE flowLow a s := ⟨fun k hk p q h => flowLow_mono (s := s) ha (r := (k : Int)) (by omega) h⟩
theorem mono_high {a : XAir} {s : XSetting} (ha : AirOk a) : MonoE flowHigh a s := ⟨fun k hk p q h => flowHigh_mono (s := s) ha (r := (k : Int)) (by omega) h⟩
/-- higher at v, lower elsewhere -/
structure Above (ps qs : List Int) (v : Int) : Prop where
  own : ps.getD v.toNat 0 ≤ qs.getD v.toNat 0
  rest : ∀ k : Nat, k ≠ v.toNat → qs.getD k 0 ≤ ps.getD k 0
theorem sumN_mono {F G : (Int → XSpan) → Int → Int} {a : XAir} {s : XSetting} {ps qs : List Int} {v : Int} (ha : AirOk a) (hF : MonoE F a s) (hG : MonoE G a s) (h : Above ps qs v) : ∀ k : Nat, k ≤ a.mine.roads.l.length → sumN F G a s ps v k ≤ sumN F G a s qs v k
  | 0, _ => Int.le_refl _
  | k + 1, hk => by
    have ih := sumN_mono ha hF hG h k (by omega)
    have hro := ha.mine.road k _ (get_D default (by omega))
    have h1 := hro.fr
    have h2 := hro.to
    have h3 := hro.ne
    have ho := h.own
    rw [sumN, sumN, termN, termN]
    split
    · omega
    · split
      · rename_i hf
        have hr := h.rest (a.mine.roads.l.getD k default).to.toNat (by omega)
        have := hF.mono k (by omega) (diffN a ps k) (diffN a qs k) (by rw [diffN, diffN, hf]; omega)
        omega
      · split
        · rename_i hf ht
          have hr := h.rest (a.mine.roads.l.getD k default).fr.toNat (by omega)
          have := hG.mono k (by omega) (diffN a qs k) (diffN a ps k) (by rw [diffN, diffN, ht]; omega)
          omega
        · omega
theorem lowN_mono {a : XAir} {s : XSetting} {ps qs : List Int} {v : Int} (ha : AirOk a) (h : Above ps qs v) : lowN a s ps v ≤ lowN a s qs v := sumN_mono ha (mono_low ha) (mono_high ha) h _ (Nat.le_refl _)
theorem highN_mono {a : XAir} {s : XSetting} {ps qs : List Int} {v : Int} (ha : AirOk a) (h : Above ps qs v) : highN a s ps v ≤ highN a s qs v := sumN_mono ha (mono_high ha) (mono_low ha) h _ (Nat.le_refl _)
theorem getD_setK {l : List Int} {k i : Nat} {v : Int} (hk : k < l.length) : (l.set k v).getD i 0 = if i = k then v else l.getD i 0 := by
  rw [List.getD_eq_getElem?_getD, List.getElem?_set, List.getD_eq_getElem?_getD]
  split
  · rename_i h; subst h; simp [hk]
  · rename_i h; rw [if_neg (fun e => h e.symm)]
theorem above_set {ps : List Int} {v x y : Int} (hv : v.toNat < ps.length) (h : x ≤ y) : Above (ps.set v.toNat x) (ps.set v.toNat y) v :=
  ⟨by rw [getD_setK hv, getD_setK hv, if_pos rfl, if_pos rfl]; exact h, fun k hk => by rw [getD_setK hv, getD_setK hv, if_neg hk, if_neg hk]; exact Int.le_refl _⟩
theorem set_self {l : List Int} {k : Nat} : l.set k (l.getD k 0) = l := by
  rcases Nat.lt_or_ge k l.length with h | h
  · have := get_D (l := l) (k := k) 0 h
    obtain ⟨_, h2⟩ := List.getElem?_eq_some_iff.1 this
    rw [← h2, List.set_getElem_self]
  · exact List.set_eq_of_length_le h

/-- pressures that may be -/
def PresOk (ps : List Int) : Prop := ∀ p ∈ ps, -70368744177664 ≤ p ∧ p ≤ 70368744177664
theorem PresOk.get {ps : List Int} (h : PresOk ps) (k : Nat) : -70368744177664 ≤ ps.getD k 0 ∧ ps.getD k 0 ≤ 70368744177664 := by
  rcases Nat.lt_or_ge k ps.length with h' | h'
  · exact h _ (List.mem_of_getElem? (get_D (l := ps) 0 h'))
  · rw [List.getD_eq_getElem?_getD, List.getElem?_eq_none h']; decide
theorem PresOk.set {ps : List Int} (h : PresOk ps) (k : Nat) {x : Int} (hx : -70368744177664 ≤ x ∧ x ≤ 70368744177664) : PresOk (ps.set k x) := fun p hp => by
  rcases List.mem_or_eq_of_mem_set hp with h1 | h1
  · exact h p h1
  · rw [h1]; exact hx
end Go.Proofs.Ytlgjgigciapkfaa

end
section
namespace Go.Proofs.Ytlgjgigciapkfaa
open Go.Aw Go
set_option maxRecDepth 20000
attribute [local irreducible] CJ LJ DJ Tri YV Gives seqK blockK loopK retK RV mergeK OwL.L

structure Entry (n : XNet) (a : XAir) (s : XSetting) (v : Int) (e : Int) (i : Nat) (p : XPipe) : Prop where
  hi : i < a.mine.roads.l.length
  he : 0 ≤ e ∧ e < n.pipes.l.length
  get : n.pipes.l[e.toNat]? = some p
  num : (openTo a a.mine.roads.l.length).getD e.toNat 0 = i
  is : PipeIs a s i p
  ok : PipeOk p
  drop : dropP p = innerS a s i
  closed : ¬ (a.mine.roads.l.getD i default).closed = true
  ends : (a.mine.roads.l.getD i default).fr = v ∨ (a.mine.roads.l.getD i default).to = v
  fr : p.road.fr = (a.mine.roads.l.getD i default).fr
  to : p.road.to = (a.mine.roads.l.getD i default).to
  road : RoadOk a.mine.places.l.length (a.mine.roads.l.getD i default)

theorem NetIs.entry {n : XNet} {a : XAir} {s : XSetting} (hn : NetIs a s n) (ha : AirOk a) {v : Nat} {e : Int} (he : e ∈ atTo a v a.mine.roads.l.length) : ∃ (i : Nat) (p : XPipe), Entry n a s v e i p := by
  obtain ⟨i, hi, rfl, hc, hv⟩ := atTo_mem a _ e he
  have hget := openTo_at a hi hc
  have hlt : (openTo a i).length < (openTo a a.mine.roads.l.length).length := by
    obtain ⟨m, hm⟩ := openTo_prefix a (show i + 1 ≤ a.mine.roads.l.length from hi)
    rw [hm, openTo, if_neg hc]
    simp only [List.length_append, List.length_singleton]
    omega
  have hg : (openTo a a.mine.roads.l.length)[(openTo a i).length]? = some i := by rw [get_D 0 hlt, hget]
  have hnum := congrArg (fun l => l[(openTo a i).length]?) hn.nums
  simp only [List.getElem?_map, hg, Option.map_some] at hnum
  obtain ⟨p, hp, hpn⟩ := Option.map_eq_some_iff.1 hnum
  have hpi := hn.pipe p (List.mem_of_getElem? hp)
  rw [hpn] at hpi
  have hlp := (List.getElem?_eq_some_iff.1 hp).1
  refine ⟨i, p, hi, by omega, by rw [Int.toNat_natCast]; exact hp, by rw [Int.toNat_natCast]; exact hget, hpi, pipeOk_of ha (by omega) hpi, funext fun q => dropP_eq hpi q, hc, hv, ?_, ?_, ha.mine.road i _ (get_D default hi)⟩
  · rw [hpi.road, Int.toNat_natCast]
  · rw [hpi.road, Int.toNat_natCast]

section
variable {F G : (Int → XSpan) → Int → Int} {a : XAir} {s : XSetting} {ps : List Int} {v : Int}
theorem sumL_take {n : Nat} {l : List Int} {k : Nat} {e : Int} (he : l[k]? = some e) : sumL F G a s ps v n (l.take (k + 1)) = sumL F G a s ps v n (l.take k) + termN F G a s ps v ((openTo a n).getD e.toNat 0) := by
  have : l.take (k + 1) = l.take k ++ [e] := by rw [List.take_add_one, he]; rfl
  rw [this, sumL_append, sumL, sumL]; omega
theorem openTo_lt {a : XAir} {n : Nat} (hn : 1 ≤ n) (i : Nat) : (openTo a n).getD i 0 < n := by
  rcases Nat.lt_or_ge i (openTo a n).length with h | h
  · have := List.mem_of_getElem? (get_D (l := openTo a n) 0 h)
    exact (openTo_mem.1 this).1
  · rw [List.getD_eq_getElem?_getD, List.getElem?_eq_none h]; exact hn
theorem sumL_bounds (hF : Ends F a s) (hG : Ends G a s) (hn : 1 ≤ a.mine.roads.l.length) : ∀ l : List Int, -(1048577 * (l.length : Int)) ≤ sumL F G a s ps v a.mine.roads.l.length l ∧ sumL F G a s ps v a.mine.roads.l.length l ≤ 1048577 * (l.length : Int)
  | [] => by simp [sumL]
  | e :: l => by
    have ih := sumL_bounds hF hG hn l
    have h := termN_bounds (ps := ps) (v := v) hF hG (k := (openTo a a.mine.roads.l.length).getD e.toNat 0) (openTo_lt hn _)
    rw [sumL, List.length_cons]
    omega
end
theorem InR.arr {x : Arr (Arr Int)} {R : List Sl} (h : InR (aasl x) R) {i : Nat} {y : Arr Int} (hi : x.l[i]? = some y) : InR (isl y) R :=
  h.sub (.deep (List.mem_map.2 ⟨y, List.mem_of_getElem? hi, rfl⟩) .here)

theorem netLow_tri (n : XNet) (a : XAir) (s : XSetting) (ps : Arr Int) (v : Int) (L : List Blk) (R : List Sl) (hpp : InR (ppsl n.pipes) R) (haa : InR (aasl n.at_) R) (hps : InR (isl ps) R) (hn : NetIs a s n) (ha : AirOk a) (hl : ps.l.length = a.mine.places.l.length) (hb : PresOk ps.l) (hv : 0 ≤ v ∧ v < a.mine.places.l.length) :
    Tri Try.prog 174 [n.val, ps.val, .int .i64 v].toArray L R (fun w L' R' => w = .int .i64 (lowN a s ps.l v) ∧ L = L' ∧ R = R') := by
  obtain ⟨x, hx⟩ := get_some (l := n.at_.l) (k := v.toNat) (by rw [hn.atl]; omega)
  have hxl := hn.at_ _ _ hx
  have hxI := InR.arr haa hx
  have hnr := ha.mine.roads
  have hatl := hn.atl
  have hxn : x.l.length ≤ a.mine.roads.l.length := by rw [hxl]; exact atTo_length a _ _
  refine tri_enter 57 Try.call174 Try.func174 rfl rfl rfl ?_
  refine qae ?_
  refine qax ?_
  intro b3
  refine qad ?_
  refine qam ?_
  refine qad ?_
  refine qaw ?_
  refine qab ?_
  refine qac ?_
  refine qaa ?_
  refine LJ_q (by first | exact yv_index_ro tb rfl rfl rfl rfl (by first | assumption | exact zr (by simp)) (i := v.toNat) (by first | rfl | omega | (simp; omega)) (by omega) | exact yv_index tb rfl rfl rfl rfl (i := v.toNat) (by first | rfl | omega | (simp; omega)) (by omega)) rfl ?_
  refine qa7 ?_
  refine qag ?_
  refine qaa ?_
  refine qa2 ?_
  refine CJ_forget [(1, Value.slice _ _ _), (2, Value.int _ _), (3, Value.pointer _), (7, Value.int _ _), (16, Value.slice _ _ _), (17, Value.int _ _), (18, Value.int _ _)] (by repeat' (first | exact trivial | refine And.intro rfl ?_)) fun tq0 => ?_
  refine q_s [7, 9, 10, 11, 18, 19, 20, 21, 22, 23, 24, 25, 26, 27, 28, 29, 30, 31, 32, 33, 34, 35, 36, 37, 38, 39, 40, 41, 42, 43, 44, 45, 46, 47, 48, 49, 50, 51, 52, 53, 54, 55] (fun g : {k : Nat // k ≤ x.l.length} => [(7, .int .i64 (sumL flowLow flowHigh a s ps.l v a.mine.roads.l.length (x.l.take g.1))), (18, .int .i64 ((g.1 : Nat) : Int))]) (fun g => x.l.length - g.1) (⟨0, by omega⟩) ?_
  rintro ⟨k, hk⟩ junk
  try dsimp only
  refine qae ?_
  refine qaj ?_
  refine qa4 ?_
  refine q_c (fun hc0 => ?_) (fun hc0 => ?_)
  ·
   obtain ⟨e, he⟩ := get_some (l := x.l) (k := k) (by omega)
   obtain ⟨i, p, hE⟩ := hn.entry ha (v := v.toNat) (e := e) (by rw [← hxl]; exact List.mem_of_getElem? he)
   have hek := hE.he
   have hpg := hE.get
   have hpI := InR.pipe hpp hpg
   have hro := hE.road
   have hr1 := hro.fr
   have hr2 := hro.to
   have hef := hE.fr
   have het := hE.to
   have hi := hE.hi
   have hsb := sumL_bounds (ps := ps.l) (v := v) (ends_low (s := s) ha) (ends_high (s := s) ha) (by omega) (x.l.take k)
   have htl : (x.l.take k).length ≤ k := List.length_take_le _ _
   have hst := sumL_take (F := flowLow) (G := flowHigh) (a := a) (s := s) (ps := ps.l) (v := v) (n := a.mine.roads.l.length) he
   rw [hE.num] at hst
   have hpf := get_D (l := ps.l) (k := p.road.fr.toNat) 0 (by omega)
   have hpt := get_D (l := ps.l) (k := p.road.to.toNat) 0 (by omega)
   have hbf := hb.get p.road.fr.toNat
   have hbt := hb.get p.road.to.toNat
   have hdf : diffN a ps.l i = ps.l.getD p.road.fr.toNat 0 - ps.l.getD p.road.to.toNat 0 := by rw [diffN, hef, het]
   have hfl := (ends_low (s := s) ha).bnd i hi (diffN a ps.l i)
   have hfh := (ends_high (s := s) ha).bnd i hi (diffN a ps.l i)
   rw [← hE.drop, hdf] at hfl hfh
   rw [termN, if_neg hE.closed, hdf, ← hE.drop, ← hef] at hst
   have hends := hE.ends
   rw [← hef, ← het] at hends
   refine qbb ?_
   refine qa3 ?_
   refine qa7 ?_
   refine qad ?_
   refine qam ?_
   refine qab ?_
   refine qac ?_
   refine qaa ?_
   refine LJ_q (by first | exact yv_index_ro tb rfl rfl rfl rfl (by first | assumption | exact zr (by simp)) (i := e.toNat) (by first | rfl | omega | (simp; omega)) (by omega) | exact yv_index tb rfl rfl rfl rfl (i := e.toNat) (by first | rfl | omega | (simp; omega)) (by omega)) rfl ?_
   refine qdx ?_
   refine qaq ?_
   intro b10
   refine qak ?_
   refine qa4 ?_
   refine CJ_drawn tb [0, 1, 2, 3, 4, 5, 6, 7, 8, 9, 10, 11, 12, 13] _ mixed (by kernel_rfl) (List.Sublist.refl _) ?_
   refine DJ_q (yv_move (show _ = Value.slice _ _ _ from rfl)) rfl rfl rfl ?_
   refine qal ?_
   refine qal ?_
   refine qat ?_
   refine DJ_q (by first | exact yv_index_ro tb rfl rfl rfl rfl (by first | assumption | exact zr (by simp)) (i := p.road.fr.toNat) (by first | rfl | omega | (simp; omega)) (by omega) | exact yv_index tb rfl rfl rfl rfl (i := p.road.fr.toNat) (by first | rfl | omega | (simp; omega)) (by omega)) rfl rfl rfl ?_
   refine qbl ?_
   refine DJ_q (yv_move (show _ = Value.slice _ _ _ from rfl)) rfl rfl rfl ?_
   refine qal ?_
   refine qal ?_
   refine qat ?_
   refine DJ_q (by first | exact yv_index_ro tb rfl rfl rfl rfl (by first | assumption | exact zr (by simp)) (i := p.road.to.toNat) (by first | rfl | omega | (simp; omega)) (by omega) | exact yv_index tb rfl rfl rfl rfl (i := p.road.to.toNat) (by first | rfl | omega | (simp; omega)) (by omega)) rfl rfl rfl ?_
   refine qbl ?_
   refine qb7 ?_
   refine qcg ?_
   refine DJ_nil (seqK_normal (CJ_seq (CJ_region ?_)))
   refine qab ?_
   refine qab ?_
   refine qac ?_
   refine qaa ?_
   refine qbn ?_
   refine qaf ?_
   refine q_c (fun hc1 => ?_) (fun hc1 => ?_)
   ·
    rw [if_pos hc1] at hst
    refine qay ?_
    refine qaa ?_
    refine qdi ?_
    refine qaa ?_
    refine q_l rfl (flowLow_tri p (ps.l.getD p.road.fr.toNat 0 - ps.l.getD p.road.to.toNat 0) _ _ hpI hE.ok) ?_
    refine qar ?_
    refine qad ?_
    refine qcs ?_
    refine qar ?_
    refine qaa ?_
    refine qav ?_
    exact loopK_mk ⟨k + 1, by omega⟩ (by repeat (first | exact Off.refl | apply Off.upd rfl | apply Off.havoc rfl | apply Off.updL rfl | apply Off.left rfl)) (by dsimp only; rw [hst]; first | exact (by repeat' (first | exact trivial | refine And.intro rfl ?_)) | (rw [← Int.sub_eq_add_neg]; exact (by repeat' (first | exact trivial | refine And.intro rfl ?_)))) (by repeat (first | exact zs0 _ | exact zs1 _ | apply zs2 | apply zs3 | apply zs4 | apply zs5)) (allR_self _) (by dsimp only; omega)
   ·
    rw [if_neg hc1, if_pos (by omega)] at hst
    refine qay ?_
    refine qaa ?_
    refine qdi ?_
    refine qaa ?_
    refine q_l rfl (flowHigh_tri p (ps.l.getD p.road.fr.toNat 0 - ps.l.getD p.road.to.toNat 0) _ _ hpI hE.ok) ?_
    refine qa9 ?_
    refine qad ?_
    refine qcs ?_
    refine qar ?_
    refine qaa ?_
    refine qav ?_
    exact loopK_mk ⟨k + 1, by omega⟩ (by repeat (first | exact Off.refl | apply Off.upd rfl | apply Off.havoc rfl | apply Off.updL rfl | apply Off.left rfl)) (by dsimp only; rw [hst]; first | exact (by repeat' (first | exact trivial | refine And.intro rfl ?_)) | (rw [← Int.sub_eq_add_neg]; exact (by repeat' (first | exact trivial | refine And.intro rfl ?_)))) (by repeat (first | exact zs0 _ | exact zs1 _ | apply zs2 | apply zs3 | apply zs4 | apply zs5)) (allR_self _) (by dsimp only; omega)
  ·
   obtain rfl : k = x.l.length := by omega
   refine qbk ?_
   refine qaa ?_
   refine qad ?_
   refine qa0 ?_
   refine q_i (L' := L) (R' := R) ?_
   have e := sumL_at (F := flowLow) (G := flowHigh) (a := a) (s := s) (ps := ps.l) (v := v.toNat) a.mine.roads.l.length a.mine.roads.l.length (Nat.le_refl _)
   rw [Int.toNat_of_nonneg hv.1] at e
   exact ⟨by rw [lowN, List.take_length, hxl, e], rfl, rfl⟩

theorem netHigh_tri (n : XNet) (a : XAir) (s : XSetting) (ps : Arr Int) (v : Int) (L : List Blk) (R : List Sl) (hpp : InR (ppsl n.pipes) R) (haa : InR (aasl n.at_) R) (hps : InR (isl ps) R) (hn : NetIs a s n) (ha : AirOk a) (hl : ps.l.length = a.mine.places.l.length) (hb : PresOk ps.l) (hv : 0 ≤ v ∧ v < a.mine.places.l.length) :
    Tri Try.prog 175 [n.val, ps.val, .int .i64 v].toArray L R (fun w L' R' => w = .int .i64 (highN a s ps.l v) ∧ L = L' ∧ R = R') := by
  obtain ⟨x, hx⟩ := get_some (l := n.at_.l) (k := v.toNat) (by rw [hn.atl]; omega)
  have hxl := hn.at_ _ _ hx
  have hxI := InR.arr haa hx
  have hnr := ha.mine.roads
  have hatl := hn.atl
  have hxn : x.l.length ≤ a.mine.roads.l.length := by rw [hxl]; exact atTo_length a _ _
  refine tri_enter 57 Try.call175 Try.func175 rfl rfl rfl ?_
  refine qae ?_
  refine qax ?_
  intro b3
  refine qad ?_
  refine qam ?_
  refine qad ?_
  refine qaw ?_
  refine qab ?_
  refine qac ?_
  refine qaa ?_
  refine LJ_q (by first | exact yv_index_ro tb rfl rfl rfl rfl (by first | assumption | exact zr (by simp)) (i := v.toNat) (by first | rfl | omega | (simp; omega)) (by omega) | exact yv_index tb rfl rfl rfl rfl (i := v.toNat) (by first | rfl | omega | (simp; omega)) (by omega)) rfl ?_
  refine qa7 ?_
  refine qag ?_
  refine qaa ?_
  refine qa2 ?_
  refine CJ_forget [(1, Value.slice _ _ _), (2, Value.int _ _), (3, Value.pointer _), (7, Value.int _ _), (16, Value.slice _ _ _), (17, Value.int _ _), (18, Value.int _ _)] (by repeat' (first | exact trivial | refine And.intro rfl ?_)) fun tq0 => ?_
  refine q_s [7, 9, 10, 11, 18, 19, 20, 21, 22, 23, 24, 25, 26, 27, 28, 29, 30, 31, 32, 33, 34, 35, 36, 37, 38, 39, 40, 41, 42, 43, 44, 45, 46, 47, 48, 49, 50, 51, 52, 53, 54, 55] (fun g : {k : Nat // k ≤ x.l.length} => [(7, .int .i64 (sumL flowHigh flowLow a s ps.l v a.mine.roads.l.length (x.l.take g.1))), (18, .int .i64 ((g.1 : Nat) : Int))]) (fun g => x.l.length - g.1) (⟨0, by omega⟩) ?_
  rintro ⟨k, hk⟩ junk
  try dsimp only
  refine qae ?_
  refine qaj ?_
  refine qa4 ?_
  refine q_c (fun hc0 => ?_) (fun hc0 => ?_)
  ·
   obtain ⟨e, he⟩ := get_some (l := x.l) (k := k) (by omega)
   obtain ⟨i, p, hE⟩ := hn.entry ha (v := v.toNat) (e := e) (by rw [← hxl]; exact List.mem_of_getElem? he)
   have hek := hE.he
   have hpg := hE.get
   have hpI := InR.pipe hpp hpg
   have hro := hE.road
   have hr1 := hro.fr
   have hr2 := hro.to
   have hef := hE.fr
   have het := hE.to
   have hi := hE.hi
   have hsb := sumL_bounds (ps := ps.l) (v := v) (ends_high (s := s) ha) (ends_low (s := s) ha) (by omega) (x.l.take k)
   have htl : (x.l.take k).length ≤ k := List.length_take_le _ _
   have hst := sumL_take (F := flowHigh) (G := flowLow) (a := a) (s := s) (ps := ps.l) (v := v) (n := a.mine.roads.l.length) he
   rw [hE.num] at hst
   have hpf := get_D (l := ps.l) (k := p.road.fr.toNat) 0 (by omega)
   have hpt := get_D (l := ps.l) (k := p.road.to.toNat) 0 (by omega)
   have hbf := hb.get p.road.fr.toNat
   have hbt := hb.get p.road.to.toNat
   have hdf : diffN a ps.l i = ps.l.getD p.road.fr.toNat 0 - ps.l.getD p.road.to.toNat 0 := by rw [diffN, hef, het]
   have hfl := (ends_high (s := s) ha).bnd i hi (diffN a ps.l i)
   have hfh := (ends_low (s := s) ha).bnd i hi (diffN a ps.l i)
   rw [← hE.drop, hdf] at hfl hfh
   rw [termN, if_neg hE.closed, hdf, ← hE.drop, ← hef] at hst
   have hends := hE.ends
   rw [← hef, ← het] at hends
   refine qbb ?_
   refine qa3 ?_
   refine qa7 ?_
   refine qad ?_
   refine qam ?_
   refine qab ?_
   refine qac ?_
   refine qaa ?_
   refine LJ_q (by first | exact yv_index_ro tb rfl rfl rfl rfl (by first | assumption | exact zr (by simp)) (i := e.toNat) (by first | rfl | omega | (simp; omega)) (by omega) | exact yv_index tb rfl rfl rfl rfl (i := e.toNat) (by first | rfl | omega | (simp; omega)) (by omega)) rfl ?_
   refine qdx ?_
   refine qaq ?_
   intro b10
   refine qak ?_
   refine qa4 ?_
   refine CJ_drawn tb [0, 1, 2, 3, 4, 5, 6, 7, 8, 9, 10, 11, 12, 13] _ mixed (by kernel_rfl) (List.Sublist.refl _) ?_
   refine DJ_q (yv_move (show _ = Value.slice _ _ _ from rfl)) rfl rfl rfl ?_
   refine qal ?_
   refine qal ?_
   refine qat ?_
   refine DJ_q (by first | exact yv_index_ro tb rfl rfl rfl rfl (by first | assumption | exact zr (by simp)) (i := p.road.fr.toNat) (by first | rfl | omega | (simp; omega)) (by omega) | exact yv_index tb rfl rfl rfl rfl (i := p.road.fr.toNat) (by first | rfl | omega | (simp; omega)) (by omega)) rfl rfl rfl ?_
   refine qbl ?_
   refine DJ_q (yv_move (show _ = Value.slice _ _ _ from rfl)) rfl rfl rfl ?_
   refine qal ?_
   refine qal ?_
   refine qat ?_
   refine DJ_q (by first | exact yv_index_ro tb rfl rfl rfl rfl (by first | assumption | exact zr (by simp)) (i := p.road.to.toNat) (by first | rfl | omega | (simp; omega)) (by omega) | exact yv_index tb rfl rfl rfl rfl (i := p.road.to.toNat) (by first | rfl | omega | (simp; omega)) (by omega)) rfl rfl rfl ?_
   refine qbl ?_
   refine qb7 ?_
   refine qcg ?_
   refine DJ_nil (seqK_normal (CJ_seq (CJ_region ?_)))
   refine qab ?_
   refine qab ?_
   refine qac ?_
   refine qaa ?_
   refine qbn ?_
   refine qaf ?_
   refine q_c (fun hc1 => ?_) (fun hc1 => ?_)
   ·
    rw [if_pos hc1] at hst
    refine qay ?_
    refine qaa ?_
    refine qdi ?_
    refine qaa ?_
    refine q_l rfl (flowHigh_tri p (ps.l.getD p.road.fr.toNat 0 - ps.l.getD p.road.to.toNat 0) _ _ hpI hE.ok) ?_
    refine qar ?_
    refine qad ?_
    refine qcs ?_
    refine qar ?_
    refine qaa ?_
    refine qav ?_
    exact loopK_mk ⟨k + 1, by omega⟩ (by repeat (first | exact Off.refl | apply Off.upd rfl | apply Off.havoc rfl | apply Off.updL rfl | apply Off.left rfl)) (by dsimp only; rw [hst]; first | exact (by repeat' (first | exact trivial | refine And.intro rfl ?_)) | (rw [← Int.sub_eq_add_neg]; exact (by repeat' (first | exact trivial | refine And.intro rfl ?_)))) (by repeat (first | exact zs0 _ | exact zs1 _ | apply zs2 | apply zs3 | apply zs4 | apply zs5)) (allR_self _) (by dsimp only; omega)
   ·
    rw [if_neg hc1, if_pos (by omega)] at hst
    refine qay ?_
    refine qaa ?_
    refine qdi ?_
    refine qaa ?_
    refine q_l rfl (flowLow_tri p (ps.l.getD p.road.fr.toNat 0 - ps.l.getD p.road.to.toNat 0) _ _ hpI hE.ok) ?_
    refine qa9 ?_
    refine qad ?_
    refine qcs ?_
    refine qar ?_
    refine qaa ?_
    refine qav ?_
    exact loopK_mk ⟨k + 1, by omega⟩ (by repeat (first | exact Off.refl | apply Off.upd rfl | apply Off.havoc rfl | apply Off.updL rfl | apply Off.left rfl)) (by dsimp only; rw [hst]; first | exact (by repeat' (first | exact trivial | refine And.intro rfl ?_)) | (rw [← Int.sub_eq_add_neg]; exact (by repeat' (first | exact trivial | refine And.intro rfl ?_)))) (by repeat (first | exact zs0 _ | exact zs1 _ | apply zs2 | apply zs3 | apply zs4 | apply zs5)) (allR_self _) (by dsimp only; omega)
  ·
   obtain rfl : k = x.l.length := by omega
   refine qbk ?_
   refine qaa ?_
   refine qad ?_
   refine qa0 ?_
   refine q_i (L' := L) (R' := R) ?_
   have e := sumL_at (F := flowHigh) (G := flowLow) (a := a) (s := s) (ps := ps.l) (v := v.toNat) a.mine.roads.l.length a.mine.roads.l.length (Nat.le_refl _)
   rw [Int.toNat_of_nonneg hv.1] at e
   exact ⟨by rw [highN, List.take_length, hxl, e], rfl, rfl⟩


end Go.Proofs.Ytlgjgigciapkfaa

end
section
namespace Go.Proofs.Ytlgjgigciapkfaa
open Go.Aw Go
set_option maxRecDepth 20000
attribute [local irreducible] CJ LJ DJ Tri YV Gives seqK blockK loopK retK RV mergeK OwL.L

abbrev sgn (up : Bool) : Int := if up then 1 else -1
abbrev room (up : Bool) (start : Int) : Int := if up then 70368744177664 - start else start + 70368744177664
/-- how far the first one is at which the test holds -/
structure First (g : Int → Bool) (start : Int) (up : Bool) (v : Int) (ok : Bool) : Prop where
  yes : ok = true → ∃ m, 0 ≤ m ∧ m ≤ room up start ∧ v = start + sgn up * m ∧ g v = true ∧ ∀ j, 0 ≤ j → j < m → g (start + sgn up * j) = false
  no : ok = false → v = 0 ∧ ∀ j, 0 ≤ j → j ≤ room up start → g (start + sgn up * j) = false
/-- once it holds it goes on holding -/
def Stays (g : Int → Bool) (start : Int) (up : Bool) : Prop := ∀ i j, 0 ≤ i → i ≤ j → j ≤ room up start → g (start + sgn up * i) = true → g (start + sgn up * j) = true
theorem Stays.no {g : Int → Bool} {start : Int} {up : Bool} (h : Stays g start up) {i j : Int} (h0 : 0 ≤ i) (hij : i ≤ j) (hj : j ≤ room up start) (hg : g (start + sgn up * j) = false) : g (start + sgn up * i) = false := by
  cases e : g (start + sgn up * i) with
  | false => rfl
  | true => rw [h i j h0 hij hj e] at hg; cases hg

theorem sgn_mul {up : Bool} {z : Int} (h : 0 ≤ z ∧ z ≤ 281474976710656) : -281474976710656 ≤ sgn up * z ∧ sgn up * z ≤ 281474976710656 := by
  cases up <;> simp only [sgn] <;> simp <;> omega
theorem sgn_in {up : Bool} {start z : Int} (hs : -70368744177664 ≤ start ∧ start ≤ 70368744177664) (h : 0 ≤ z ∧ z ≤ room up start) : -70368744177664 ≤ start + sgn up * z ∧ start + sgn up * z ≤ 70368744177664 := by
  cases up <;> simp only [sgn, room] at h ⊢ <;> simp at h ⊢ <;> omega
theorem room_in {up : Bool} {start : Int} (hs : -70368744177664 ≤ start ∧ start ≤ 70368744177664) : 0 ≤ room up start ∧ room up start ≤ 140737488355328 := by
  cases up <;> simp [room] <;> omega

theorem search_tri (f : FuncId) (cap : Array Value) (LL : Int → List Blk) (g : Int → Bool) (start : Int) (up : Bool) (y : Int) (R : List Sl) (hs : -70368744177664 ≤ start ∧ start ≤ 70368744177664) (hm : Stays g start up)
    (hc : ∀ x y, -70368744177664 ≤ x ∧ x ≤ 70368744177664 → Tri Try.prog f (.int .i64 x :: cap.toList).toArray (LL y) R (fun v L' R' => v = .bool (g x) ∧ LL x = L' ∧ R = R')) :
    Tri Try.prog 186 [.int .i64 start, .bool up, .func (.func f) #[] cap].toArray (LL y) R (fun v L' R' => ∃ (z : Int) (ok : Bool) (y' : Int), v = .tuple #[.int .i64 z, .bool ok] ∧ First g start up z ok ∧ LL y' = L' ∧ R = R') := by
  have hro := room_in (up := up) hs
  have h00 : start + sgn up * 0 = start := by simp
  refine tri_enter 80 Try.call186 Try.func186 rfl rfl rfl ?_
  refine qae ?_
  refine qad ?_
  refine qaz ?_
  refine qaw ?_
  refine LJ_q (yv_move rfl) rfl ?_
  refine qaa ?_
  refine LJ_gg (gives_callv rfl rfl (hc start y hs)) rfl rfl ?_
  rintro v L' R' ⟨rfl, rfl, rfl⟩
  refine qaf ?_
  refine q_c (fun hc0 => ?_) (fun hc0 => ?_)
  ·
   refine qae ?_
   refine qaa ?_
   refine qad ?_
   refine qaz ?_
   refine qbh ?_
   refine q_r (L' := LL start) (R' := R) (res2 rfl (rv_tmp (show _ = Value.int _ _ from rfl)) (rv_tmp (show _ = Value.bool _ from rfl))) ?_
   exact ⟨start, true, start, rfl, ⟨fun _ => ⟨0, by omega, by omega, h00.symm, hc0, fun j h1 h2 => by omega⟩, fun h => by cases h⟩, rfl, rfl⟩
  ·
   refine qbv ?_
   refine qaa ?_
   refine qa9 ?_
   refine qad ?_
   refine qad ?_
   refine qaw ?_
   refine qah ?_
   refine qb4 ?_
   refine qaf ?_
   refine CJ_joinS [8, 9, 21, 22] ((⟨fun _ => [(8, .int .i64 (sgn up)), (9, .int .i64 (room up start))], fun _ => LL start, fun _ => R, fun _ => 0⟩ : Head Unit)) ?_ ?_
   ·
    skip
    refine q_c (fun hc1 => ?_) (fun hc1 => ?_)
    ·
     refine qay ?_
     refine qaa ?_
     refine qar ?_
     refine qad ?_
     refine qad ?_
     refine qav ?_
     subst hc1; exact q_j ()
    ·
     refine CJ_skip ?_
     subst hc1; exact q_j ()
   ·
    rintro u junk
    try dsimp only
    refine qae ?_
    refine qad ?_
    refine qad ?_
    refine qa4 ?_
    refine CJ_joinS [10, 11, 23, 24, 25, 26, 27, 28, 29, 30, 31, 32, 33, 34, 35, 36, 37, 38] ((⟨fun g => [(10, .int .i64 g.1.1), (11, .int .i64 g.1.2.1)], fun g => LL g.1.2.2, fun _ => R, fun _ => 0⟩ : Head {q : Int × Int × Int // (0 ≤ q.1 ∧ q.1 < q.2.1 ∧ q.2.1 ≤ 281474976710656) ∧ g (start + sgn up * q.1) = false ∧ (q.1 = 0 ∨ q.1 < room up start) ∧ (q.2.1 < room up start → g (start + sgn up * q.2.1) = true)})) ?_ ?_
    ·
     refine CJ_block ?_
     refine CJ_forgetW [10, 11, 23, 24, 25, 26, 27, 28, 29, 30, 31, 32, 33, 34, 35, 36, 37, 38] (by repeat (first | apply Off.upd rfl | apply Off.havoc rfl | refine Off.updL (t' := havoc _ _ _) rfl ?_ | exact Off.refl)) [(10, Value.int _ _), (11, Value.int _ _)] (by repeat' (first | exact trivial | refine And.intro rfl ?_)) fun tq0 => ?_
     refine q_p [10, 11, 23, 24, 25, 26, 27, 28, 29, 30, 31, 32, 33, 34, 35, 36, 37, 38] ((⟨fun g => [(10, .int .i64 g.1.1), (11, .int .i64 g.1.2.1)], fun g => LL g.1.2.2, fun _ => R, fun g => (room up start + 1 - g.1.1).toNat⟩ : Head {q : Int × Int × Int // ((q.1 = 0 ∧ q.2.1 = 1) ∨ (1 ≤ q.1 ∧ q.2.1 = q.1 * 2)) ∧ g (start + sgn up * q.1) = false ∧ (q.1 = 0 ∨ q.1 < room up start)})) (⟨(0, 1, start), .inl ⟨rfl, rfl⟩, by rw [h00]; exact hc0, .inl rfl⟩) ?_
     rintro ⟨⟨bad, good, y2⟩, hbg, hbf, hbr⟩ junk
     try dsimp only
     dsimp only at hbg hbf hbr
     have hgm := sgn_mul (up := up) (z := good) (by omega)
     refine qbi ?_
     refine qaa ?_
     refine qaa ?_
     refine qaj ?_
     refine qah ?_
     refine LJ_case (k := 26) (show _ = Value.bool _ from rfl) (fun hg4 => ?_) (fun hg4 => ?_)
     ·
      replace hg4 := qb hg4
      refine LJ_qg (yv_move rfl) rfl rfl ?_
      refine LJ_qg (yv_move (show _ = Value.int _ _ from rfl)) rfl rfl ?_
      refine LJ_qg (yv_move (show _ = Value.int _ _ from rfl)) rfl rfl ?_
      refine LJ_qg (yv_move (show _ = Value.int _ _ from rfl)) rfl rfl ?_
      refine LJ_qg (by first | exact yv_mul64 rfl rfl (by omega) (by omega) | exact yv_mulU rfl rfl (by omega) (by omega) | exact yv_mul rfl rfl) rfl rfl ?_
      refine LJ_qg (by first | exact yv_add64 rfl rfl (by omega) (by omega) | exact yv_addU rfl rfl (by omega) (by omega) | exact yv_add rfl rfl) rfl rfl ?_
      refine LJ_gg (gives_callv rfl rfl (hc (start + sgn up * good) y2 (sgn_in hs (by omega)))) rfl rfl ?_
      rintro v L' R' ⟨rfl, rfl, rfl⟩
      refine LJ_qg (yv_not rfl) rfl rfl ?_
      refine LJ_q (by first | exact yv_pick_true rfl rfl | exact yv_pick_false rfl rfl | exact yv_pick rfl) rfl ?_
      refine qaf ?_
      refine q_c (fun hc2 => ?_) (fun hc2 => ?_)
      ·
       refine CJ_skip (seqK_normal (CJ_seq (CJ_block (CJ_region ?_))))
       refine qaa ?_
       refine qad ?_
       refine qcs ?_
       refine qaa ?_
       refine qcm ?_
       refine qad ?_
       refine qav ?_
       exact q_k ⟨(good, good * 2, start + sgn up * good), by dsimp only; omega, by simpa using hc2, by dsimp only; omega⟩
      ·
       refine CJ_exit (seqK_exit (loopK_exit (blockK_exit ?_)))
       exact joinK_mk ⟨(bad, good, _), by dsimp only; omega, hbf, hbr, fun h => by first | (exfalso; have h' : good < room up start := h; omega) | simpa using hc2⟩ (by repeat (first | exact Off.refl | apply Off.upd rfl | apply Off.havoc rfl | apply Off.updL rfl | apply Off.left rfl | apply Off.leftu rfl)) (by repeat' (first | exact trivial | refine And.intro rfl ?_)) (by repeat (first | exact zs0 _ | exact zs1 _ | apply zs2 | apply zs3 | apply zs4 | apply zs5)) (allR_self _)
     ·
      replace hg4 := qb hg4
      refine LJ_skg rfl rfl ?_
      refine LJ_skg rfl rfl ?_
      refine LJ_skg rfl rfl ?_
      refine LJ_skg rfl rfl ?_
      refine LJ_skg rfl rfl ?_
      refine LJ_skg rfl rfl ?_
      refine LJ_skg rfl rfl ?_
      refine LJ_skg rfl rfl ?_
      refine LJ_q (by first | exact yv_pick_true rfl rfl | exact yv_pick_false rfl rfl | exact yv_pick rfl) rfl ?_
      refine qaf ?_
      refine CJ_cond_false rfl ?_
      refine CJ_exit (seqK_exit (loopK_exit (blockK_exit ?_)))
      exact joinK_mk ⟨(bad, good, _), by dsimp only; omega, hbf, hbr, fun h => by first | (exfalso; have h' : good < room up start := h; omega) | simpa using hc2⟩ (by repeat (first | exact Off.refl | apply Off.upd rfl | apply Off.havoc rfl | apply Off.updL rfl | apply Off.left rfl | apply Off.leftu rfl)) (by repeat' (first | exact trivial | refine And.intro rfl ?_)) (by repeat (first | exact zs0 _ | exact zs1 _ | apply zs2 | apply zs3 | apply zs4 | apply zs5)) (allR_self _)
    ·
     rintro ⟨⟨bad, good, y2⟩, hbg, hbf, hbr, hgt⟩ junk
     try dsimp only
     dsimp only at hbg hbf hbr hgt
     refine qbi ?_
     refine qaa ?_
     refine qaa ?_
     refine qbz ?_
     refine qaf ?_
     refine CJ_joinS [6, 7, 11, 42, 43, 44, 45, 46, 47, 48, 49, 50, 51, 52, 53, 54, 55] ((⟨fun q => [(11, .int .i64 q.1.1)], fun q => LL q.1.2, fun _ => R, fun _ => 0⟩ : Head {q : Int × Int // bad < q.1 ∧ q.1 ≤ room up start ∧ g (start + sgn up * q.1) = true})) ?_ ?_
     ·
      skip
      refine q_c (fun hc3 => ?_) (fun hc3 => ?_)
      ·
       refine qae ?_
       refine qaa ?_
       refine qad ?_
       refine qa4 ?_
       have hgm := sgn_mul (up := up) (z := room up start) (by omega)
       refine qay ?_
       refine qaa ?_
       refine qaa ?_
       refine qbx ?_
       refine qah ?_
       refine LJ_case (k := 46) (show _ = Value.bool _ from rfl) (fun hg4 => ?_) (fun hg4 => ?_)
       ·
        replace hg4 := qb hg4
        refine LJ_skg rfl rfl ?_
        refine LJ_skg rfl rfl ?_
        refine LJ_skg rfl rfl ?_
        refine LJ_skg rfl rfl ?_
        refine LJ_skg rfl rfl ?_
        refine LJ_skg rfl rfl ?_
        refine LJ_skg rfl rfl ?_
        refine LJ_skg rfl rfl ?_
        refine LJ_q (by first | exact yv_pick_true rfl rfl | exact yv_pick_false rfl rfl | exact yv_pick rfl) rfl ?_
        refine qaf ?_
        refine CJ_cond_true rfl ?_
        refine qae ?_
        refine qad ?_
        refine qaz ?_
        refine LJ_nil (seqK_normal (CJ_ret (joinK_ret ?_)))
        refine q_r (L' := LL _) (R' := R) (res2 rfl (rv_tmp (show _ = Value.int _ _ from rfl)) (rv_tmp (show _ = Value.bool _ from rfl))) ?_
        refine ⟨0, false, _, rfl, ⟨(fun h => by cases h), fun _ => ⟨rfl, fun j h1 h2 => ?_⟩⟩, rfl, rfl⟩
        by_cases hj : j = 0
        · rw [hj, h00]; exact hc0
        · first
            | (exfalso; omega)
            | exact hm.no h1 h2 (Int.le_refl _) (by simpa using hc4)
       ·
        replace hg4 := qb hg4
        refine LJ_qg (yv_move rfl) rfl rfl ?_
        refine LJ_qg (yv_move (show _ = Value.int _ _ from rfl)) rfl rfl ?_
        refine LJ_qg (yv_move (show _ = Value.int _ _ from rfl)) rfl rfl ?_
        refine LJ_qg (yv_move (show _ = Value.int _ _ from rfl)) rfl rfl ?_
        refine LJ_qg (by first | exact yv_mul64 rfl rfl (by omega) (by omega) | exact yv_mulU rfl rfl (by omega) (by omega) | exact yv_mul rfl rfl) rfl rfl ?_
        refine LJ_qg (by first | exact yv_add64 rfl rfl (by omega) (by omega) | exact yv_addU rfl rfl (by omega) (by omega) | exact yv_add rfl rfl) rfl rfl ?_
        refine LJ_gg (gives_callv rfl rfl (hc (start + sgn up * room up start) y2 (sgn_in hs (by omega)))) rfl rfl ?_
        rintro v L' R' ⟨rfl, rfl, rfl⟩
        refine LJ_qg (yv_not rfl) rfl rfl ?_
        refine LJ_q (by first | exact yv_pick_true rfl rfl | exact yv_pick_false rfl rfl | exact yv_pick rfl) rfl ?_
        refine qaf ?_
        refine q_c (fun hc4 => ?_) (fun hc4 => ?_)
        ·
         refine qae ?_
         refine qad ?_
         refine qaz ?_
         refine LJ_nil (seqK_normal (CJ_ret (joinK_ret ?_)))
         refine q_r (L' := LL _) (R' := R) (res2 rfl (rv_tmp (show _ = Value.int _ _ from rfl)) (rv_tmp (show _ = Value.bool _ from rfl))) ?_
         refine ⟨0, false, _, rfl, ⟨(fun h => by cases h), fun _ => ⟨rfl, fun j h1 h2 => ?_⟩⟩, rfl, rfl⟩
         by_cases hj : j = 0
         · rw [hj, h00]; exact hc0
         · first
             | (exfalso; omega)
             | exact hm.no h1 h2 (Int.le_refl _) (by simpa using hc4)
        ·
         refine CJ_skip ?_
         exact q_j ⟨(room up start, start + sgn up * room up start), by dsimp only; omega, by dsimp only; omega, by simpa using hc4⟩
      ·
       refine CJ_skip ?_
       exact q_j ⟨(good, y2), by dsimp only; omega, by dsimp only; omega, hgt (by omega)⟩
     ·
      rintro ⟨⟨good2, y3⟩, h31, h32, h33⟩ junk
      try dsimp only
      dsimp only at h31 h32 h33
      refine CJ_seq (CJ_block ?_)
      refine CJ_forget [(0, Value.int _ _), (2, _), (8, Value.int _ _), (10, Value.int _ _), (11, Value.int _ _)] (by repeat' (first | exact trivial | refine And.intro rfl ?_)) fun tq1 => ?_
      refine q_p [10, 11, 12, 56, 57, 58, 59, 60, 61, 62, 63, 64, 65, 66, 67, 68, 69, 70, 71, 72, 73, 74] ((⟨fun q => [(10, .int .i64 q.1.1), (11, .int .i64 q.1.2.1)], fun q => LL q.1.2.2, fun _ => R, fun q => (q.1.2.1 - q.1.1).toNat⟩ : Head {q : Int × Int × Int // (0 ≤ q.1 ∧ q.1 < q.2.1 ∧ q.2.1 ≤ room up start) ∧ g (start + sgn up * q.1) = false ∧ g (start + sgn up * q.2.1) = true})) (⟨(bad, good2, y3), by dsimp only; omega, hbf, h33⟩) ?_
      rintro ⟨⟨lo, hi, y4⟩, q1, q2, q3⟩ junk
      try dsimp only
      dsimp only at q1 q2 q3
      refine qbi ?_
      refine qaa ?_
      refine qar ?_
      refine qaa ?_
      refine qaj ?_
      refine qaf ?_
      refine q_c (fun hc5 => ?_) (fun hc5 => ?_)
      ·
       obtain ⟨mid, hmid⟩ : ∃ mid, mid = lo + (hi - lo).tdiv 2 := ⟨_, rfl⟩
       have hmb : lo < mid ∧ mid < hi := by rw [Int.tdiv_eq_ediv_of_nonneg (by omega)] at hmid; omega
       have hdv : 0 ≤ (hi - lo).tdiv 2 ∧ (hi - lo).tdiv 2 ≤ hi - lo := by rw [Int.tdiv_eq_ediv_of_nonneg (by omega)]; omega
       refine CJ_skip (seqK_normal (CJ_block (CJ_seq (CJ_region ?_))))
       refine qaa ?_
       refine qaa ?_
       refine qaa ?_
       refine qa9 ?_
       refine qdd ?_
       refine qar ?_
       refine qad ?_
       refine qa4 ?_
       rw [← hmid]
       have hgm := sgn_mul (up := up) (z := mid) (by omega)
       refine qay ?_
       refine LJ_q (yv_move rfl) rfl ?_
       refine qaa ?_
       refine qaa ?_
       refine qaa ?_
       refine qcm ?_
       refine qar ?_
       refine LJ_gg (gives_callv rfl rfl (hc (start + sgn up * mid) y4 (sgn_in hs (by omega)))) rfl rfl ?_
       rintro v L' R' ⟨rfl, rfl, rfl⟩
       refine qaf ?_
       refine q_c (fun hc6 => ?_) (fun hc6 => ?_)
       ·
        refine qay ?_
        refine qaa ?_
        refine qad ?_
        refine LJ_nil (blockK_normal ?_)
        exact q_k ⟨(lo, mid, start + sgn up * mid), by dsimp only; omega, q2, hc6⟩
       ·
        refine qay ?_
        refine qaa ?_
        refine qad ?_
        refine LJ_nil (blockK_normal ?_)
        exact q_k ⟨(mid, hi, start + sgn up * mid), by dsimp only; omega, hc6, q3⟩
      ·
       refine qc3 ?_
       have hgm := sgn_mul (up := up) (z := hi) (by omega)
       refine qay ?_
       refine qaa ?_
       refine qaa ?_
       refine qaa ?_
       refine qcm ?_
       refine qar ?_
       refine qad ?_
       refine qaz ?_
       refine qa0 ?_
       refine q_r (L' := LL y4) (R' := R) (res2 rfl (rv_tmp (show _ = Value.int _ _ from rfl)) (rv_tmp (show _ = Value.bool _ from rfl))) ?_
       exact ⟨start + sgn up * hi, true, y4, rfl, ⟨fun _ => ⟨hi, by omega, by omega, rfl, q3, fun j h1 h2 => hm.no h1 (show j ≤ lo by omega) (by omega) q2⟩, fun h => by cases h⟩, rfl, rfl⟩
end Go.Proofs.Ytlgjgigciapkfaa

end
section
namespace Go.Proofs.Ytlgjgigciapkfaa
open Go.Aw Go
set_option maxRecDepth 20000
attribute [local irreducible] CJ LJ DJ Tri YV Gives seqK blockK loopK retK RV mergeK OwL.L

/-- a call that is lent one own list, and gives a value -/
theorem Tri.lend1 {P : Program} {f : FuncId} {args : Array Value} {A : List Blk} {R : List Sl} {p : OwL Int} {T : TypeId} {u : Value} (hin : InB (p.L T icell) A) (hok : p.ok 1 icell)
    (h : Tri P f args [] (isl p.arr :: R) (fun v L' R' => v = u ∧ [] = L' ∧ isl p.arr :: R = R')) : Tri P f args A R (fun v L' R' => v = u ∧ A = L' ∧ R = R') := by
  have h2 := Tri.lend (S := [isl p.arr]) (Post := fun v L' => v = u ∧ [] = L') (Spl.rest (L := A)) (fun w G hh s hs => by
    rw [List.mem_singleton.1 hs]
    exact lend_rep hh hin hok (fun _ => rfl) (by decide) (fun s hs => by cases hs)) (h.mono fun v L' R' ⟨a1, a2, a3⟩ => ⟨⟨a1, a2⟩, a3⟩)
  exact h2.mono fun v L'' R' ⟨L', e, ⟨a1, a2⟩, a3⟩ => ⟨a1, by rw [← a2, List.append_nil] at e; exact e, a3⟩

theorem setv {o : Ow} {l : List Int} {k : Nat} {y : Int} : (⟨o, l⟩ : OwL Int).val = (⟨o, l.set k y⟩ : OwL Int).val := OwL.set_val.symm

structure HypsN (n : XNet) (a : XAir) (s : XSetting) (ps : List Int) (v : Int) (R : List Sl) : Prop where
  pp : InR (ppsl n.pipes) R
  aa : InR (aasl n.at_) R
  is : NetIs a s n
  ok : AirOk a
  len : ps.length = a.mine.places.l.length
  pres : PresOk ps
  v : 0 ≤ v ∧ v < a.mine.places.l.length

theorem netLowL {n : XNet} {a : XAir} {s : XSetting} {o : Ow} {ps : List Int} {v y : Int} {A : List Blk} {R : List Sl} (h : HypsN n a s ps v R) (hy : -70368744177664 ≤ y ∧ y ≤ 70368744177664) (hin : InB ((⟨o, ps.set v.toNat y⟩ : OwL Int).L 3 icell) A) (hok : (⟨o, ps.set v.toNat y⟩ : OwL Int).ok 1 icell) :
    Tri Try.prog 174 [n.val, (⟨o, ps⟩ : OwL Int).val, .int .i64 v].toArray A R (fun w L' R' => w = .int .i64 (lowN a s (ps.set v.toNat y) v) ∧ A = L' ∧ R = R') := by
  rw [setv (k := v.toNat) (y := y)]
  exact Tri.lend1 hin hok (netLow_tri n a s (⟨o, ps.set v.toNat y⟩ : OwL Int).arr v [] _ (h.pp.mono fun r hr => inR_self (.tail _ hr)) (h.aa.mono fun r hr => inR_self (.tail _ hr)) (inR_self (.head _)) h.is h.ok (by simp [h.len]) (h.pres.set _ hy) h.v)

theorem netHighL {n : XNet} {a : XAir} {s : XSetting} {o : Ow} {ps : List Int} {v y : Int} {A : List Blk} {R : List Sl} (h : HypsN n a s ps v R) (hy : -70368744177664 ≤ y ∧ y ≤ 70368744177664) (hin : InB ((⟨o, ps.set v.toNat y⟩ : OwL Int).L 3 icell) A) (hok : (⟨o, ps.set v.toNat y⟩ : OwL Int).ok 1 icell) :
    Tri Try.prog 175 [n.val, (⟨o, ps⟩ : OwL Int).val, .int .i64 v].toArray A R (fun w L' R' => w = .int .i64 (highN a s (ps.set v.toNat y) v) ∧ A = L' ∧ R = R') := by
  rw [setv (k := v.toNat) (y := y)]
  exact Tri.lend1 hin hok (netHigh_tri n a s (⟨o, ps.set v.toNat y⟩ : OwL Int).arr v [] _ (h.pp.mono fun r hr => inR_self (.tail _ hr)) (h.aa.mono fun r hr => inR_self (.tail _ hr)) (inR_self (.head _)) h.is h.ok (by simp [h.len]) (h.pres.set _ hy) h.v)

structure HypsR (a : XAir) (s : XSetting) (ps : List Int) (v : Int) (R : List Sl) : Prop where
  air : AirR a R
  set : SetR s R
  ok : AirOk a
  fit : FitOk a s
  len : ps.length = a.mine.places.l.length
  pres : PresOk ps
  v : 0 ≤ v ∧ v < a.mine.places.l.length
/-- the tests -/
abbrev lowG (a : XAir) (s : XSetting) (ps : List Int) (v : Int) : Int → Bool := fun x => decide (0 ≤ lowN a s (ps.set v.toNat x) v)
abbrev highG (a : XAir) (s : XSetting) (ps : List Int) (v : Int) : Int → Bool := fun x => decide (highN a s (ps.set v.toNat x) v ≤ 0)
theorem lowG_stays {a : XAir} {s : XSetting} {ps : List Int} {v start : Int} (ha : AirOk a) (hv : v.toNat < ps.length) : Stays (lowG a s ps v) start true := by
  intro i j h0 hij hj hg
  rw [decide_eq_true_eq] at hg ⊢
  have := lowN_mono (s := s) ha (above_set (ps := ps) hv (show start + sgn true * i ≤ start + sgn true * j by simp only [sgn]; simp; omega))
  omega
theorem highG_stays {a : XAir} {s : XSetting} {ps : List Int} {v start : Int} (ha : AirOk a) (hv : v.toNat < ps.length) : Stays (highG a s ps v) start false := by
  intro i j h0 hij hj hg
  rw [decide_eq_true_eq] at hg ⊢
  have := highN_mono (s := s) ha (above_set (ps := ps) hv (show start + sgn false * j ≤ start + sgn false * i by simp only [sgn]; simp; omega))
  omega

/-- the closure's blocks -/
abbrev clL (b8 b5 b3 : Nat) (n : XNet) (o : Ow) (ps : List Int) (v : Int) (L : List Blk) (y : Int) : List Blk :=
  ⟨b8, [(⟨o, ps⟩ : OwL Int).val], 38⟩ :: ((⟨o, ps.set v.toNat y⟩ : OwL Int).L 3 icell ++ (⟨b5, [.int .i64 v], 3⟩ :: ⟨b3, n.cells, 221⟩ :: L))
theorem least1_tri {b8 b5 b3 : Nat} {n : XNet} {a : XAir} {s : XSetting} {o : Ow} {ps : List Int} {u : Int} {L : List Blk} {R : List Sl} (h : HypsN n a s ps u R) (hok : (⟨o, ps⟩ : OwL Int).ok 1 icell) (x y : Int) (hx : -70368744177664 ≤ x ∧ x ≤ 70368744177664) :
    Tri Try.prog 188 [.int .i64 x, .pointer (some ⟨b8, 0, none⟩), .pointer (some ⟨b5, 0, none⟩), .pointer (some ⟨b3, 0, none⟩)].toArray (clL b8 b5 b3 n o ps u L y) R (fun w L' R' => w = .bool (lowG a s ps u x) ∧ clL b8 b5 b3 n o ps u L x = L' ∧ R = R') := by
  have hv := h.v
  have hlen := h.len
  have hok2 : ∀ z, (⟨o, ps.set u.toNat z⟩ : OwL Int).ok 1 icell := fun z => OwL.len_ok icell_len hok (by simp)
  have hoky := hok2 y
  have hget := get_D (l := ps.set u.toNat y) (k := u.toNat) 0 (by simp; omega)
  refine tri_enter 15 Try.call188 Try.func188 rfl rfl rfl ?_
  refine qae ?_
  refine qaz ?_
  refine qam ?_
  refine qac ?_
  refine qac ?_
  refine qaa ?_
  refine LJ_q (yv_index_ow tb ((⟨o, ps.set u.toNat y⟩ : OwL Int)) _ rfl rfl ((show _ = Value.slice _ _ _ from rfl).trans setv) rfl (by assumption) (i := u.toNat) (by first | rfl | omega | (simp; omega)) (by first | omega | (dsimp only; omega) | (dsimp only; rw [List.length_set]; omega))) rfl ?_
  refine LJ_g0 (gives_store1_ow tb ((⟨o, ps.set u.toNat y⟩ : OwL Int)) (x) rfl rfl rfl rfl (by repeat (first | apply OSeg.cons | exact OSeg.here | exact OSeg.last | exact OSeg.at (by assumption) | apply OSeg.app)) (by assumption) (fun _ => rfl) (by assumption) (by decide) (by rfl) (by rfl)) ?_
  rintro v L' R' ⟨rfl, rfl⟩
  refine qa4 ?_
  refine CJ_L (by rw [List.set_set]) ?_
  refine qay ?_
  refine qbe ?_
  refine qac ?_
  refine qac ?_
  refine q_l rfl (netLowL (o := o) (y := x) h hx (by repeat (first | exact inB_here | apply inB_cons | apply inB_app)) (hok2 x)) ?_
  refine qbz ?_
  refine qaz ?_
  refine qa0 ?_
  refine q_b (L' := clL b8 b5 b3 n o ps u L x) (R' := R) ?_
  exact ⟨rfl, rfl, rfl⟩
theorem netLeast_tri (n : XNet) (a : XAir) (s : XSetting) (ps : Arr Int) (u : Int) (L : List Blk) (R : List Sl) (h : HypsN n a s ps.l u R) (hps : InR (isl ps) R) :
    Tri Try.prog 173 [n.val, ps.val, .int .i64 u].toArray L R (fun w L' R' => ∃ (z : Int) (ok : Bool), w = .tuple #[.int .i64 z, .bool ok] ∧ First (lowG a s ps.l u) (ps.l.getD u.toNat 0) true z ok ∧ L = L' ∧ R = R') := by
  have hv := h.v
  have hlen := h.len
  have hnp := h.ok.mine.places
  have hget := get_D (l := ps.l) (k := u.toNat) 0 (by omega)
  have hb := h.pres.get u.toNat
  have hst := lowG_stays (s := s) (start := ps.l.getD u.toNat 0) h.ok (ps := ps.l) (v := u) (by omega)
  refine tri_enter 19 Try.call173 Try.func173 rfl rfl rfl ?_
  refine qae ?_
  refine qax ?_
  intro b3
  refine LJ_box1 (v := Value.int _ _) rfl rfl rfl ?_
  intro b5
  refine qad ?_
  refine qaz ?_
  refine qam ?_
  refine qbm ?_
  refine LJ_g (gives_copy (f := icell) (xs := ps) tb rfl rfl rfl (by decide) rfl rfl (hps) (fun _ => rfl) (by omega)) rfl ?_
  rintro v L' R' ⟨o10, rfl, hok10, rfl, rfl⟩
  refine qaq ?_
  intro b8
  refine qcy ?_
  refine qam ?_
  refine qbm ?_
  refine qac ?_
  refine LJ_q (by first | exact yv_index_ro tb rfl rfl rfl rfl (by first | assumption | exact zr (by simp)) (i := u.toNat) (by first | rfl | omega | (simp; omega)) (by omega) | exact yv_index tb rfl rfl rfl rfl (i := u.toNat) (by first | rfl | omega | (simp; omega)) (by omega)) rfl ?_
  refine qa7 ?_
  refine LJ_q (yv_func rfl) rfl ?_
  refine LJ_L (show _ = clL b8 b5 b3 n o10 ps.l u L (ps.l.getD u.toNat 0) from by rw [clL, set_self]; rfl) ?_
  refine LJ_call rfl (search_tri 188 #[.pointer (some ⟨b8, 0, none⟩), .pointer (some ⟨b5, 0, none⟩), .pointer (some ⟨b3, 0, none⟩)] (clL b8 b5 b3 n o10 ps.l u L) (lowG a s ps.l u) (ps.l.getD u.toNat 0) true (ps.l.getD u.toNat 0) _ hb hst (fun x y hx => least1_tri h hok10 x y hx)) rfl ?_
  rintro v L' R' ⟨z, ok, y', rfl, hF, rfl, rfl⟩
  refine qbs ?_
  refine qbs ?_
  refine qad ?_
  refine qaz ?_
  refine qa0 ?_
  refine q_r (L' := L) (R' := R) (res2 rfl (rv_tmp (show _ = Value.int _ _ from rfl)) (rv_tmp (show _ = Value.bool _ from rfl))) ?_
  exact ⟨z, ok, rfl, hF, rfl, rfl⟩

theorem greatest1_tri {b8 b5 b3 : Nat} {n : XNet} {a : XAir} {s : XSetting} {o : Ow} {ps : List Int} {u : Int} {L : List Blk} {R : List Sl} (h : HypsN n a s ps u R) (hok : (⟨o, ps⟩ : OwL Int).ok 1 icell) (x y : Int) (hx : -70368744177664 ≤ x ∧ x ≤ 70368744177664) :
    Tri Try.prog 187 [.int .i64 x, .pointer (some ⟨b8, 0, none⟩), .pointer (some ⟨b5, 0, none⟩), .pointer (some ⟨b3, 0, none⟩)].toArray (clL b8 b5 b3 n o ps u L y) R (fun w L' R' => w = .bool (highG a s ps u x) ∧ clL b8 b5 b3 n o ps u L x = L' ∧ R = R') := by
  have hv := h.v
  have hlen := h.len
  have hok2 : ∀ z, (⟨o, ps.set u.toNat z⟩ : OwL Int).ok 1 icell := fun z => OwL.len_ok icell_len hok (by simp)
  have hoky := hok2 y
  have hget := get_D (l := ps.set u.toNat y) (k := u.toNat) 0 (by simp; omega)
  refine tri_enter 15 Try.call187 Try.func187 rfl rfl rfl ?_
  refine qae ?_
  refine qaz ?_
  refine qam ?_
  refine qac ?_
  refine qac ?_
  refine qaa ?_
  refine LJ_q (yv_index_ow tb ((⟨o, ps.set u.toNat y⟩ : OwL Int)) _ rfl rfl ((show _ = Value.slice _ _ _ from rfl).trans setv) rfl (by assumption) (i := u.toNat) (by first | rfl | omega | (simp; omega)) (by first | omega | (dsimp only; omega) | (dsimp only; rw [List.length_set]; omega))) rfl ?_
  refine LJ_g0 (gives_store1_ow tb ((⟨o, ps.set u.toNat y⟩ : OwL Int)) (x) rfl rfl rfl rfl (by repeat (first | apply OSeg.cons | exact OSeg.here | exact OSeg.last | exact OSeg.at (by assumption) | apply OSeg.app)) (by assumption) (fun _ => rfl) (by assumption) (by decide) (by rfl) (by rfl)) ?_
  rintro v L' R' ⟨rfl, rfl⟩
  refine qa4 ?_
  refine CJ_L (by rw [List.set_set]) ?_
  refine qay ?_
  refine qbe ?_
  refine qac ?_
  refine qac ?_
  refine q_l rfl (netHighL (o := o) (y := x) h hx (by repeat (first | exact inB_here | apply inB_cons | apply inB_app)) (hok2 x)) ?_
  refine qbx ?_
  refine qaz ?_
  refine qa0 ?_
  refine q_b (L' := clL b8 b5 b3 n o ps u L x) (R' := R) ?_
  exact ⟨rfl, rfl, rfl⟩
theorem netGreatest_tri (n : XNet) (a : XAir) (s : XSetting) (ps : Arr Int) (u : Int) (L : List Blk) (R : List Sl) (h : HypsN n a s ps.l u R) (hps : InR (isl ps) R) :
    Tri Try.prog 172 [n.val, ps.val, .int .i64 u].toArray L R (fun w L' R' => ∃ (z : Int) (ok : Bool), w = .tuple #[.int .i64 z, .bool ok] ∧ First (highG a s ps.l u) (ps.l.getD u.toNat 0) false z ok ∧ L = L' ∧ R = R') := by
  have hv := h.v
  have hlen := h.len
  have hnp := h.ok.mine.places
  have hget := get_D (l := ps.l) (k := u.toNat) 0 (by omega)
  have hb := h.pres.get u.toNat
  have hst := highG_stays (s := s) (start := ps.l.getD u.toNat 0) h.ok (ps := ps.l) (v := u) (by omega)
  refine tri_enter 19 Try.call172 Try.func172 rfl rfl rfl ?_
  refine qae ?_
  refine qax ?_
  intro b3
  refine LJ_box1 (v := Value.int _ _) rfl rfl rfl ?_
  intro b5
  refine qad ?_
  refine qaz ?_
  refine qam ?_
  refine qbm ?_
  refine LJ_g (gives_copy (f := icell) (xs := ps) tb rfl rfl rfl (by decide) rfl rfl (hps) (fun _ => rfl) (by omega)) rfl ?_
  rintro v L' R' ⟨o10, rfl, hok10, rfl, rfl⟩
  refine qaq ?_
  intro b8
  refine qcy ?_
  refine qam ?_
  refine qbm ?_
  refine qac ?_
  refine LJ_q (by first | exact yv_index_ro tb rfl rfl rfl rfl (by first | assumption | exact zr (by simp)) (i := u.toNat) (by first | rfl | omega | (simp; omega)) (by omega) | exact yv_index tb rfl rfl rfl rfl (i := u.toNat) (by first | rfl | omega | (simp; omega)) (by omega)) rfl ?_
  refine qa7 ?_
  refine LJ_q (yv_func rfl) rfl ?_
  refine LJ_L (show _ = clL b8 b5 b3 n o10 ps.l u L (ps.l.getD u.toNat 0) from by rw [clL, set_self]; rfl) ?_
  refine LJ_call rfl (search_tri 187 #[.pointer (some ⟨b8, 0, none⟩), .pointer (some ⟨b5, 0, none⟩), .pointer (some ⟨b3, 0, none⟩)] (clL b8 b5 b3 n o10 ps.l u L) (highG a s ps.l u) (ps.l.getD u.toNat 0) false (ps.l.getD u.toNat 0) _ hb hst (fun x y hx => greatest1_tri h hok10 x y hx)) rfl ?_
  rintro v L' R' ⟨z, ok, y', rfl, hF, rfl, rfl⟩
  refine qbs ?_
  refine qbs ?_
  refine qad ?_
  refine qaz ?_
  refine qa0 ?_
  refine q_r (L' := L) (R' := R) (res2 rfl (rv_tmp (show _ = Value.int _ _ from rfl)) (rv_tmp (show _ = Value.bool _ from rfl))) ?_
  exact ⟨z, ok, rfl, hF, rfl, rfl⟩

end Go.Proofs.Ytlgjgigciapkfaa

end
section
namespace Go.Proofs.Ytlgjgigciapkfaa
open Go.Aw Go
set_option maxRecDepth 20000
attribute [local irreducible] CJ LJ DJ Tri YV Gives seqK blockK loopK retK RV mergeK OwL.L

end Go.Proofs.Ytlgjgigciapkfaa

end
section
namespace Go.Proofs.Ytlgjgigciapkfaa
open Go.Aw Go
set_option maxRecDepth 20000
attribute [local irreducible] CJ LJ DJ Tri YV Gives seqK blockK loopK retK RV mergeK OwL.L

theorem presOk_of {ps : List Int} (h : ps.findSome? presBad = none) : PresOk ps := fun p hp => by
  obtain ⟨i, hi⟩ := List.mem_iff_getElem?.1 hp
  exact presBad_none h i p hi
theorem presOk_none {ps : List Int} (h : PresOk ps) : ps.findSome? presBad = none := List.findSome?_eq_none_iff.2 fun p hp => by
  have := h p hp
  exact if_neg (by omega)

section
variable {a : XAir} {s : XSetting} {ps : Arr Int} {v : Int}
end

structure RightN (a : XAir) (s : XSetting) (ps : List Int) (v : Int) : Prop where
  ok : AirOk a
  fit : FitOk a s
  len : ps.length = a.mine.places.l.length
  pres : PresOk ps
  v : 0 ≤ v ∧ v < a.mine.places.l.length
end Go.Proofs.Ytlgjgigciapkfaa

end
section
namespace Go.Proofs.Ytlgjgigciapkfaa
open Go.Aw Go

/-! all places together -/
/-! a state that fits -/
end Go.Proofs.Ytlgjgigciapkfaa

end
