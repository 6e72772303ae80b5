/-
  Flows: RefFits, PipeOf, Mono, Spec, Codes, in one text. By an AI agent; no person has read it.
-/
import Derived.Test.YtlgjgigciapkfaaFans
set_option linter.unusedSimpArgs false
set_option linter.unusedVariables false
section
variable {A9 B9 : Prop}
theorem yahaa (a : A9) (h : A9 → B9 := by exact CJ_drawn tb [0, 1, 2, 3, 4, 5, 6, 7, 8, 9, 10, 11, 12, 13] _ mixed (by kernel_rfl) (List.Sublist.refl _)) : B9 := h a
theorem yahab (a : A9) (h : A9 → B9 := by exact CJ_drawn2 tb [] [0, 1, 2, 3, 4, 5, 6, 7, 8, 9, 10, 11] [12] (_) _ mixed (by kernel_rfl) (by repeat (first | exact zs0 _ | exact zs1 _ | apply zs2 | apply zs3 | apply zs4 | apply zs5)) (by (repeat (first | apply List.Sublist.cons (a := Blk.mk b88 _ _) | apply List.Sublist.cons_cons)); exact List.Sublist.refl _)) : B9 := h a
theorem yahac (a : A9) (h : A9 → B9 := by exact DJ3_q (yv_index tb rfl rfl rfl rfl (i := (a.mine.roads.l.getD k2 default).fr.toNat) (by first | rfl | omega | (simp; omega)) (by omega)) rfl rfl rfl rfl) : B9 := h a
theorem yahad (a : A9) (h : A9 → B9 := by exact DJ3_q (yv_index tb rfl rfl rfl rfl (i := (a.mine.roads.l.getD k2 default).to.toNat) (by first | rfl | omega | (simp; omega)) (by omega)) rfl rfl rfl rfl) : B9 := h a
end
section
namespace Go.Proofs.Ytlgjgigciapkfaa
open Go.Aw Go
set_option maxRecDepth 20000
attribute [local irreducible] CJ LJ DJ Tri YV Gives seqK blockK loopK retK RV mergeK

def presBad (p : Int) : Option Int := if p < -70368744177664 ∨ 70368744177664 < p then some 1 else none
def flowBad (q : Int) : Option Int := if q < -1048576 ∨ 1048576 < q then some 1 else none
def netTo (a : XAir) (x : XState) : Nat → List Int
  | 0 => List.replicate x.pres.l.length 0
  | k + 1 =>
    let l1 := (netTo a x k).set (a.mine.roads.l.getD k default).fr.toNat ((netTo a x k).getD (a.mine.roads.l.getD k default).fr.toNat 0 + x.flows.l.getD k 0)
    l1.set (a.mine.roads.l.getD k default).to.toNat (l1.getD (a.mine.roads.l.getD k default).to.toNat 0 - x.flows.l.getD k 0)
def roadUnfit (a : XAir) (s : XSetting) (x : XState) (i : Nat) : Option Int :=
  let r := a.mine.roads.l.getD i default
  let d := x.pres.l.getD r.fr.toNat 0 - x.pres.l.getD r.to.toNat 0
  if (r.closed = true ∧ x.flows.l.getD i 0 ≠ 0) ∨ (r.closed = false ∧ (d < (innerS a s i (x.flows.l.getD i 0)).low ∨ (innerS a s i (x.flows.l.getD i 0)).high < d)) then some 10 else none
def placeUnfit (a : XAir) (x : XState) (net : List Int) (i : Nat) : Option Int :=
  if ((a.mine.places.l.getD i default).surface = true ∧ x.pres.l.getD i 0 ≠ 0) ∨ ((a.mine.places.l.getD i default).surface = false ∧ net.getD i 0 ≠ 0) then some 10 else none
def fitsS (a : XAir) (s : XSetting) (x : XState) : Int :=
  if airErr a ≠ 0 then airErr a else if fitB a s = false then 21
  else if x.pres.l.length ≠ a.mine.places.l.length ∨ x.flows.l.length ≠ a.mine.roads.l.length then 11
  else match x.pres.l.findSome? presBad with
    | some e => e
    | none => match x.flows.l.findSome? flowBad with
      | some e => e
      | none => match (List.range x.flows.l.length).findSome? (roadUnfit a s x) with
        | some e => e
        | none => ((List.range x.pres.l.length).findSome? (placeUnfit a x (netTo a x x.flows.l.length))).getD 0

theorem netTo_length (a : XAir) (x : XState) : ∀ k, (netTo a x k).length = x.pres.l.length
  | 0 => by simp [netTo]
  | k + 1 => by simp only [netTo, List.length_set]; exact netTo_length a x k

theorem set_bounds {l : List Int} {i : Nat} {v B : Int} (hl : ∀ (j : Nat) (y : Int), l[j]? = some y → -B ≤ y ∧ y ≤ B) (hv : -B ≤ v ∧ v ≤ B) : ∀ (j : Nat) (y : Int), (l.set i v)[j]? = some y → -B ≤ y ∧ y ≤ B := by
  intro j y hy
  rw [List.getElem?_set] at hy
  split at hy
  · split at hy
    · cases hy; exact hv
    · cases hy
  · exact hl j y hy

theorem netTo_bounds {a : XAir} {x : XState} (hf : ∀ (i : Nat) (q : Int), x.flows.l[i]? = some q → -1048576 ≤ q ∧ q ≤ 1048576) : ∀ k, k ≤ x.flows.l.length → ∀ (j : Nat) (y : Int), (netTo a x k)[j]? = some y → -(2097152 * (k : Int)) ≤ y ∧ y ≤ 2097152 * (k : Int)
  | 0, _, j, y, hy => by
    simp only [netTo, List.getElem?_replicate] at hy
    split at hy
    · cases hy; omega
    · cases hy
  | k + 1, hk, j, y, hy => by
    have ih := netTo_bounds (a := a) hf k (by omega)
    have hq := hf k _ (get_D 0 (by omega))
    have gd : ∀ (l : List Int) (B : Int) (i : Nat), 0 ≤ B → (∀ (j : Nat) (y : Int), l[j]? = some y → -B ≤ y ∧ y ≤ B) → -B ≤ l.getD i 0 ∧ l.getD i 0 ≤ B := by
      intro l B i hB h
      rcases Nat.lt_or_ge i l.length with h' | h'
      · exact h i _ (get_D 0 h')
      · rw [List.getD_eq_getElem?_getD, List.getElem?_eq_none h']; simp; omega
    have ih1 : ∀ (j : Nat) (y : Int), (netTo a x k)[j]? = some y → -(2097152 * (k : Int) + 1048576) ≤ y ∧ y ≤ 2097152 * (k : Int) + 1048576 := fun j y h => by have := ih j y h; omega
    have h0 := gd (netTo a x k) (2097152 * (k : Int)) (a.mine.roads.l.getD k default).fr.toNat (by omega) ih
    have s1 := set_bounds (i := (a.mine.roads.l.getD k default).fr.toNat) (v := (netTo a x k).getD (a.mine.roads.l.getD k default).fr.toNat 0 + x.flows.l.getD k 0) ih1 (by omega)
    have h1 := gd _ _ (a.mine.roads.l.getD k default).to.toNat (by omega) s1
    have s1' : ∀ (j : Nat) (y : Int), ((netTo a x k).set (a.mine.roads.l.getD k default).fr.toNat ((netTo a x k).getD (a.mine.roads.l.getD k default).fr.toNat 0 + x.flows.l.getD k 0))[j]? = some y → -(2097152 * (k : Int) + 2097152) ≤ y ∧ y ≤ 2097152 * (k : Int) + 2097152 := fun j y h => by have := s1 j y h; omega
    have s2 := set_bounds (i := (a.mine.roads.l.getD k default).to.toNat) (v := ((netTo a x k).set (a.mine.roads.l.getD k default).fr.toNat ((netTo a x k).getD (a.mine.roads.l.getD k default).fr.toNat 0 + x.flows.l.getD k 0)).getD (a.mine.roads.l.getD k default).to.toNat 0 - x.flows.l.getD k 0) s1' (by omega)
    have := s2 j y hy
    push_cast
    omega

theorem fitsS_at {a : XAir} {s : XSetting} {x : XState} (h0 : airErr a = 0) (h1 : fitB a s = true) (h2 : ¬ (x.pres.l.length ≠ a.mine.places.l.length ∨ x.flows.l.length ≠ a.mine.roads.l.length)) :
    fitsS a s x = match x.pres.l.findSome? presBad with
    | some e => e
    | none => match x.flows.l.findSome? flowBad with
      | some e => e
      | none => match (List.range x.flows.l.length).findSome? (roadUnfit a s x) with
        | some e => e
        | none => ((List.range x.pres.l.length).findSome? (placeUnfit a x (netTo a x x.flows.l.length))).getD 0 := by
  rw [fitsS, if_neg (by simp [h0]), if_neg (by simp [h1]), if_neg h2]

theorem ref09Fits_tri (a : XAir) (s : XSetting) (x : XState) (L : List Blk) (R : List Sl) (hm : AirR a R) (hs : SetR s R) (hx : StateR x R) :
    Tri Try.prog 39 [a.val, s.val, x.val].toArray L R (fun v L' R' => v = .int .i64 (fitsS a s x) ∧ L = L' ∧ R = R') := by
  have hmp := hm.places
  have hmr := hm.roads
  have hxp := hx.pres
  have hxf := hx.flows
  refine Tri_len Try.call39 hxp fun hpn => ?_
  refine Tri_len Try.call39 hxf fun hfn => ?_
  refine tri_enter 211 Try.call39 Try.func39 rfl rfl rfl ?_
  refine qae ?_
  refine qax ?_
  intro b3
  refine qax ?_
  intro b4
  refine qax ?_
  intro b5
  refine qad ?_
  refine qaw ?_
  refine qa8 ?_
  refine q_l rfl (ref09Check_tri a _ _ hm) ?_
  refine qad ?_
  refine qam ?_
  refine qaa ?_
  refine qbq ?_
  refine qaf ?_
  refine q_c (fun hc0 => ?_) (fun hc0 => ?_)
  ·
   refine qae ?_
   refine qaa ?_
   refine qad ?_
   refine qbh ?_
   refine q_i (L' := L) (R' := R) ?_
   exact ⟨by rw [fitsS, if_pos hc0], rfl, rfl⟩
  simp only [Decidable.not_not] at hc0
  have hrf : rightB a s = fitB a s := by simp [rightB, hc0]
  refine qbo ?_
  refine qa8 ?_
  refine qbe ?_
  refine q_l rfl (ref09Right_tri a s _ _ hm hs) ?_
  refine qb4 ?_
  refine qaf ?_
  refine q_c (fun hc1 => ?_) (fun hc1 => ?_)
  ·
   refine qae ?_
   refine qad ?_
   refine qbh ?_
   refine q_i (L' := L) (R' := R) ?_
   exact ⟨by rw [fitsS, if_neg (by simp [hc0]), if_pos (by rw [← hrf]; exact hc1)], rfl, rfl⟩
  have hfb : fitB a s = true := by rw [← hrf]; simpa using hc1
  obtain ⟨ha, hf⟩ := right_of (by simpa using hc1)
  have hap := ha.mine.places
  have har := ha.mine.roads
  refine qbo ?_
  refine qab ?_
  refine qac ?_
  refine qag ?_
  refine qab ?_
  refine qab ?_
  refine qac ?_
  refine qag ?_
  refine qbq ?_
  refine qah ?_
  apply LJ_or (G := [_, _, _, _, _, _, _, _]) (j := 8) (cj := 33) rfl rfl (by rfl) rfl (show _ = Value.bool _ from rfl) rfl
  ·
   intro hg9
   replace hg9 := qb hg9
   refine qab ?_
   refine qac ?_
   refine qag ?_
   refine qab ?_
   refine qab ?_
   refine qac ?_
   refine qag ?_
   refine qbq ?_
   exact qai
  intro junk9
  refine qaf ?_
  refine q_c (fun hc2 => ?_) (fun hc2 => ?_)
  ·
   refine qae ?_
   refine qad ?_
   refine qbh ?_
   refine q_i (L' := L) (R' := R) ?_
   exact ⟨by rw [fitsS, if_neg (by simp [hc0]), if_neg (by simp [hfb]), if_pos (by omega)], rfl, rfl⟩
  have hfa := fitsS_at (s := s) hc0 hfb (x := x) (by omega)
  refine qbo ?_
  refine qad ?_
  refine qa2 ?_
  refine CJ_forget [(3, Value.pointer _), (4, Value.pointer _), (5, Value.pointer _), (8, Value.int _ _)] (by repeat' (first | exact trivial | refine And.intro rfl ?_)) fun tq0 => ?_
  refine q_s [6, 8, 43, 44, 45, 46, 47, 48, 49, 50, 51, 52, 53, 54, 55, 56, 57, 58, 59, 60, 61, 62, 63] (fun g : FS (presBad) (x.pres.l) => [(8, .int .i64 ((g.1 : Nat) : Int))]) (fun g => (x.pres.l).length - g.1) ⟨0, FS_zero _ _⟩ ?_
  rintro ⟨k0, hk0, hp0⟩ junk
  try dsimp only
  refine qbi ?_
  refine qaa ?_
  refine qab ?_
  refine qac ?_
  refine qag ?_
  refine qaj ?_
  refine qaf ?_
  refine q_c (fun hc3 => ?_) (fun hc3 => ?_)
  ·
   obtain ⟨p, hp⟩ := get_some (l := x.pres.l) (k := k0) (by omega)
   refine qbb ?_
   refine qab ?_
   refine qac ?_
   refine qaa ?_
   refine qa3 ?_
   refine qa7 ?_
   refine qaj ?_
   refine qah ?_
   apply LJ_or (G := [_, _, _, _, _, _]) (j := 6) (cj := 56) rfl rfl (by rfl) rfl (show _ = Value.bool _ from rfl) rfl
   ·
    intro hg7
    replace hg7 := qb hg7
    refine qab ?_
    refine qac ?_
    refine qaa ?_
    refine qa3 ?_
    refine qa7 ?_
    refine qa5 ?_
    exact qai
   intro junk7
   refine qaf ?_
   refine q_c (fun hc4 => ?_) (fun hc4 => ?_)
   ·
    refine qae ?_
    refine qad ?_
    refine qbt ?_
    refine q_i (L' := L) (R' := R) ?_
    exact ⟨by rw [hfa, FS_some hp0 hp (if_pos (by omega))], rfl, rfl⟩
   refine qbj ?_
   refine qaa ?_
   refine qar ?_
   refine qad ?_
   refine qav ?_
   exact q_k ⟨k0 + 1, FS_next hp0 hp (if_neg (by omega))⟩
  have hn0 := FS_none hp0 (by omega)
  refine qcf ?_
  refine qad ?_
  refine qa2 ?_
  refine CJ_forget [(3, Value.pointer _), (4, Value.pointer _), (5, Value.pointer _), (9, Value.int _ _)] (by repeat' (first | exact trivial | refine And.intro rfl ?_)) fun tq1 => ?_
  refine q_s [6, 9, 64, 65, 66, 67, 68, 69, 70, 71, 72, 73, 74, 75, 76, 77, 78, 79, 80, 81, 82, 83, 84] (fun g : FS (flowBad) (x.flows.l) => [(9, .int .i64 ((g.1 : Nat) : Int))]) (fun g => (x.flows.l).length - g.1) ⟨0, FS_zero _ _⟩ ?_
  rintro ⟨k1, hk1, hp1⟩ junk
  try dsimp only
  refine qbi ?_
  refine qaa ?_
  refine qab ?_
  refine qac ?_
  refine qag ?_
  refine qaj ?_
  refine qaf ?_
  refine q_c (fun hc5 => ?_) (fun hc5 => ?_)
  ·
   obtain ⟨q, hq⟩ := get_some (l := x.flows.l) (k := k1) (by omega)
   refine qbb ?_
   refine qab ?_
   refine qac ?_
   refine qaa ?_
   refine qa3 ?_
   refine qa7 ?_
   refine qaj ?_
   refine qah ?_
   apply LJ_or (G := [_, _, _, _, _, _]) (j := 6) (cj := 77) rfl rfl (by rfl) rfl (show _ = Value.bool _ from rfl) rfl
   ·
    intro hg7
    replace hg7 := qb hg7
    refine qab ?_
    refine qac ?_
    refine qaa ?_
    refine qa3 ?_
    refine qa7 ?_
    refine qa5 ?_
    exact qai
   intro junk7
   refine qaf ?_
   refine q_c (fun hc6 => ?_) (fun hc6 => ?_)
   ·
    refine qae ?_
    refine qad ?_
    refine qbt ?_
    refine q_i (L' := L) (R' := R) ?_
    exact ⟨by rw [hfa, hn0, FS_some hp1 hq (if_pos (by omega))], rfl, rfl⟩
   refine qbj ?_
   refine qaa ?_
   refine qar ?_
   refine qad ?_
   refine qav ?_
   exact q_k ⟨k1 + 1, FS_next hp1 hq (if_neg (by omega))⟩
  have hn1 := FS_none hp1 (by omega)
  rw [hn0, hn1] at hfa
  dsimp only at hfa
  have hpb : ∀ (i : Nat) (p : Int), x.pres.l[i]? = some p → -70368744177664 ≤ p ∧ p ≤ 70368744177664 := fun i p hp => by
    have := List.findSome?_eq_none_iff.1 hn0 p (List.mem_of_getElem? hp)
    unfold presBad at this
    split at this
    · cases this
    · omega
  have hqb : ∀ (i : Nat) (q : Int), x.flows.l[i]? = some q → -1048576 ≤ q ∧ q ≤ 1048576 := fun i q hq => by
    have := List.findSome?_eq_none_iff.1 hn1 q (List.mem_of_getElem? hq)
    unfold flowBad at this
    split at this
    · cases this
    · omega
  refine qbk ?_
  refine qab ?_
  refine qac ?_
  refine qag ?_
  refine qc7 ?_
  rintro v L' R' ⟨b88, rfl, rfl, hR88⟩
  replace hR88 := hR88.symm; subst hR88
  refine qc4 ?_
  refine qco ?_
  rw [zrep_int]
  refine qay ?_
  refine qad ?_
  refine qa2 ?_
  refine CJ_forget [(3, Value.pointer _), (4, Value.pointer _), (5, Value.pointer _), (10, Value.slice _ _ _), (11, Value.int _ _)] (by repeat' (first | exact trivial | refine And.intro rfl ?_)) fun tq2 => ?_
  refine q_p [6, 11, 12, 13, 14, 89, 90, 91, 92, 93, 94, 95, 96, 97, 98, 99, 100, 101, 102, 103, 104, 105, 106, 107, 108, 109, 110, 111, 112, 113, 114, 115, 116, 117, 118, 119, 120, 121, 122, 123, 124, 125, 126, 127, 128, 129, 130, 131, 132, 133, 134, 135, 136, 137, 138, 139, 140, 141, 142, 143, 144, 145, 146, 147, 148, 149, 150, 151, 152, 153, 154, 155, 156, 157, 158, 159, 160, 161, 162, 163, 164, 165, 166, 167, 168, 169, 170, 171, 172] ((⟨fun g => [(11, .int .i64 ((g.1 : Nat) : Int))], fun g => ⟨b88, ints (netTo a x g.1), 3⟩ :: ⟨b5, x.cells, 42⟩ :: ⟨b4, s.cells, 40⟩ :: ⟨b3, a.cells, 30⟩ :: L, fun _ => R, fun g => x.flows.l.length - g.1⟩ : Head (FSR (roadUnfit a s x) x.flows.l.length))) (⟨0, FSR_zero _ _⟩) ?_
  rintro ⟨k2, hk2, hp2⟩ junk
  try dsimp only
  refine qbi ?_
  refine qaa ?_
  refine qab ?_
  refine qac ?_
  refine qag ?_
  refine qaj ?_
  refine qaf ?_
  refine q_c (fun hc7 => ?_) (fun hc7 => ?_)
  ·
   have hro := get_D (l := a.mine.roads.l) (k := k2) default (by omega)
   have hfl := get_D (l := x.flows.l) (k := k2) 0 (by omega)
   have hrk := ha.mine.road _ _ hro
   have hr1 := hrk.fr
   have hr2 := hrk.to
   have hpf := get_D (l := x.pres.l) (k := (a.mine.roads.l.getD k2 default).fr.toNat) 0 (by omega)
   have hpt := get_D (l := x.pres.l) (k := (a.mine.roads.l.getD k2 default).to.toNat) 0 (by omega)
   have hpfb := hpb _ _ hpf
   have hptb := hpb _ _ hpt
   have hqk := hqb _ _ hfl
   have hnl := netTo_length a x k2
   have hg1 := get_D (l := netTo a x k2) (k := (a.mine.roads.l.getD k2 default).fr.toNat) 0 (by omega)
   have hg1b := netTo_bounds hqb k2 (by omega) _ _ hg1
   refine qbb ?_
   refine qab ?_
   refine qab ?_
   refine qac ?_
   refine qaa ?_
   refine qa3 ?_
   refine qc8 ?_
   refine qaq ?_
   intro b12
   refine qak ?_
   refine qaw ?_
   refine qab ?_
   refine qac ?_
   refine qah ?_
   apply LJ_and (G := [_, _, _, _, _, _]) (j := 2) (cj := 104) rfl rfl (by rfl) rfl (show _ = Value.bool _ from rfl) rfl
   ·
    intro hg3
    replace hg3 := qb hg3
    refine qab ?_
    refine qac ?_
    refine qaa ?_
    refine qa3 ?_
    refine qa7 ?_
    refine qbq ?_
    exact qai
   intro junk3
   refine qaf ?_
   refine q_c (fun hc8 => ?_) (fun hc8 => ?_)
   ·
    refine qae ?_
    refine qad ?_
    refine qch ?_
    refine q_i (L' := L) (R' := R) ?_
    exact ⟨by rw [hfa, FSR_some hp2 (by omega) (if_pos (.inl hc8))], rfl, rfl⟩
   refine qcl ?_
   refine yahaa ?_
   refine qal ?_
   refine qat ?_
   refine qal ?_
   refine qat ?_
   refine DJ_q (by first | exact yv_index_ro tb rfl rfl rfl rfl (by first | assumption | exact zr (by simp)) (i := (a.mine.roads.l.getD k2 default).fr.toNat) (by first | rfl | omega | (simp; omega)) (by omega) | exact yv_index tb rfl rfl rfl rfl (i := (a.mine.roads.l.getD k2 default).fr.toNat) (by first | rfl | omega | (simp; omega)) (by omega)) rfl rfl rfl ?_
   refine qbl ?_
   refine qal ?_
   refine qat ?_
   refine qal ?_
   refine qat ?_
   refine DJ_q (by first | exact yv_index_ro tb rfl rfl rfl rfl (by first | assumption | exact zr (by simp)) (i := (a.mine.roads.l.getD k2 default).to.toNat) (by first | rfl | omega | (simp; omega)) (by omega) | exact yv_index tb rfl rfl rfl rfl (i := (a.mine.roads.l.getD k2 default).to.toNat) (by first | rfl | omega | (simp; omega)) (by omega)) rfl rfl rfl ?_
   refine qbl ?_
   refine qb7 ?_
   refine qcg ?_
   refine DJ_nil (seqK_normal (CJ_seq (CJ_seq ?_)))
   refine CJ_drawn tb [0, 1, 2, 3, 4, 5, 6, 7, 8, 9, 10] _ mixed (by kernel_rfl) (List.Sublist.refl _) ?_
   refine qbc ?_
   refine qbd ?_
   refine qao ?_
   refine qal ?_
   refine qat ?_
   refine qao ?_
   refine qb5 ?_
   refine qbl ?_
   refine q_d rfl (ref09Drop_tri a s k2 (x.flows.l.getD k2 0) _ _ hm hs) ?_
   refine qbr ?_
   intro b14
   refine qbg ?_
   refine qb9 ?_
   have hdr : (a.mine.roads.l.getD k2 default).closed = false → dropS a s k2 (x.flows.l.getD k2 0) = innerS a s k2 (x.flows.l.getD k2 0) := fun hcl => by
     have ho : openB a s k2 = true := by
       have h1 : rightB a s = true := by simpa using hc1
       simp only [openB, h1, Int.toNat_natCast, hcl, Bool.true_and, Bool.and_eq_true, decide_eq_true_eq, Bool.not_false, and_true]
       omega
     rw [dropS, if_neg]
     rw [ho]
     simp only [Bool.true_eq_false, false_or]
     omega
   refine qay ?_
   refine qab ?_
   refine qac ?_
   refine qb4 ?_
   refine qah ?_
   apply LJ_and (G := [_, _, _, _, _, _, _, _, _, _]) (j := 3) (cj := 137) rfl rfl (by rfl) rfl (show _ = Value.bool _ from rfl) rfl
   ·
    intro hg4
    replace hg4 := qb hg4
    refine qaa ?_
    refine qab ?_
    refine qac ?_
    refine qaj ?_
    refine qah ?_
    apply LJ_or (G := [_, _, _, _]) (j := 8) (cj := 142) rfl rfl (by rfl) rfl (show _ = Value.bool _ from rfl) rfl
    ·
     intro hg9
     replace hg9 := qb hg9
     refine qaa ?_
     refine qab ?_
     refine qac ?_
     refine qa5 ?_
     exact qai
    intro junk9
    exact qai
   intro junk4
   refine qaf ?_
   refine q_c (fun hc9 => ?_) (fun hc9 => ?_)
   ·
    rw [hdr hc9.1] at hc9
    refine qae ?_
    refine qad ?_
    refine qch ?_
    refine q_i (L' := L) (R' := R) ?_
    exact ⟨by rw [hfa, FSR_some hp2 (by omega) (if_pos (.inr hc9))], rfl, rfl⟩
   have hru : roadUnfit a s x k2 = none := if_neg (by
     rintro (h | ⟨h, h'⟩)
     · rcases hc8 with h8 | h8
       · rw [h.1] at h8; cases h8
       · exact h.2 (by simpa using h8)
     · rw [hdr h] at hc9
       rcases hc9 with h9 | h9
       · rw [h] at h9; cases h9
       · rcases h' with h' | h'
         · exact h9.1 h'
         · exact h9.2 h')
   refine qcl ?_
   refine yahab ?_
   refine qct ?_
   refine qan ?_
   refine qau ?_
   refine yahac ?_
   refine qcr ?_
   refine qan ?_
   refine qau ?_
   refine qbf ?_
   refine qc5 ?_
   refine qci ?_
   refine qcj ?_
   refine yahac ?_
   refine qba ?_
   refine qb6 ?_
   refine qbu ?_
   have hsl : ((netTo a x k2).set (a.mine.roads.l.getD k2 default).fr.toNat ((netTo a x k2).getD (a.mine.roads.l.getD k2 default).fr.toNat 0 + x.flows.l.getD k2 0)).length = x.pres.l.length := by rw [List.length_set, hnl]
   have hg2 := get_D (l := (netTo a x k2).set (a.mine.roads.l.getD k2 default).fr.toNat ((netTo a x k2).getD (a.mine.roads.l.getD k2 default).fr.toNat 0 + x.flows.l.getD k2 0)) (k := (a.mine.roads.l.getD k2 default).to.toNat) 0 (by omega)
   have hg2b := set_bounds (B := 2097152 * (k2 : Int) + 1048576) (fun j y hy => by have := netTo_bounds hqb k2 (by omega) j y hy; omega) (by omega) _ _ hg2
   refine yahab ?_
   refine qct ?_
   refine qan ?_
   refine qau ?_
   refine yahad ?_
   refine qcr ?_
   refine qan ?_
   refine qau ?_
   refine qbf ?_
   refine qc5 ?_
   refine qci ?_
   refine qcc ?_
   refine yahad ?_
   refine qba ?_
   refine qb6 ?_
   refine qby ?_
   refine qaa ?_
   refine qar ?_
   refine qad ?_
   refine qav ?_
   exact q_k ⟨k2 + 1, FSR_next hp2 (by omega) hru⟩
  have hn2 := FSR_none hp2 (by omega)
  rw [hn2] at hfa
  dsimp only at hfa
  obtain rfl : k2 = x.flows.l.length := by omega
  have hnl := netTo_length a x x.flows.l.length
  refine qcf ?_
  refine qad ?_
  refine qa2 ?_
  refine CJ_forget [(3, Value.pointer _), (5, Value.pointer _), (10, Value.slice _ _ _), (15, Value.int _ _)] (by repeat' (first | exact trivial | refine And.intro rfl ?_)) fun tq3 => ?_
  refine q_s [6, 15, 173, 174, 175, 176, 177, 178, 179, 180, 181, 182, 183, 184, 185, 186, 187, 188, 189, 190, 191, 192, 193, 194, 195, 196, 197, 198, 199, 200, 201, 202, 203, 204, 205, 206, 207, 208, 209, 210] (fun g : FSR (placeUnfit a x (netTo a x x.flows.l.length)) (x.pres.l.length) => [(15, .int .i64 ((g.1 : Nat) : Int))]) (fun g => (x.pres.l.length) - g.1) ⟨0, FSR_zero _ _⟩ ?_
  rintro ⟨k3, hk3, hp3⟩ junk
  try dsimp only
  refine qbi ?_
  refine qaa ?_
  refine qbm ?_
  refine qag ?_
  refine qaj ?_
  refine qaf ?_
  refine q_c (fun hc10 => ?_) (fun hc10 => ?_)
  ·
   have hpl := get_D (l := a.mine.places.l) (k := k3) default (by omega)
   have hpr := get_D (l := x.pres.l) (k := k3) 0 (by omega)
   have hnt := get_D (l := netTo a x x.flows.l.length) (k := k3) 0 (by omega)
   refine qbb ?_
   refine qab ?_
   refine qab ?_
   refine qac ?_
   refine qaa ?_
   refine qa3 ?_
   refine qb0 ?_
   refine qa7 ?_
   refine qah ?_
   apply LJ_and (G := [_, _, _, _, _, _]) (j := 7) (cj := 186) rfl rfl (by rfl) rfl (show _ = Value.bool _ from rfl) rfl
   ·
    intro hg8
    replace hg8 := qb hg8
    refine qab ?_
    refine qac ?_
    refine qaa ?_
    refine qa3 ?_
    refine qa7 ?_
    refine qbq ?_
    exact qai
   intro junk8
   refine qah ?_
   apply LJ_or (G := [_, _, _, _, _, _, _, _, _, _, _, _, _, _, _]) (j := 15) (cj := 194) rfl rfl (by rfl) rfl (show _ = Value.bool _ from rfl) rfl
   ·
    intro hg16
    replace hg16 := qb hg16
    refine qab ?_
    refine qab ?_
    refine qac ?_
    refine qaa ?_
    refine qa3 ?_
    refine qb0 ?_
    refine qa7 ?_
    refine qb4 ?_
    refine qah ?_
    apply LJ_and (G := [_, _, _, _, _]) (j := 24) (cj := 203) rfl rfl (by rfl) rfl (show _ = Value.bool _ from rfl) rfl
    ·
     intro hg25
     replace hg25 := qb hg25
     refine qbm ?_
     refine qaa ?_
     refine qa3 ?_
     refine qa7 ?_
     refine qbq ?_
     exact qai
    intro junk25
    exact qai
   intro junk16
   refine qaf ?_
   refine q_c (fun hc11 => ?_) (fun hc11 => ?_)
   ·
    refine qae ?_
    refine qad ?_
    refine qbt ?_
    refine q_i (L' := L) (R' := R) ?_
    exact ⟨by rw [hfa, FSR_some hp3 (by omega) (if_pos hc11)]; rfl, rfl, rfl⟩
   refine qbj ?_
   refine qaa ?_
   refine qar ?_
   refine qad ?_
   refine qav ?_
   exact q_k ⟨k3 + 1, FSR_next hp3 (by omega) (if_neg (fun h => h.elim (fun h => hc11.1.elim (fun e => Bool.noConfusion (e.symm.trans h.1)) (fun e => e h.2)) (fun h => hc11.2.elim (fun e => Bool.noConfusion (e.symm.trans h.1)) (fun e => e h.2))))⟩
  have hn3 := FSR_none hp3 (by omega)
  refine qbk ?_
  refine qad ?_
  refine qa0 ?_
  refine q_i (L' := L) (R' := R) ?_
  exact ⟨by rw [hfa, hn3]; rfl, rfl, rfl⟩
end Go.Proofs.Ytlgjgigciapkfaa

end
section
namespace Go.Proofs.Ytlgjgigciapkfaa
open Go.Aw Go


def Rises (f : Int → Int) : Prop := ∀ x y : Int, -1048577 ≤ x → x < y → y ≤ 1048577 → f x < f y

end Go.Proofs.Ytlgjgigciapkfaa

end
section
namespace Go.Proofs.Ytlgjgigciapkfaa
open Go.Aw Go

def LeS (s t : XSpan) : Prop := s.low ≤ t.low ∧ s.high ≤ t.high

theorem between_low {a b : XPoint} {q : Int} (hw : a.flow < b.flow) : (betweenS a b q).low = a.pres + (-((a.pres - b.pres) * (q - a.flow))) / (b.flow - a.flow) := by
  rw [neg_floor (by omega)]; unfold betweenS; dsimp only; omega

theorem between_mono {a b : XPoint} {q q' : Int} (hp : b.pres ≤ a.pres) (hw : a.flow < b.flow) (h : q ≤ q') : LeS (betweenS a b q') (betweenS a b q) := by
  have hm : (a.pres - b.pres) * (q - a.flow) ≤ (a.pres - b.pres) * (q' - a.flow) := Int.mul_le_mul_of_nonneg_left (by omega) (by omega)
  constructor
  · rw [between_low hw, between_low hw]
    have := Int.ediv_le_ediv (a := -((a.pres - b.pres) * (q' - a.flow))) (b := -((a.pres - b.pres) * (q - a.flow))) (c := b.flow - a.flow) (by omega) (by omega)
    omega
  · have := Int.ediv_le_ediv (a := (a.pres - b.pres) * (q - a.flow)) (b := (a.pres - b.pres) * (q' - a.flow)) (c := b.flow - a.flow) (by omega) hm
    unfold betweenS; dsimp only; omega

theorem curveGo_mono : ∀ (l : List XPoint) (p : XPoint) (q q' : Int), CurveOk (p :: l) → p.flow ≤ q → q ≤ q' → LeS (curveGo p l q') (curveGo p l q)
  | [], p, q, q', _, _, _ => ⟨Int.le_refl _, Int.le_refl _⟩
  | r :: rest, p, q, q', h, hq, hqq => by
    have h0 := h.pt 0 p rfl
    have h1 := h.pt 1 r rfl
    have h2 := h.st 0 p r rfl rfl
    have ok' : CurveOk (r :: rest) := ⟨fun i => h.pt (i + 1), fun i => h.st (i + 1)⟩
    unfold curveGo
    by_cases c1 : q ≤ r.flow
    · by_cases c2 : q' ≤ r.flow
      · rw [if_pos c1, if_pos c2]; exact between_mono h2.2 h2.1 hqq
      · rw [if_pos c1, if_neg c2]
        have b1 := between_bounds (a := p) (b := r) (q := q) (by omega) (by omega)
        have b2 := curveGo_bounds rest r q' ok' (by omega)
        exact ⟨by omega, by omega⟩
    · rw [if_neg c1, if_neg (by omega)]
      exact curveGo_mono rest r q q' ok' (by omega) hqq

theorem curveS_mono {l : List XPoint} (h : CurveOk l) {q q' : Int} (hqq : q ≤ q') : LeS (curveS l q') (curveS l q) := by
  cases l with
  | nil => exact ⟨Int.le_refl _, Int.le_refl _⟩
  | cons p rest =>
    unfold curveS
    dsimp only
    by_cases c1 : q ≤ p.flow
    · by_cases c2 : q' ≤ p.flow
      · rw [if_pos c1, if_pos c2]; exact ⟨Int.le_refl _, Int.le_refl _⟩
      · rw [if_pos c1, if_neg c2]
        have b2 := curveGo_bounds rest p q' h (by omega)
        exact ⟨by dsimp only; omega, by dsimp only; omega⟩
    · rw [if_neg c1, if_neg (by omega)]
      exact curveGo_mono rest p q q' h (by omega) hqq

theorem alongS_mono {l : List XPoint} (h : CurveOk l) (back : Bool) {q q' : Int} (hqq : q ≤ q') : LeS (alongS l back q') (alongS l back q) := by
  unfold alongS
  cases back with
  | false => exact curveS_mono h hqq
  | true =>
    have := curveS_mono h (q := -q') (q' := -q) (by omega)
    exact ⟨by simp only [if_true, negS]; have := this.2; omega, by simp only [if_true, negS]; have := this.1; omega⟩

theorem stateS_mono {f : XFan} (h : CurveOk f.curve.l) (s : Int) {q q' : Int} (hqq : q ≤ q') : LeS (stateS f s q') (stateS f s q) := by
  have m1 := alongS_mono h f.back hqq
  have m2 := alongS_mono h (!f.back) hqq
  have m3 := alongS_mono h false hqq
  have m4 := alongS_mono h true hqq
  unfold LeS at *
  unfold stateS
  split
  · exact m1
  · split
    · exact m2
    · split
      · dsimp only; omega
      · exact ⟨Int.le_refl _, Int.le_refl _⟩

def LtS (s t : XSpan) : Prop := s.low < t.low ∧ s.high < t.high

theorem sq_lt {r x y : Int} (hr : 0 < r) (hx : 0 ≤ x) (h : x < y) : r * x * x < r * y * y := by
  have h1 : r * x ≤ r * y := Int.mul_le_mul_of_nonneg_left (by omega) (by omega)
  have h0 : 0 ≤ r * x := Int.mul_nonneg (by omega) hx
  have h2 : r * x * x ≤ r * x * y := Int.mul_le_mul_of_nonneg_left (by omega) h0
  have h3 : r * x < r * y := Int.mul_lt_mul_of_pos_left h hr
  have h4 : r * x * y < r * y * y := Int.mul_lt_mul_of_pos_right h3 (by omega)
  omega

theorem baseS_mono {rest lift : XSpan} (hr : 1 ≤ rest.low ∧ rest.low ≤ rest.high) {q q' : Int} (h : q < q') : LtS (baseS rest lift q) (baseS rest lift q') := by
  unfold baseS LtS
  have neg : ∀ (r x : Int), r * x * x = r * (-x) * (-x) := fun r x => by rw [Int.mul_neg (r * -x), Int.mul_neg r, Int.neg_mul, Int.neg_neg]
  by_cases c1 : q < 0
  · by_cases c2 : q' < 0
    · rw [if_pos c1, if_pos c2]
      have a1 := sq_lt (r := rest.high) (x := -q') (y := -q) (by omega) (by omega) (by omega)
      have a2 := sq_lt (r := rest.low) (x := -q') (y := -q) (by omega) (by omega) (by omega)
      rw [← neg, ← neg] at a1 a2
      dsimp only; omega
    · rw [if_pos c1, if_neg c2]
      have a1 := sq_lt (r := rest.high) (x := 0) (y := -q) (by omega) (by omega) (by omega)
      have a2 := sq_lt (r := rest.low) (x := 0) (y := -q) (by omega) (by omega) (by omega)
      rw [← neg] at a1 a2
      have b1 : 0 ≤ rest.low * q' * q' := Int.mul_nonneg (Int.mul_nonneg (by omega) (by omega)) (by omega)
      have b2 : 0 ≤ rest.high * q' * q' := Int.mul_nonneg (Int.mul_nonneg (by omega) (by omega)) (by omega)
      simp only [Int.mul_zero] at a1 a2
      dsimp only; omega
  · rw [if_neg c1, if_neg (by omega)]
    have a1 := sq_lt (r := rest.high) (x := q) (y := q') (by omega) (by omega) h
    have a2 := sq_lt (r := rest.low) (x := q) (y := q') (by omega) (by omega) h
    dsimp only; omega

theorem innerTo_mono {a : XAir} {s : XSetting} (ha : AirOk a) {r : Int} (hr : 0 ≤ r ∧ r < a.mine.roads.l.length) {q q' : Int} (h : q < q') : ∀ k, k ≤ a.fans.l.length → LtS (innerTo a s r q k) (innerTo a s r q' k)
  | 0, _ => by
    have hb := restTo_bounds (s := s) ha hr a.doors.l.length (Nat.le_refl _)
    exact baseS_mono ⟨hb.1, hb.2.1⟩ h
  | k + 1, hk => by
    have ih := innerTo_mono (s := s) ha hr h k (by omega)
    have m := stateS_mono (ha.fan k _ (get_D default (by omega))).1.ok (s.fans.l.getD k 0) (show q ≤ q' by omega)
    unfold LtS LeS at *
    rw [innerTo.eq_2, innerTo.eq_2]
    split
    · dsimp only; omega
    · exact ih

theorem innerS_mono {a : XAir} {s : XSetting} (ha : AirOk a) {r : Int} (hr : 0 ≤ r ∧ r < a.mine.roads.l.length) {q q' : Int} (h : q < q') : LtS (innerS a s r q) (innerS a s r q') := innerTo_mono ha hr h _ (Nat.le_refl _)
end Go.Proofs.Ytlgjgigciapkfaa

end
section
namespace Go.Proofs.Ytlgjgigciapkfaa
open Go.Aw Go

theorem Rises.le {f : Int → Int} (h : Rises f) {x y : Int} (h1 : -1048577 ≤ x) (h2 : x ≤ y) (h3 : y ≤ 1048577) : f x ≤ f y := by
  rcases Int.lt_or_eq_of_le h2 with h' | h'
  · exact Int.le_of_lt (h x y h1 h' h3)
  · rw [h']; exact Int.le_refl _

theorem lowS_all {f : Int → Int} {pr : Int} (hf : Rises f) : ∀ (n : Nat) (lo hi : Int), (hi - lo).toNat = n → -1048577 ≤ lo → lo ≤ hi → hi ≤ 1048577 →
    lo ≤ lowS f pr lo hi ∧ lowS f pr lo hi ≤ hi ∧ (∀ x, lo < x → x ≤ lowS f pr lo hi → f x ≤ pr) ∧ (∀ x, lowS f pr lo hi < x → x ≤ hi → pr < f x)
  | n, lo, hi, hn, h1, hle, h2 => by
    by_cases h : lo < hi
    · have he := half_eq (x := hi - lo + 1) (by omega)
      by_cases hc : f (lo + (hi - lo + 1).tdiv 2) ≤ pr
      · rw [lowS_le h hc]
        obtain ⟨a1, a2, a3, a4⟩ := lowS_all (pr := pr) hf _ (lo + (hi - lo + 1).tdiv 2) hi rfl (by omega) (by omega) h2
        refine ⟨by omega, a2, fun x hx1 hx2 => ?_, a4⟩
        rcases Int.lt_or_le (lo + (hi - lo + 1).tdiv 2) x with hx | hx
        · exact a3 x hx hx2
        · exact Int.le_trans (hf.le (by omega) hx (by omega)) hc
      · rw [lowS_gt h hc]
        obtain ⟨a1, a2, a3, a4⟩ := lowS_all (pr := pr) hf _ lo (lo + (hi - lo + 1).tdiv 2 - 1) rfl h1 (by omega) (by omega)
        refine ⟨a1, by omega, a3, fun x hx1 hx2 => ?_⟩
        rcases Int.lt_or_le (lo + (hi - lo + 1).tdiv 2 - 1) x with hx | hx
        · have := hf.le (x := lo + (hi - lo + 1).tdiv 2) (y := x) (by omega) (by omega) (by omega)
          omega
        · exact a4 x hx1 hx
    · rw [lowS_end h]
      exact ⟨by omega, by omega, fun x _ _ => by omega, fun x _ _ => by omega⟩
termination_by n => n
decreasing_by all_goals (have := half_eq (x := hi - lo + 1) (by omega); omega)

theorem highS_all {f : Int → Int} {pr : Int} (hf : Rises f) : ∀ (n : Nat) (lo hi : Int), (hi - lo).toNat = n → -1048577 ≤ lo → lo ≤ hi → hi ≤ 1048577 →
    lo ≤ highS f pr lo hi ∧ highS f pr lo hi ≤ hi ∧ (∀ x, lo ≤ x → x < highS f pr lo hi → f x < pr) ∧ (∀ x, highS f pr lo hi ≤ x → x < hi → pr ≤ f x)
  | n, lo, hi, hn, h1, hle, h2 => by
    by_cases h : lo < hi
    · have he := half_eq (x := hi - lo) (by omega)
      by_cases hc : pr ≤ f (lo + (hi - lo).tdiv 2)
      · rw [highS_ge h hc]
        obtain ⟨a1, a2, a3, a4⟩ := highS_all (pr := pr) hf _ lo (lo + (hi - lo).tdiv 2) rfl h1 (by omega) (by omega)
        refine ⟨a1, by omega, a3, fun x hx1 hx2 => ?_⟩
        rcases Int.lt_or_le x (lo + (hi - lo).tdiv 2) with hx | hx
        · exact a4 x hx1 hx
        · exact Int.le_trans hc (hf.le (by omega) hx (by omega))
      · rw [highS_lt h hc]
        obtain ⟨a1, a2, a3, a4⟩ := highS_all (pr := pr) hf _ (lo + (hi - lo).tdiv 2 + 1) hi rfl (by omega) (by omega) h2
        refine ⟨by omega, a2, fun x hx1 hx2 => ?_, a4⟩
        rcases Int.lt_or_le x (lo + (hi - lo).tdiv 2 + 1) with hx | hx
        · have := hf.le (x := x) (y := lo + (hi - lo).tdiv 2) (by omega) (by omega) (by omega)
          omega
        · exact a3 x hx hx2
    · rw [highS_end h]
      exact ⟨by omega, by omega, fun x _ _ => by omega, fun x _ _ => by omega⟩
termination_by n => n
decreasing_by all_goals (have := half_eq (x := hi - lo) (by omega); omega)

theorem rises_low {a : XAir} {s : XSetting} (ha : AirOk a) {r : Int} (hr : 0 ≤ r ∧ r < a.mine.roads.l.length) : Rises fun q => (innerS a s r q).low := fun _ _ _ h _ => (innerS_mono ha hr h).1
theorem rises_high {a : XAir} {s : XSetting} (ha : AirOk a) {r : Int} (hr : 0 ≤ r ∧ r < a.mine.roads.l.length) : Rises fun q => (innerS a s r q).high := fun _ _ _ h _ => (innerS_mono ha hr h).2
end Go.Proofs.Ytlgjgigciapkfaa

end
section
namespace Go.Proofs.Ytlgjgigciapkfaa
open Go.Aw Go
set_option maxRecDepth 20000
attribute [local irreducible] CJ LJ DJ Tri YV Gives seqK blockK loopK retK RV mergeK

def bcell (n : Int) : List Value := [.int .u8 n]
abbrev bsl (x : Arr Int) : Sl := x.sl 1 bcell []
abbrev cblk (c : Nat) (x : Arr Int) (k : Nat) : Blk := ⟨c, [x.val, .int .i64 (k : Int)], 135⟩
structure CodesR (x : Arr Int) (R : List Sl) : Prop where
  sl : InR (bsl x) R
  byte : ∀ (i : Nat) (b : Int), x.l[i]? = some b → 0 ≤ b ∧ b ≤ 255

theorem next_tri (c : Nat) (x : Arr Int) (k : Nat) (n : Int) (R : List Sl) (hx : CodesR x R) (hk : k ≤ x.l.length) (hn : n ≤ 1000000) :
    Tri Try.prog 41 [.pointer (some ⟨c, 0, none⟩), .int .i64 n].toArray [cblk c x k] R
      (fun v L' R' => ∃ (r : Int) (k' : Nat), v = .int .i64 r ∧ 0 ≤ r ∧ (1 ≤ n → r < n) ∧ (n < 1 → r = 0) ∧ k' ≤ x.l.length ∧ [cblk c x k'] = L' ∧ R = R') := by
  have hsl := hx.sl
  refine Tri_len Try.call41 hsl fun hxn => ?_
  refine tri_enter 77 Try.call41 Try.func41 rfl rfl rfl ?_
  refine qae ?_
  refine qad ?_
  refine qco ?_
  refine yahaa ?_
  refine qao ?_
  refine DJ_q (yv_lss rfl rfl) rfl rfl rfl ?_
  refine qb2 ?_
  refine DJ_case (k := 8) (show _ = Value.bool _ from rfl) (fun hg2 => ?_) (fun hg2 => ?_)
  ·
   replace hg2 := qb hg2
   iterate 10 refine qap ?_
   refine qbp ?_
   refine qbu ?_
   refine CJ_cond_true rfl ?_
   refine qae ?_
   refine qad ?_
   refine qbh ?_
   refine q_i (L' := [cblk c x k]) (R' := R) ?_
   exact ⟨0, k, rfl, by omega, fun _ => by omega, fun _ => rfl, hk, rfl, rfl⟩
  replace hg2 := qb hg2
  refine qb8 ?_
  refine qcb ?_
  refine qal ?_
  refine qat ?_
  refine qb8 ?_
  refine qcb ?_
  refine qal ?_
  refine qat ?_
  refine DJ_q (yv_len tb rfl rfl rfl) rfl rfl rfl ?_
  refine DJ_q (yv_geq rfl rfl) rfl rfl rfl ?_
  refine qbp ?_
  refine qbu ?_
  refine q_c (fun hc0 => ?_) (fun hc0 => ?_)
  ·
   refine qae ?_
   refine qad ?_
   refine qbh ?_
   refine q_i (L' := [cblk c x k]) (R' := R) ?_
   exact ⟨0, k, rfl, by omega, fun _ => by omega, fun _ => rfl, hk, rfl, rfl⟩
  have hb := get_D (l := x.l) (k := k) 0 (by omega)
  have hbb := hx.byte _ _ hb
  refine qbv ?_
  refine qa6 ?_
  refine LJ_q (yv_nilCheck rfl) rfl ?_
  refine qab ?_
  refine qac ?_
  refine qar ?_
  refine LJ_q (yv_nilCheck rfl) rfl ?_
  refine qab ?_
  refine qcn ?_
  refine qa4 ?_
  refine CJ_drawn tb [0, 1, 2, 3, 4, 5, 6, 7, 8, 9, 10, 11, 12] _ mixed (by kernel_rfl) (List.Sublist.refl _) ?_
  refine qb8 ?_
  refine qcb ?_
  refine qal ?_
  refine qat ?_
  refine qb8 ?_
  refine qcb ?_
  refine qal ?_
  refine qat ?_
  refine qb7 ?_
  refine qds ?_
  refine qbl ?_
  refine qdm ?_
  refine qcg ?_
  refine DJ_nil (seqK_normal (CJ_seq (CJ_seq ?_)))
  refine yahaa ?_
  refine qao ?_
  refine DJ_q (yv_gtr rfl rfl) rfl rfl rfl ?_
  refine qb2 ?_
  refine DJ_case (k := 41) (show _ = Value.bool _ from rfl) (fun hg2 => ?_) (fun hg2 => ?_)
  ·
   replace hg2 := qb hg2
   refine qb8 ?_
   refine qcb ?_
   refine qal ?_
   refine qat ?_
   refine qb8 ?_
   refine qcb ?_
   refine qal ?_
   refine qat ?_
   refine DJ_q (yv_len tb rfl rfl rfl) rfl rfl rfl ?_
   refine DJ_q (yv_lss rfl rfl) rfl rfl rfl ?_
   refine qbp ?_
   refine qbu ?_
   refine q_c (fun hc1 => ?_) (fun hc1 => ?_)
   ·
    obtain ⟨kk, hkk⟩ : ∃ kk, kk = k + 2 := ⟨_, rfl⟩
    have hb2 := get_D (l := x.l) (k := k + 1) 0 (by omega)
    have hbb2 := hx.byte _ _ hb2
    refine CJ_seq ?_
    refine CJ_drawn tb [0, 1, 2, 3, 4, 5, 6, 7, 8, 9, 10, 11, 12, 13, 14] _ mixed (by kernel_rfl) (List.Sublist.refl _) ?_
    refine qao ?_
    refine qdh ?_
    refine qb8 ?_
    refine qcb ?_
    refine qal ?_
    refine qat ?_
    refine qb8 ?_
    refine qcb ?_
    refine qal ?_
    refine qat ?_
    refine qdy ?_
    refine qbl ?_
    refine qdm ?_
    refine qc2 ?_
    refine qcg ?_
    refine DJ_nil (seqK_normal (CJ_region ?_))
    refine qa6 ?_
    refine LJ_q (yv_nilCheck rfl) rfl ?_
    refine qab ?_
    refine qac ?_
    refine qar ?_
    refine LJ_q (yv_nilCheck rfl) rfl ?_
    refine qab ?_
    refine qcn ?_
    refine qam ?_
    refine qaa ?_
    refine qaa ?_
    refine qda ?_
    refine qad ?_
    refine qa0 ?_
    have htm := fun y (h : 0 ≤ y) => And.intro (Int.tmod_nonneg n h) (Int.tmod_lt_of_pos y (show 0 < n by omega))
    refine retK_ret (L' := [cblk c x kk]) (R' := R) (res1 rfl (rv_tmp (show _ = Value.int _ _ from rfl))) ?hp ?hL ?hR
    case hp => exact ⟨_, kk, rfl, (htm _ (by omega)).1, fun _ => (htm _ (by omega)).2, fun _ => by omega, by omega, rfl, rfl⟩
    case hL => subst hkk; exact (by repeat (first | exact zs0 _ | exact zs1 _ | apply zs2 | apply zs3 | apply zs4 | apply zs5))
    case hR => exact allR_self _
   obtain ⟨kk, hkk⟩ : ∃ kk, kk = k + 1 := ⟨_, rfl⟩
   refine qbv ?_
   refine qaa ?_
   refine qaa ?_
   refine qda ?_
   refine qad ?_
   refine qa0 ?_
   have htm := fun y (h : 0 ≤ y) => And.intro (Int.tmod_nonneg n h) (Int.tmod_lt_of_pos y (show 0 < n by omega))
   refine retK_ret (L' := [cblk c x kk]) (R' := R) (res1 rfl (rv_tmp (show _ = Value.int _ _ from rfl))) ?hp ?hL ?hR
   case hp => exact ⟨_, kk, rfl, (htm _ (by omega)).1, fun _ => (htm _ (by omega)).2, fun _ => by omega, by omega, rfl, rfl⟩
   case hL => subst hkk; exact (by repeat (first | exact zs0 _ | exact zs1 _ | apply zs2 | apply zs3 | apply zs4 | apply zs5))
   case hR => exact allR_self _
  replace hg2 := qb hg2
  obtain ⟨kk, hkk⟩ : ∃ kk, kk = k + 1 := ⟨_, rfl⟩
  iterate 10 refine qap ?_
  refine qbp ?_
  refine qbu ?_
  refine CJ_cond_false rfl ?_
  refine qbv ?_
  refine qaa ?_
  refine qaa ?_
  refine qda ?_
  refine qad ?_
  refine qa0 ?_
  have htm := fun y (h : 0 ≤ y) => And.intro (Int.tmod_nonneg n h) (Int.tmod_lt_of_pos y (show 0 < n by omega))
  refine retK_ret (L' := [cblk c x kk]) (R' := R) (res1 rfl (rv_tmp (show _ = Value.int _ _ from rfl))) ?hp ?hL ?hR
  case hp => exact ⟨_, kk, rfl, (htm _ (by omega)).1, fun _ => (htm _ (by omega)).2, fun _ => by omega, by omega, rfl, rfl⟩
  case hL => subst hkk; exact (by repeat (first | exact zs0 _ | exact zs1 _ | apply zs2 | apply zs3 | apply zs4 | apply zs5))
  case hR => exact allR_self _

theorem one_tri (c : Nat) (x : Arr Int) (k : Nat) (n : Int) (R : List Sl) (hx : CodesR x R) (hk : k ≤ x.l.length) (hn : -1000000 ≤ n ∧ n ≤ 1000000) :
    Tri Try.prog 31 [.pointer (some ⟨c, 0, none⟩), .int .i64 n].toArray [cblk c x k] R
      (fun v L' R' => ∃ (b : Bool) (k' : Nat), v = .bool b ∧ k' ≤ x.l.length ∧ [cblk c x k'] = L' ∧ R = R') := by
  refine tri_enter 11 Try.call31 Try.func31 rfl rfl rfl ?_
  refine qae ?_
  refine qaz ?_
  refine qam ?_
  refine qa6 ?_
  refine qaa ?_
  refine LJ_call rfl (next_tri c x k n _ hx hk (by omega)) rfl ?_
  rintro v L' R' ⟨r, k', rfl, h1, h2, h3, hk', rfl, rfl⟩
  refine qaa ?_
  refine qa9 ?_
  refine qbn ?_
  refine qaz ?_
  refine qa0 ?_
  refine q_b (L' := [cblk c x k']) (R' := R) ?_
  exact ⟨_, k', rfl, hk', rfl, rfl⟩

theorem range_tri (c : Nat) (x : Arr Int) (k : Nat) (lo hi : Int) (R : List Sl) (hx : CodesR x R) (hk : k ≤ x.l.length) (hl : -400000 ≤ lo ∧ lo ≤ hi ∧ hi ≤ 400000) :
    Tri Try.prog 32 [.pointer (some ⟨c, 0, none⟩), .int .i64 lo, .int .i64 hi].toArray [cblk c x k] R
      (fun v L' R' => ∃ (r : Int) (k' : Nat), v = .int .i64 r ∧ lo ≤ r ∧ r ≤ hi ∧ k' ≤ x.l.length ∧ [cblk c x k'] = L' ∧ R = R') := by
  refine tri_enter 15 Try.call32 Try.func32 rfl rfl rfl ?_
  refine qae ?_
  refine qad ?_
  refine qam ?_
  refine qaa ?_
  refine qa6 ?_
  refine qaa ?_
  refine qaa ?_
  refine qa9 ?_
  refine qar ?_
  refine LJ_call rfl (next_tri c x k (hi - lo + 1) _ hx hk (by omega)) rfl ?_
  rintro v L' R' ⟨r, k', rfl, h1, h2, h3, hk', rfl, rfl⟩
  have h4 := h2 (by omega)
  refine qar ?_
  refine qad ?_
  refine qa0 ?_
  refine q_i (L' := [cblk c x k']) (R' := R) ?_
  exact ⟨_, k', rfl, by omega, by omega, hk', rfl, rfl⟩

abbrev ccells (x : Arr Int) (k : Nat) : List Value := [x.val, .int .i64 (k : Int)]

theorem next1 {c : Nat} {x : Arr Int} {k : Nat} {n : Int} {L : List Blk} {F : List Value → List Blk} {R : List Sl} (hu : USeg c (ccells x k) 135 L F) (hx : CodesR x R) (hk : k ≤ x.l.length) (hn : n ≤ 1000000) :
    Tri Try.prog 41 [.pointer (some ⟨c, 0, none⟩), .int .i64 n].toArray L R
      (fun v L' R' => ∃ (r : Int) (k' : Nat), v = .int .i64 r ∧ 0 ≤ r ∧ (1 ≤ n → r < n) ∧ (n < 1 → r = 0) ∧ k' ≤ x.l.length ∧ F (ccells x k') = L' ∧ R = R') :=
  (Tri.at1 (Post' := fun v cs' R' => ∃ (r : Int) (k' : Nat), v = .int .i64 r ∧ 0 ≤ r ∧ (1 ≤ n → r < n) ∧ (n < 1 → r = 0) ∧ k' ≤ x.l.length ∧ cs' = ccells x k' ∧ R = R') hu (next_tri c x k n R hx hk hn)
    (fun v L' R' ⟨r, k', h1, h2, h3, h4, h5, h6, h7⟩ => ⟨_, h6, r, k', h1, h2, h3, h4, h5, rfl, h7⟩)).mono
    (fun v L' R' ⟨cs', h0, r, k', h1, h2, h3, h4, h5, h6, h7⟩ => ⟨r, k', h1, h2, h3, h4, h5, by rw [← h6]; exact h0, h7⟩)
theorem one1 {c : Nat} {x : Arr Int} {k : Nat} {n : Int} {L : List Blk} {F : List Value → List Blk} {R : List Sl} (hu : USeg c (ccells x k) 135 L F) (hx : CodesR x R) (hk : k ≤ x.l.length) (hn : -1000000 ≤ n ∧ n ≤ 1000000) :
    Tri Try.prog 31 [.pointer (some ⟨c, 0, none⟩), .int .i64 n].toArray L R
      (fun v L' R' => ∃ (b : Bool) (k' : Nat), v = .bool b ∧ k' ≤ x.l.length ∧ F (ccells x k') = L' ∧ R = R') :=
  (Tri.at1 (Post' := fun v cs' R' => ∃ (b : Bool) (k' : Nat), v = .bool b ∧ k' ≤ x.l.length ∧ cs' = ccells x k' ∧ R = R') hu (one_tri c x k n R hx hk hn)
    (fun v L' R' ⟨b, k', h1, h5, h6, h7⟩ => ⟨_, h6, b, k', h1, h5, rfl, h7⟩)).mono
    (fun v L' R' ⟨cs', h0, b, k', h1, h5, h6, h7⟩ => ⟨b, k', h1, h5, by rw [← h6]; exact h0, h7⟩)
theorem range1 {c : Nat} {x : Arr Int} {k : Nat} {lo hi : Int} {L : List Blk} {F : List Value → List Blk} {R : List Sl} (hu : USeg c (ccells x k) 135 L F) (hx : CodesR x R) (hk : k ≤ x.l.length) (hl : -400000 ≤ lo ∧ lo ≤ hi ∧ hi ≤ 400000) :
    Tri Try.prog 32 [.pointer (some ⟨c, 0, none⟩), .int .i64 lo, .int .i64 hi].toArray L R
      (fun v L' R' => ∃ (r : Int) (k' : Nat), v = .int .i64 r ∧ lo ≤ r ∧ r ≤ hi ∧ k' ≤ x.l.length ∧ F (ccells x k') = L' ∧ R = R') :=
  (Tri.at1 (Post' := fun v cs' R' => ∃ (r : Int) (k' : Nat), v = .int .i64 r ∧ lo ≤ r ∧ r ≤ hi ∧ k' ≤ x.l.length ∧ cs' = ccells x k' ∧ R = R') hu (range_tri c x k lo hi R hx hk hl)
    (fun v L' R' ⟨r, k', h1, h2, h3, h5, h6, h7⟩ => ⟨_, h6, r, k', h1, h2, h3, h5, rfl, h7⟩)).mono
    (fun v L' R' ⟨cs', h0, r, k', h1, h2, h3, h5, h6, h7⟩ => ⟨r, k', h1, h2, h3, h5, by rw [← h6]; exact h0, h7⟩)
end Go.Proofs.Ytlgjgigciapkfaa

end
