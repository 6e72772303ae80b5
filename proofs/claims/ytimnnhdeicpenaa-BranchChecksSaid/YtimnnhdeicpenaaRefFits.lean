/-
  The reference's Fits. By an AI agent; no person has read it.
-/
import Derived.Test.YtimnnhdeicpenaaRef09
set_option linter.unusedSimpArgs false
set_option linter.unusedVariables false
namespace Go.Proofs.Ytimnnhdeicpenaa
open Go.Aw Go
set_option maxRecDepth 20000
attribute [local irreducible] CJ LJ DJ Tri YV Gives seqK blockK loopK retK RV mergeK

def presBad (p : Int) : Option Int := if p < -70368744177664 ∨ 70368744177664 < p then some 1 else none
def flowBad (q : Int) : Option Int := if q < -1048576 ∨ 1048576 < q then some 1 else none
/-- what leaves the places by the first k roads -/
def netTo (a : XAir) (x : XState) : Nat → List Int
  | 0 => List.replicate x.pres.l.length 0
  | k + 1 =>
    let l1 := (netTo a x k).set (a.mine.roads.l.getD k default).fr.toNat ((netTo a x k).getD (a.mine.roads.l.getD k default).fr.toNat 0 + x.flows.l.getD k 0)
    l1.set (a.mine.roads.l.getD k default).to.toNat (l1.getD (a.mine.roads.l.getD k default).to.toNat 0 - x.flows.l.getD k 0)
def roadUnfit (a : XAir) (s : XSetting) (x : XState) (i : Nat) : Option Int :=
  let r := a.mine.roads.l.getD i default
  let d := x.pres.l.getD r.fr.toNat 0 - x.pres.l.getD r.to.toNat 0
  if (r.closed = true ∧ x.flows.l.getD i 0 ≠ 0) ∨ (r.closed = false ∧ (d < (innerS a s i (x.flows.l.getD i 0)).low ∨ (innerS a s i (x.flows.l.getD i 0)).high < d)) then some 10 else none
def placeUnfit (a : XAir) (x : XState) (net : List Int) (i : Nat) : Option Int :=
  if ((a.mine.places.l.getD i default).surface = true ∧ x.pres.l.getD i 0 ≠ 0) ∨ ((a.mine.places.l.getD i default).surface = false ∧ net.getD i 0 ≠ 0) then some 10 else none
/-- P9.4 -/
def fitsS (a : XAir) (s : XSetting) (x : XState) : Int :=
  if airErr a ≠ 0 then airErr a else if fitB a s = false then 21
  else if x.pres.l.length ≠ a.mine.places.l.length ∨ x.flows.l.length ≠ a.mine.roads.l.length then 11
  else match x.pres.l.findSome? presBad with
    | some e => e
    | none => match x.flows.l.findSome? flowBad with
      | some e => e
      | none => match (List.range x.flows.l.length).findSome? (roadUnfit a s x) with
        | some e => e
        | none => ((List.range x.pres.l.length).findSome? (placeUnfit a x (netTo a x x.flows.l.length))).getD 0

theorem netTo_length (a : XAir) (x : XState) : ∀ k, (netTo a x k).length = x.pres.l.length
  | 0 => by simp [netTo]
  | k + 1 => by simp only [netTo, List.length_set]; exact netTo_length a x k

theorem set_bounds {l : List Int} {i : Nat} {v B : Int} (hl : ∀ (j : Nat) (y : Int), l[j]? = some y → -B ≤ y ∧ y ≤ B) (hv : -B ≤ v ∧ v ≤ B) : ∀ (j : Nat) (y : Int), (l.set i v)[j]? = some y → -B ≤ y ∧ y ≤ B := by
  intro j y hy
  rw [List.getElem?_set] at hy
  split at hy
  · split at hy
    · cases hy; exact hv
    · cases hy
  · exact hl j y hy

theorem netTo_bounds {a : XAir} {x : XState} (hf : ∀ (i : Nat) (q : Int), x.flows.l[i]? = some q → -1048576 ≤ q ∧ q ≤ 1048576) : ∀ k, k ≤ x.flows.l.length → ∀ (j : Nat) (y : Int), (netTo a x k)[j]? = some y → -(2097152 * (k : Int)) ≤ y ∧ y ≤ 2097152 * (k : Int)
  | 0, _, j, y, hy => by
    simp only [netTo, List.getElem?_replicate] at hy
    split at hy
    · cases hy; omega
    · cases hy
  | k + 1, hk, j, y, hy => by
    have ih := netTo_bounds (a := a) hf k (by omega)
    have hq := hf k _ (get_D 0 (by omega))
    have gd : ∀ (l : List Int) (B : Int) (i : Nat), 0 ≤ B → (∀ (j : Nat) (y : Int), l[j]? = some y → -B ≤ y ∧ y ≤ B) → -B ≤ l.getD i 0 ∧ l.getD i 0 ≤ B := by
      intro l B i hB h
      rcases Nat.lt_or_ge i l.length with h' | h'
      · exact h i _ (get_D 0 h')
      · rw [List.getD_eq_getElem?_getD, List.getElem?_eq_none h']; simp; omega
    have ih1 : ∀ (j : Nat) (y : Int), (netTo a x k)[j]? = some y → -(2097152 * (k : Int) + 1048576) ≤ y ∧ y ≤ 2097152 * (k : Int) + 1048576 := fun j y h => by have := ih j y h; omega
    have h0 := gd (netTo a x k) (2097152 * (k : Int)) (a.mine.roads.l.getD k default).fr.toNat (by omega) ih
    have s1 := set_bounds (i := (a.mine.roads.l.getD k default).fr.toNat) (v := (netTo a x k).getD (a.mine.roads.l.getD k default).fr.toNat 0 + x.flows.l.getD k 0) ih1 (by omega)
    have h1 := gd _ _ (a.mine.roads.l.getD k default).to.toNat (by omega) s1
    have s1' : ∀ (j : Nat) (y : Int), ((netTo a x k).set (a.mine.roads.l.getD k default).fr.toNat ((netTo a x k).getD (a.mine.roads.l.getD k default).fr.toNat 0 + x.flows.l.getD k 0))[j]? = some y → -(2097152 * (k : Int) + 2097152) ≤ y ∧ y ≤ 2097152 * (k : Int) + 2097152 := fun j y h => by have := s1 j y h; omega
    have s2 := set_bounds (i := (a.mine.roads.l.getD k default).to.toNat) (v := ((netTo a x k).set (a.mine.roads.l.getD k default).fr.toNat ((netTo a x k).getD (a.mine.roads.l.getD k default).fr.toNat 0 + x.flows.l.getD k 0)).getD (a.mine.roads.l.getD k default).to.toNat 0 - x.flows.l.getD k 0) s1' (by omega)
    have := s2 j y hy
    push_cast
    omega

theorem fitsS_at {a : XAir} {s : XSetting} {x : XState} (h0 : airErr a = 0) (h1 : fitB a s = true) (h2 : ¬ (x.pres.l.length ≠ a.mine.places.l.length ∨ x.flows.l.length ≠ a.mine.roads.l.length)) :
    fitsS a s x = match x.pres.l.findSome? presBad with
    | some e => e
    | none => match x.flows.l.findSome? flowBad with
      | some e => e
      | none => match (List.range x.flows.l.length).findSome? (roadUnfit a s x) with
        | some e => e
        | none => ((List.range x.pres.l.length).findSome? (placeUnfit a x (netTo a x x.flows.l.length))).getD 0 := by
  rw [fitsS, if_neg (by simp [h0]), if_neg (by simp [h1]), if_neg h2]

theorem ref09Fits_tri (a : XAir) (s : XSetting) (x : XState) (L : List Blk) (R : List Sl) (hm : AirR a R) (hs : SetR s R) (hx : StateR x R) :
    Tri Try.prog 28 [a.val, s.val, x.val].toArray L R (fun v L' R' => v = .int .i64 (fitsS a s x) ∧ L = L' ∧ R = R') := by
  have hmp := hm.places
  have hmr := hm.roads
  have hxp := hx.pres
  have hxf := hx.flows
  refine Tri_len Try.call28 hxp fun hpn => ?_
  refine Tri_len Try.call28 hxf fun hfn => ?_
  refine tri_enter 211 Try.call28 Try.func28 rfl rfl rfl ?_
  refine CJ_seq (CJ_region ?_)
  refine LJ_boxN rfl rfl ?_
  intro b3
  refine LJ_boxN rfl rfl ?_
  intro b4
  refine LJ_boxN rfl rfl ?_
  intro b5
  refine LJ_q (yv_assign (show _ = Value.int _ _ from rfl)) rfl ?_
  refine LJ_nil (seqK_normal (CJ_seq (CJ_seq (CJ_region ?_))))
  refine LJ_q (yv_loadN (row := [_, _, _, _]) tb rfl rfl rfl (by repeat (first | exact zi0 | apply zi1 | apply zi2)) (by rfl) (by rfl)) rfl ?_
  refine LJ_call rfl (ref09Check_tri a _ _ hm) rfl ?_
  rintro v L' R' ⟨rfl, rfl, rfl⟩
  refine LJ_q (yv_assign (show _ = Value.int _ _ from rfl)) rfl ?_
  refine LJ_nil (seqK_normal (CJ_seq (CJ_region ?_)))
  refine LJ_q (yv_move (show _ = Value.int _ _ from rfl)) rfl ?_
  refine LJ_q (yv_neq rfl rfl) rfl ?_
  refine LJ_nil (seqK_normal ?_)
  refine CJ_cond (show _ = Value.bool _ from rfl) (fun hc0 => ?_) (fun hc0 => ?_)
  ·
   try simp only [zb1, zb2, zb3, zb4, zb5, zb6, zb7, zb8] at hc0
   refine CJ_seq (CJ_region ?_)
   refine LJ_q (yv_move (show _ = Value.int _ _ from rfl)) rfl ?_
   refine LJ_q (yv_assign (show _ = Value.int _ _ from rfl)) rfl ?_
   refine LJ_nil (seqK_normal (CJ_ret (seqK_ret ?_)))
   refine retK_ret (L' := L) (R' := R) (res1 rfl (rv_tmp (show _ = Value.int _ _ from rfl))) ?hp ?hL ?hR
   case hp => exact ⟨by rw [fitsS, if_pos hc0], rfl, rfl⟩
   case hL => exact (by repeat (first | exact zs0 _ | exact zs1 _ | apply zs2 | apply zs3 | apply zs4 | apply zs5))
   case hR => exact allR_self _
  ·
   try simp only [zb1, zb2, zb3, zb4, zb5, zb6, zb7, zb8] at hc0
   simp only [Decidable.not_not] at hc0
   have hrf : rightB a s = fitB a s := by simp [rightB, hc0]
   refine CJ_skip (seqK_normal (CJ_seq (CJ_seq (CJ_region ?_))))
   refine LJ_q (yv_loadN (row := [_, _, _, _]) tb rfl rfl rfl (by repeat (first | exact zi0 | apply zi1 | apply zi2)) (by rfl) (by rfl)) rfl ?_
   refine LJ_q (yv_loadN (row := [_, _]) tb rfl rfl rfl (by repeat (first | exact zi0 | apply zi1 | apply zi2)) (by rfl) (by rfl)) rfl ?_
   refine LJ_call rfl (ref09Right_tri a s _ _ hm hs) rfl ?_
   rintro v L' R' ⟨rfl, rfl, rfl⟩
   refine LJ_q (yv_not rfl) rfl ?_
   refine LJ_nil (seqK_normal ?_)
   refine CJ_cond (show _ = Value.bool _ from rfl) (fun hc1 => ?_) (fun hc1 => ?_)
   ·
    try simp only [zb1, zb2, zb3, zb4, zb5, zb6, zb7, zb8] at hc1
    refine CJ_seq (CJ_region ?_)
    refine LJ_q (yv_assign (show _ = Value.int _ _ from rfl)) rfl ?_
    refine LJ_nil (seqK_normal (CJ_ret (seqK_ret ?_)))
    refine retK_ret (L' := L) (R' := R) (res1 rfl (rv_tmp (show _ = Value.int _ _ from rfl))) ?hp ?hL ?hR
    case hp => exact ⟨by rw [fitsS, if_neg (by simp [hc0]), if_pos (by rw [← hrf]; exact hc1)], rfl, rfl⟩
    case hL => exact (by repeat (first | exact zs0 _ | exact zs1 _ | apply zs2 | apply zs3 | apply zs4 | apply zs5))
    case hR => exact allR_self _
   ·
    try simp only [zb1, zb2, zb3, zb4, zb5, zb6, zb7, zb8] at hc1
    have hfb : fitB a s = true := by rw [← hrf]; simpa using hc1
    obtain ⟨ha, hf⟩ := right_of (by simpa using hc1)
    have hap := ha.mine.places
    have har := ha.mine.roads
    refine CJ_skip (seqK_normal (CJ_seq (CJ_seq (CJ_region ?_))))
    refine LJ_q (yv_field tb rfl rfl rfl) rfl ?_
    refine LJ_q (yv_load1 tb rfl rfl rfl (by repeat (first | exact zi0 | apply zi1 | apply zi2)) (by rfl)) rfl ?_
    refine LJ_q (yv_len tb rfl rfl rfl) rfl ?_
    refine LJ_q (yv_field tb rfl rfl rfl) rfl ?_
    refine LJ_q (yv_field tb rfl rfl rfl) rfl ?_
    refine LJ_q (yv_load1 tb rfl rfl rfl (by repeat (first | exact zi0 | apply zi1 | apply zi2)) (by rfl)) rfl ?_
    refine LJ_q (yv_len tb rfl rfl rfl) rfl ?_
    refine LJ_q (yv_neq rfl rfl) rfl ?_
    refine LJ_q (yv_move (show _ = Value.bool _ from rfl)) rfl ?_
    apply LJ_or (G := [_, _, _, _, _, _, _, _]) (j := 8) (cj := 33) rfl rfl (by rfl) rfl (show _ = Value.bool _ from rfl) rfl
    ·
     intro hg9
     try simp only [zb1, zb2, zb3, zb4, zb5, zb6, zb7, zb8] at hg9
     refine LJ_q (yv_field tb rfl rfl rfl) rfl ?_
     refine LJ_q (yv_load1 tb rfl rfl rfl (by repeat (first | exact zi0 | apply zi1 | apply zi2)) (by rfl)) rfl ?_
     refine LJ_q (yv_len tb rfl rfl rfl) rfl ?_
     refine LJ_q (yv_field tb rfl rfl rfl) rfl ?_
     refine LJ_q (yv_field tb rfl rfl rfl) rfl ?_
     refine LJ_q (yv_load1 tb rfl rfl rfl (by repeat (first | exact zi0 | apply zi1 | apply zi2)) (by rfl)) rfl ?_
     refine LJ_q (yv_len tb rfl rfl rfl) rfl ?_
     refine LJ_q (yv_neq rfl rfl) rfl ?_
     exact LJ_merge_end (show _ = Value.bool _ from rfl) (by repeat (first | exact Off.refl | apply Off.upd rfl | apply Off.havoc rfl | apply Off.updL rfl | apply Off.left rfl)) (by repeat (first | exact zs0 _ | exact zs1 _ | apply zs2 | apply zs3 | apply zs4 | apply zs5)) (by first | exact allR_self _ | exact fun r h => inR_self (by simp [h]))
    intro junk9
    refine LJ_nil (seqK_normal ?_)
    refine CJ_cond (show _ = Value.bool _ from rfl) (fun hc2 => ?_) (fun hc2 => ?_)
    ·
     try simp only [zb1, zb2, zb3, zb4, zb5, zb6, zb7, zb8] at hc2
     refine CJ_seq (CJ_region ?_)
     refine LJ_q (yv_assign (show _ = Value.int _ _ from rfl)) rfl ?_
     refine LJ_nil (seqK_normal (CJ_ret (seqK_ret ?_)))
     refine retK_ret (L' := L) (R' := R) (res1 rfl (rv_tmp (show _ = Value.int _ _ from rfl))) ?hp ?hL ?hR
     case hp => exact ⟨by rw [fitsS, if_neg (by simp [hc0]), if_neg (by simp [hfb]), if_pos (by omega)], rfl, rfl⟩
     case hL => exact (by repeat (first | exact zs0 _ | exact zs1 _ | apply zs2 | apply zs3 | apply zs4 | apply zs5))
     case hR => exact allR_self _
    ·
     try simp only [zb1, zb2, zb3, zb4, zb5, zb6, zb7, zb8] at hc2
     have hfa := fitsS_at (s := s) hc0 hfb (x := x) (by omega)
     refine CJ_skip (seqK_normal (CJ_seq (CJ_seq (CJ_region ?_))))
     refine LJ_q (yv_assign (show _ = Value.int _ _ from rfl)) rfl ?_
     refine LJ_nil (seqK_normal (CJ_block ?_))
     refine CJ_forget [(3, Value.pointer _), (4, Value.pointer _), (5, Value.pointer _), (8, Value.int _ _)] (by repeat' (first | exact trivial | refine And.intro rfl ?_)) fun tq0 => ?_
     refine CJ_loopS [6, 8, 43, 44, 45, 46, 47, 48, 49, 50, 51, 52, 53, 54, 55, 56, 57, 58, 59, 60, 61, 62, 63] (fun g : FS (presBad) (x.pres.l) => [(8, .int .i64 ((g.1 : Nat) : Int))]) (fun g => (x.pres.l).length - g.1) ⟨0, FS_zero _ _⟩ (by repeat' (first | exact trivial | refine And.intro rfl ?_)) ?_
     rintro ⟨k0, hk0, hp0⟩ junk
     try dsimp only
     refine CJ_seq (CJ_seq (CJ_region ?_))
     refine LJ_q (yv_move (show _ = Value.int _ _ from rfl)) rfl ?_
     refine LJ_q (yv_field tb rfl rfl rfl) rfl ?_
     refine LJ_q (yv_load1 tb rfl rfl rfl (by repeat (first | exact zi0 | apply zi1 | apply zi2)) (by rfl)) rfl ?_
     refine LJ_q (yv_len tb rfl rfl rfl) rfl ?_
     refine LJ_q (yv_lss rfl rfl) rfl ?_
     refine LJ_nil (seqK_normal ?_)
     refine CJ_cond (show _ = Value.bool _ from rfl) (fun hc3 => ?_) (fun hc3 => ?_)
     ·
      try simp only [zb1, zb2, zb3, zb4, zb5, zb6, zb7, zb8] at hc3
      obtain ⟨p, hp⟩ := get_some (l := x.pres.l) (k := k0) (by omega)
      refine CJ_skip (seqK_normal (CJ_seq (CJ_block (CJ_seq (CJ_region ?_)))))
      refine LJ_q (yv_field tb rfl rfl rfl) rfl ?_
      refine LJ_q (yv_load1 tb rfl rfl rfl (by repeat (first | exact zi0 | apply zi1 | apply zi2)) (by rfl)) rfl ?_
      refine LJ_q (yv_move (show _ = Value.int _ _ from rfl)) rfl ?_
      refine LJ_q (by first | exact yv_index_ro tb rfl rfl rfl rfl (by first | assumption | exact zr (by simp)) rfl (by omega) | exact yv_index tb rfl rfl rfl rfl rfl (by omega)) rfl ?_
      refine LJ_q (by first | exact yv_load1_ro tb rfl rfl rfl (by first | assumption | exact zr (by simp)) (by assumption) (by rfl) | exact yv_load1 tb rfl rfl rfl (by repeat (first | exact zi0 | apply zi1 | apply zi2)) (by rfl) | exact yv_load1 tb rfl rfl rfl (by repeat (first | exact zi0 | apply zi1 | apply zi2)) (icell_get (by assumption)) | exact yv_load1 tb rfl rfl rfl (by repeat (first | exact zi0 | apply zi1 | apply zi2)) (rcell_get (fun _ => rfl) (by assumption) rfl)) rfl ?_
      refine LJ_q (yv_lss rfl rfl) rfl ?_
      refine LJ_q (yv_move (show _ = Value.bool _ from rfl)) rfl ?_
      apply LJ_or (G := [_, _, _, _, _, _]) (j := 6) (cj := 56) rfl rfl (by rfl) rfl (show _ = Value.bool _ from rfl) rfl
      ·
       intro hg7
       try simp only [zb1, zb2, zb3, zb4, zb5, zb6, zb7, zb8] at hg7
       refine LJ_q (yv_field tb rfl rfl rfl) rfl ?_
       refine LJ_q (yv_load1 tb rfl rfl rfl (by repeat (first | exact zi0 | apply zi1 | apply zi2)) (by rfl)) rfl ?_
       refine LJ_q (yv_move (show _ = Value.int _ _ from rfl)) rfl ?_
       refine LJ_q (by first | exact yv_index_ro tb rfl rfl rfl rfl (by first | assumption | exact zr (by simp)) rfl (by omega) | exact yv_index tb rfl rfl rfl rfl rfl (by omega)) rfl ?_
       refine LJ_q (by first | exact yv_load1_ro tb rfl rfl rfl (by first | assumption | exact zr (by simp)) (by assumption) (by rfl) | exact yv_load1 tb rfl rfl rfl (by repeat (first | exact zi0 | apply zi1 | apply zi2)) (by rfl) | exact yv_load1 tb rfl rfl rfl (by repeat (first | exact zi0 | apply zi1 | apply zi2)) (icell_get (by assumption)) | exact yv_load1 tb rfl rfl rfl (by repeat (first | exact zi0 | apply zi1 | apply zi2)) (rcell_get (fun _ => rfl) (by assumption) rfl)) rfl ?_
       refine LJ_q (yv_gtr rfl rfl) rfl ?_
       exact LJ_merge_end (show _ = Value.bool _ from rfl) (by repeat (first | exact Off.refl | apply Off.upd rfl | apply Off.havoc rfl | apply Off.updL rfl | apply Off.left rfl)) (by repeat (first | exact zs0 _ | exact zs1 _ | apply zs2 | apply zs3 | apply zs4 | apply zs5)) (by first | exact allR_self _ | exact fun r h => inR_self (by simp [h]))
      intro junk7
      refine LJ_nil (seqK_normal ?_)
      refine CJ_cond (show _ = Value.bool _ from rfl) (fun hc4 => ?_) (fun hc4 => ?_)
      ·
       try simp only [zb1, zb2, zb3, zb4, zb5, zb6, zb7, zb8] at hc4
       refine CJ_seq (CJ_region ?_)
       refine LJ_q (yv_assign (show _ = Value.int _ _ from rfl)) rfl ?_
       refine LJ_nil (seqK_normal (CJ_ret (blockK_ret (seqK_ret (loopK_ret (blockK_ret (seqK_ret ?_)))))))
       refine retK_ret (L' := L) (R' := R) (res1 rfl (rv_tmp (show _ = Value.int _ _ from rfl))) ?hp ?hL ?hR
       case hp => exact ⟨by rw [hfa, FS_some hp0 hp (if_pos (by omega))], rfl, rfl⟩
       case hL => exact (by repeat (first | exact zs0 _ | exact zs1 _ | apply zs2 | apply zs3 | apply zs4 | apply zs5))
       case hR => exact allR_self _
      ·
       try simp only [zb1, zb2, zb3, zb4, zb5, zb6, zb7, zb8] at hc4
       refine CJ_skip (blockK_normal (seqK_normal (CJ_region ?_)))
       refine LJ_q (yv_move (show _ = Value.int _ _ from rfl)) rfl ?_
       refine LJ_q (by first | exact yv_add64 rfl rfl (by omega) (by omega) | exact yv_addU rfl rfl (by omega) (by omega) | exact yv_add rfl rfl) rfl ?_
       refine LJ_q (yv_assign (show _ = Value.int _ _ from rfl)) rfl ?_
       refine LJ_nil ?_
       exact loopK_mk ⟨k0 + 1, FS_next hp0 hp (if_neg (by omega))⟩ (by repeat (first | exact Off.refl | apply Off.upd rfl | apply Off.havoc rfl | apply Off.updL rfl | apply Off.left rfl)) (by repeat' (first | exact trivial | refine And.intro rfl ?_)) (by repeat (first | exact zs0 _ | exact zs1 _ | apply zs2 | apply zs3 | apply zs4 | apply zs5)) (allR_self _) (by dsimp only; omega)
     ·
      try simp only [zb1, zb2, zb3, zb4, zb5, zb6, zb7, zb8] at hc3
      have hn0 := FS_none hp0 (by omega)
      refine CJ_exit (seqK_exit (loopK_exit (blockK_exit (seqK_normal (CJ_seq (CJ_seq (CJ_region ?_)))))))
      refine LJ_q (yv_assign (show _ = Value.int _ _ from rfl)) rfl ?_
      refine LJ_nil (seqK_normal (CJ_block ?_))
      refine CJ_forget [(3, Value.pointer _), (4, Value.pointer _), (5, Value.pointer _), (9, Value.int _ _)] (by repeat' (first | exact trivial | refine And.intro rfl ?_)) fun tq1 => ?_
      refine CJ_loopS [6, 9, 64, 65, 66, 67, 68, 69, 70, 71, 72, 73, 74, 75, 76, 77, 78, 79, 80, 81, 82, 83, 84] (fun g : FS (flowBad) (x.flows.l) => [(9, .int .i64 ((g.1 : Nat) : Int))]) (fun g => (x.flows.l).length - g.1) ⟨0, FS_zero _ _⟩ (by repeat' (first | exact trivial | refine And.intro rfl ?_)) ?_
      rintro ⟨k1, hk1, hp1⟩ junk
      try dsimp only
      refine CJ_seq (CJ_seq (CJ_region ?_))
      refine LJ_q (yv_move (show _ = Value.int _ _ from rfl)) rfl ?_
      refine LJ_q (yv_field tb rfl rfl rfl) rfl ?_
      refine LJ_q (yv_load1 tb rfl rfl rfl (by repeat (first | exact zi0 | apply zi1 | apply zi2)) (by rfl)) rfl ?_
      refine LJ_q (yv_len tb rfl rfl rfl) rfl ?_
      refine LJ_q (yv_lss rfl rfl) rfl ?_
      refine LJ_nil (seqK_normal ?_)
      refine CJ_cond (show _ = Value.bool _ from rfl) (fun hc5 => ?_) (fun hc5 => ?_)
      ·
       try simp only [zb1, zb2, zb3, zb4, zb5, zb6, zb7, zb8] at hc5
       obtain ⟨q, hq⟩ := get_some (l := x.flows.l) (k := k1) (by omega)
       refine CJ_skip (seqK_normal (CJ_seq (CJ_block (CJ_seq (CJ_region ?_)))))
       refine LJ_q (yv_field tb rfl rfl rfl) rfl ?_
       refine LJ_q (yv_load1 tb rfl rfl rfl (by repeat (first | exact zi0 | apply zi1 | apply zi2)) (by rfl)) rfl ?_
       refine LJ_q (yv_move (show _ = Value.int _ _ from rfl)) rfl ?_
       refine LJ_q (by first | exact yv_index_ro tb rfl rfl rfl rfl (by first | assumption | exact zr (by simp)) rfl (by omega) | exact yv_index tb rfl rfl rfl rfl rfl (by omega)) rfl ?_
       refine LJ_q (by first | exact yv_load1_ro tb rfl rfl rfl (by first | assumption | exact zr (by simp)) (by assumption) (by rfl) | exact yv_load1 tb rfl rfl rfl (by repeat (first | exact zi0 | apply zi1 | apply zi2)) (by rfl) | exact yv_load1 tb rfl rfl rfl (by repeat (first | exact zi0 | apply zi1 | apply zi2)) (icell_get (by assumption)) | exact yv_load1 tb rfl rfl rfl (by repeat (first | exact zi0 | apply zi1 | apply zi2)) (rcell_get (fun _ => rfl) (by assumption) rfl)) rfl ?_
       refine LJ_q (yv_lss rfl rfl) rfl ?_
       refine LJ_q (yv_move (show _ = Value.bool _ from rfl)) rfl ?_
       apply LJ_or (G := [_, _, _, _, _, _]) (j := 6) (cj := 77) rfl rfl (by rfl) rfl (show _ = Value.bool _ from rfl) rfl
       ·
        intro hg7
        try simp only [zb1, zb2, zb3, zb4, zb5, zb6, zb7, zb8] at hg7
        refine LJ_q (yv_field tb rfl rfl rfl) rfl ?_
        refine LJ_q (yv_load1 tb rfl rfl rfl (by repeat (first | exact zi0 | apply zi1 | apply zi2)) (by rfl)) rfl ?_
        refine LJ_q (yv_move (show _ = Value.int _ _ from rfl)) rfl ?_
        refine LJ_q (by first | exact yv_index_ro tb rfl rfl rfl rfl (by first | assumption | exact zr (by simp)) rfl (by omega) | exact yv_index tb rfl rfl rfl rfl rfl (by omega)) rfl ?_
        refine LJ_q (by first | exact yv_load1_ro tb rfl rfl rfl (by first | assumption | exact zr (by simp)) (by assumption) (by rfl) | exact yv_load1 tb rfl rfl rfl (by repeat (first | exact zi0 | apply zi1 | apply zi2)) (by rfl) | exact yv_load1 tb rfl rfl rfl (by repeat (first | exact zi0 | apply zi1 | apply zi2)) (icell_get (by assumption)) | exact yv_load1 tb rfl rfl rfl (by repeat (first | exact zi0 | apply zi1 | apply zi2)) (rcell_get (fun _ => rfl) (by assumption) rfl)) rfl ?_
        refine LJ_q (yv_gtr rfl rfl) rfl ?_
        exact LJ_merge_end (show _ = Value.bool _ from rfl) (by repeat (first | exact Off.refl | apply Off.upd rfl | apply Off.havoc rfl | apply Off.updL rfl | apply Off.left rfl)) (by repeat (first | exact zs0 _ | exact zs1 _ | apply zs2 | apply zs3 | apply zs4 | apply zs5)) (by first | exact allR_self _ | exact fun r h => inR_self (by simp [h]))
       intro junk7
       refine LJ_nil (seqK_normal ?_)
       refine CJ_cond (show _ = Value.bool _ from rfl) (fun hc6 => ?_) (fun hc6 => ?_)
       ·
        try simp only [zb1, zb2, zb3, zb4, zb5, zb6, zb7, zb8] at hc6
        refine CJ_seq (CJ_region ?_)
        refine LJ_q (yv_assign (show _ = Value.int _ _ from rfl)) rfl ?_
        refine LJ_nil (seqK_normal (CJ_ret (blockK_ret (seqK_ret (loopK_ret (blockK_ret (seqK_ret ?_)))))))
        refine retK_ret (L' := L) (R' := R) (res1 rfl (rv_tmp (show _ = Value.int _ _ from rfl))) ?hp ?hL ?hR
        case hp => exact ⟨by rw [hfa, hn0, FS_some hp1 hq (if_pos (by omega))], rfl, rfl⟩
        case hL => exact (by repeat (first | exact zs0 _ | exact zs1 _ | apply zs2 | apply zs3 | apply zs4 | apply zs5))
        case hR => exact allR_self _
       ·
        try simp only [zb1, zb2, zb3, zb4, zb5, zb6, zb7, zb8] at hc6
        refine CJ_skip (blockK_normal (seqK_normal (CJ_region ?_)))
        refine LJ_q (yv_move (show _ = Value.int _ _ from rfl)) rfl ?_
        refine LJ_q (by first | exact yv_add64 rfl rfl (by omega) (by omega) | exact yv_addU rfl rfl (by omega) (by omega) | exact yv_add rfl rfl) rfl ?_
        refine LJ_q (yv_assign (show _ = Value.int _ _ from rfl)) rfl ?_
        refine LJ_nil ?_
        exact loopK_mk ⟨k1 + 1, FS_next hp1 hq (if_neg (by omega))⟩ (by repeat (first | exact Off.refl | apply Off.upd rfl | apply Off.havoc rfl | apply Off.updL rfl | apply Off.left rfl)) (by repeat' (first | exact trivial | refine And.intro rfl ?_)) (by repeat (first | exact zs0 _ | exact zs1 _ | apply zs2 | apply zs3 | apply zs4 | apply zs5)) (allR_self _) (by dsimp only; omega)
      ·
       try simp only [zb1, zb2, zb3, zb4, zb5, zb6, zb7, zb8] at hc5
       have hn1 := FS_none hp1 (by omega)
       rw [hn0, hn1] at hfa
       dsimp only at hfa
       have hpb : ∀ (i : Nat) (p : Int), x.pres.l[i]? = some p → -70368744177664 ≤ p ∧ p ≤ 70368744177664 := fun i p hp => by
         have := List.findSome?_eq_none_iff.1 hn0 p (List.mem_of_getElem? hp)
         unfold presBad at this
         split at this
         · cases this
         · omega
       have hqb : ∀ (i : Nat) (q : Int), x.flows.l[i]? = some q → -1048576 ≤ q ∧ q ≤ 1048576 := fun i q hq => by
         have := List.findSome?_eq_none_iff.1 hn1 q (List.mem_of_getElem? hq)
         unfold flowBad at this
         split at this
         · cases this
         · omega
       refine CJ_exit (seqK_exit (loopK_exit (blockK_exit (seqK_normal (CJ_seq (CJ_region ?_))))))
       refine LJ_q (yv_field tb rfl rfl rfl) rfl ?_
       refine LJ_q (yv_load1 tb rfl rfl rfl (by repeat (first | exact zi0 | apply zi1 | apply zi2)) (by rfl)) rfl ?_
       refine LJ_q (yv_len tb rfl rfl rfl) rfl ?_
       refine LJ_g (gives_makeSlice tb rfl rfl rfl rfl rfl rfl rfl (by omega) (by omega)) rfl ?_
       rintro v L' R' ⟨b88, rfl, rfl, hR88⟩
       replace hR88 := hR88.symm; subst hR88
       refine LJ_q (yv_assign (show _ = Value.slice _ _ _ from rfl)) rfl ?_
       refine LJ_nil (seqK_normal (CJ_seq (CJ_seq ?_)))
       rw [zrep_int]
       refine CJ_region ?_
       refine LJ_q (yv_assign (show _ = Value.int _ _ from rfl)) rfl ?_
       refine LJ_nil (seqK_normal (CJ_block ?_))
       refine CJ_forget [(3, Value.pointer _), (4, Value.pointer _), (5, Value.pointer _), (10, Value.slice _ _ _), (11, Value.int _ _)] (by repeat' (first | exact trivial | refine And.intro rfl ?_)) fun tq2 => ?_
       refine CJ_loop [6, 11, 12, 13, 14, 89, 90, 91, 92, 93, 94, 95, 96, 97, 98, 99, 100, 101, 102, 103, 104, 105, 106, 107, 108, 109, 110, 111, 112, 113, 114, 115, 116, 117, 118, 119, 120, 121, 122, 123, 124, 125, 126, 127, 128, 129, 130, 131, 132, 133, 134, 135, 136, 137, 138, 139, 140, 141, 142, 143, 144, 145, 146, 147, 148, 149, 150, 151, 152, 153, 154, 155, 156, 157, 158, 159, 160, 161, 162, 163, 164, 165, 166, 167, 168, 169, 170, 171, 172] ((⟨fun g => [(11, .int .i64 ((g.1 : Nat) : Int))], fun g => ⟨b88, ints (netTo a x g.1), 3⟩ :: ⟨b5, x.cells, 37⟩ :: ⟨b4, s.cells, 33⟩ :: ⟨b3, a.cells, 30⟩ :: L, fun _ => R, fun g => x.flows.l.length - g.1⟩ : Head (FSR (roadUnfit a s x) x.flows.l.length))) (⟨0, FSR_zero _ _⟩) (by repeat' (first | exact trivial | refine And.intro rfl ?_)) (by repeat (first | exact zs0 _ | exact zs1 _ | apply zs2 | apply zs3 | apply zs4 | apply zs5)) (allR_self _) ?_
       rintro ⟨k2, hk2, hp2⟩ junk
       try dsimp only
       refine CJ_seq (CJ_seq (CJ_region ?_))
       refine LJ_q (yv_move (show _ = Value.int _ _ from rfl)) rfl ?_
       refine LJ_q (yv_field tb rfl rfl rfl) rfl ?_
       refine LJ_q (yv_load1 tb rfl rfl rfl (by repeat (first | exact zi0 | apply zi1 | apply zi2)) (by rfl)) rfl ?_
       refine LJ_q (yv_len tb rfl rfl rfl) rfl ?_
       refine LJ_q (yv_lss rfl rfl) rfl ?_
       refine LJ_nil (seqK_normal ?_)
       refine CJ_cond (show _ = Value.bool _ from rfl) (fun hc7 => ?_) (fun hc7 => ?_)
       ·
        try simp only [zb1, zb2, zb3, zb4, zb5, zb6, zb7, zb8] at hc7
        have hro := get_D (l := a.mine.roads.l) (k := k2) default (by omega)
        have hfl := get_D (l := x.flows.l) (k := k2) 0 (by omega)
        have hrk := ha.mine.road _ _ hro
        have hr1 := hrk.fr
        have hr2 := hrk.to
        have hpf := get_D (l := x.pres.l) (k := (a.mine.roads.l.getD k2 default).fr.toNat) 0 (by omega)
        have hpt := get_D (l := x.pres.l) (k := (a.mine.roads.l.getD k2 default).to.toNat) 0 (by omega)
        have hpfb := hpb _ _ hpf
        have hptb := hpb _ _ hpt
        have hqk := hqb _ _ hfl
        have hnl := netTo_length a x k2
        have hg1 := get_D (l := netTo a x k2) (k := (a.mine.roads.l.getD k2 default).fr.toNat) 0 (by omega)
        have hg1b := netTo_bounds hqb k2 (by omega) _ _ hg1
        refine CJ_skip (seqK_normal (CJ_seq (CJ_block (CJ_seq (CJ_region ?_)))))
        refine LJ_q (yv_field tb rfl rfl rfl) rfl ?_
        refine LJ_q (yv_field tb rfl rfl rfl) rfl ?_
        refine LJ_q (yv_load1 tb rfl rfl rfl (by repeat (first | exact zi0 | apply zi1 | apply zi2)) (by rfl)) rfl ?_
        refine LJ_q (yv_move (show _ = Value.int _ _ from rfl)) rfl ?_
        refine LJ_q (by first | exact yv_index_ro tb rfl rfl rfl rfl (by first | assumption | exact zr (by simp)) rfl (by omega) | exact yv_index tb rfl rfl rfl rfl rfl (by omega)) rfl ?_
        refine LJ_q (by first | exact yv_loadN_ro (row := [_, _, _, _, _, _, _, _, _, _]) tb rfl rfl rfl (by first | assumption | exact zr (by simp)) (by assumption) (by rfl) (by rfl) | exact yv_loadN (row := [_, _, _, _, _, _, _, _, _, _]) tb rfl rfl rfl (by repeat (first | exact zi0 | apply zi1 | apply zi2)) (by rfl) (by rfl)) rfl ?_
        refine LJ_alloc tb rfl rfl ?_
        intro b12
        refine LJ_storeW tb rfl rfl rfl rfl (by repeat (first | apply zu0 | apply zu1 | apply zu2)) (by rfl) (by rfl) ?_
        refine LJ_nil (seqK_normal (CJ_seq (CJ_seq (CJ_region ?_))))
        refine LJ_q (yv_field tb rfl rfl rfl) rfl ?_
        refine LJ_q (yv_load1 tb rfl rfl rfl (by repeat (first | exact zi0 | apply zi1 | apply zi2)) (by rfl)) rfl ?_
        refine LJ_q (yv_move (show _ = Value.bool _ from rfl)) rfl ?_
        apply LJ_and (G := [_, _, _, _, _, _]) (j := 2) (cj := 104) rfl rfl (by rfl) rfl (show _ = Value.bool _ from rfl) rfl
        ·
         intro hg3
         try simp only [zb1, zb2, zb3, zb4, zb5, zb6, zb7, zb8] at hg3
         refine LJ_q (yv_field tb rfl rfl rfl) rfl ?_
         refine LJ_q (yv_load1 tb rfl rfl rfl (by repeat (first | exact zi0 | apply zi1 | apply zi2)) (by rfl)) rfl ?_
         refine LJ_q (yv_move (show _ = Value.int _ _ from rfl)) rfl ?_
         refine LJ_q (by first | exact yv_index_ro tb rfl rfl rfl rfl (by first | assumption | exact zr (by simp)) rfl (by omega) | exact yv_index tb rfl rfl rfl rfl rfl (by omega)) rfl ?_
         refine LJ_q (by first | exact yv_load1_ro tb rfl rfl rfl (by first | assumption | exact zr (by simp)) (by assumption) (by rfl) | exact yv_load1 tb rfl rfl rfl (by repeat (first | exact zi0 | apply zi1 | apply zi2)) (by rfl) | exact yv_load1 tb rfl rfl rfl (by repeat (first | exact zi0 | apply zi1 | apply zi2)) (icell_get (by assumption)) | exact yv_load1 tb rfl rfl rfl (by repeat (first | exact zi0 | apply zi1 | apply zi2)) (rcell_get (fun _ => rfl) (by assumption) rfl)) rfl ?_
         refine LJ_q (yv_neq rfl rfl) rfl ?_
         exact LJ_merge_end (show _ = Value.bool _ from rfl) (by repeat (first | exact Off.refl | apply Off.upd rfl | apply Off.havoc rfl | apply Off.updL rfl | apply Off.left rfl)) (by repeat (first | exact zs0 _ | exact zs1 _ | apply zs2 | apply zs3 | apply zs4 | apply zs5)) (by first | exact allR_self _ | exact fun r h => inR_self (by simp [h]))
        intro junk3
        refine LJ_nil (seqK_normal ?_)
        refine CJ_cond (show _ = Value.bool _ from rfl) (fun hc8 => ?_) (fun hc8 => ?_)
        ·
         try simp only [zb1, zb2, zb3, zb4, zb5, zb6, zb7, zb8] at hc8
         refine CJ_seq (CJ_region ?_)
         refine LJ_q (yv_assign (show _ = Value.int _ _ from rfl)) rfl ?_
         refine LJ_nil (seqK_normal (CJ_ret (seqK_ret (blockK_ret (seqK_ret (loopK_ret (blockK_ret (seqK_ret ?_))))))))
         refine retK_ret (L' := L) (R' := R) (res1 rfl (rv_tmp (show _ = Value.int _ _ from rfl))) ?hp ?hL ?hR
         case hp => exact ⟨by rw [hfa, FSR_some hp2 (by omega) (if_pos (.inl hc8))], rfl, rfl⟩
         case hL => exact (by repeat (first | exact zs0 _ | exact zs1 _ | apply zs2 | apply zs3 | apply zs4 | apply zs5))
         case hR => exact allR_self _
        ·
         try simp only [zb1, zb2, zb3, zb4, zb5, zb6, zb7, zb8] at hc8
         refine CJ_skip (seqK_normal (CJ_seq ?_))
         refine CJ_drawn tb [0, 1, 2, 3, 4, 5, 6, 7, 8, 9, 10, 11, 12, 13] _ mixed (by kernel_rfl) (List.Sublist.refl _) ?_
         refine DJ_q (yv_field tb rfl rfl rfl) rfl rfl rfl ?_
         refine DJ_q (yv_load1 tb rfl rfl rfl (by repeat (first | exact zi0 | apply zi1 | apply zi2)) (by rfl)) rfl rfl rfl ?_
         refine DJ_q (yv_field tb rfl rfl rfl) rfl rfl rfl ?_
         refine DJ_q (yv_load1 tb rfl rfl rfl (by repeat (first | exact zi0 | apply zi1 | apply zi2)) (by rfl)) rfl rfl rfl ?_
         refine DJ_q (by first | exact yv_index_ro tb rfl rfl rfl rfl (by first | assumption | exact zr (by simp)) (i := (a.mine.roads.l.getD k2 default).fr.toNat) (by first | rfl | omega | (simp; omega)) (by omega) | exact yv_index tb rfl rfl rfl rfl (i := (a.mine.roads.l.getD k2 default).fr.toNat) (by first | rfl | omega | (simp; omega)) (by omega)) rfl rfl rfl ?_
         refine DJ_q (by first | exact yv_load1_ro tb rfl rfl rfl (by first | assumption | exact zr (by simp)) (by assumption) (by rfl) | exact yv_load1 tb rfl rfl rfl (by repeat (first | exact zi0 | apply zi1 | apply zi2)) (by rfl) | exact yv_load1 tb rfl rfl rfl (by repeat (first | exact zi0 | apply zi1 | apply zi2)) (icell_get (by assumption)) | exact yv_load1 tb rfl rfl rfl (by repeat (first | exact zi0 | apply zi1 | apply zi2)) (rcell_get (fun _ => rfl) (by assumption) rfl)) rfl rfl rfl ?_
         refine DJ_q (yv_field tb rfl rfl rfl) rfl rfl rfl ?_
         refine DJ_q (yv_load1 tb rfl rfl rfl (by repeat (first | exact zi0 | apply zi1 | apply zi2)) (by rfl)) rfl rfl rfl ?_
         refine DJ_q (yv_field tb rfl rfl rfl) rfl rfl rfl ?_
         refine DJ_q (yv_load1 tb rfl rfl rfl (by repeat (first | exact zi0 | apply zi1 | apply zi2)) (by rfl)) rfl rfl rfl ?_
         refine DJ_q (by first | exact yv_index_ro tb rfl rfl rfl rfl (by first | assumption | exact zr (by simp)) (i := (a.mine.roads.l.getD k2 default).to.toNat) (by first | rfl | omega | (simp; omega)) (by omega) | exact yv_index tb rfl rfl rfl rfl (i := (a.mine.roads.l.getD k2 default).to.toNat) (by first | rfl | omega | (simp; omega)) (by omega)) rfl rfl rfl ?_
         refine DJ_q (by first | exact yv_load1_ro tb rfl rfl rfl (by first | assumption | exact zr (by simp)) (by assumption) (by rfl) | exact yv_load1 tb rfl rfl rfl (by repeat (first | exact zi0 | apply zi1 | apply zi2)) (by rfl) | exact yv_load1 tb rfl rfl rfl (by repeat (first | exact zi0 | apply zi1 | apply zi2)) (icell_get (by assumption)) | exact yv_load1 tb rfl rfl rfl (by repeat (first | exact zi0 | apply zi1 | apply zi2)) (rcell_get (fun _ => rfl) (by assumption) rfl)) rfl rfl rfl ?_
         refine DJ_q (by first | exact yv_sub64 rfl rfl (by omega) (by omega) | exact yv_sub rfl rfl) rfl rfl rfl ?_
         refine DJ_q (yv_assign (show _ = Value.int _ _ from rfl)) rfl rfl rfl ?_
         refine DJ_nil (seqK_normal (CJ_seq (CJ_seq ?_)))
         refine CJ_drawn tb [0, 1, 2, 3, 4, 5, 6, 7, 8, 9, 10] _ mixed (by kernel_rfl) (List.Sublist.refl _) ?_
         refine DJ_q (yv_loadN (row := [_, _, _, _]) tb rfl rfl rfl (by repeat (first | exact zi0 | apply zi1 | apply zi2)) (by rfl) (by rfl)) rfl rfl rfl ?_
         refine DJ_q (yv_loadN (row := [_, _]) tb rfl rfl rfl (by repeat (first | exact zi0 | apply zi1 | apply zi2)) (by rfl) (by rfl)) rfl rfl rfl ?_
         refine DJ_q (yv_move (show _ = Value.int _ _ from rfl)) rfl rfl rfl ?_
         refine DJ_q (yv_field tb rfl rfl rfl) rfl rfl rfl ?_
         refine DJ_q (yv_load1 tb rfl rfl rfl (by repeat (first | exact zi0 | apply zi1 | apply zi2)) (by rfl)) rfl rfl rfl ?_
         refine DJ_q (yv_move (show _ = Value.int _ _ from rfl)) rfl rfl rfl ?_
         refine DJ_q (by first | exact yv_index_ro tb rfl rfl rfl rfl (by first | assumption | exact zr (by simp)) rfl (by omega) | exact yv_index tb rfl rfl rfl rfl rfl (by omega)) rfl rfl rfl ?_
         refine DJ_q (by first | exact yv_load1_ro tb rfl rfl rfl (by first | assumption | exact zr (by simp)) (by assumption) (by rfl) | exact yv_load1 tb rfl rfl rfl (by repeat (first | exact zi0 | apply zi1 | apply zi2)) (by rfl) | exact yv_load1 tb rfl rfl rfl (by repeat (first | exact zi0 | apply zi1 | apply zi2)) (icell_get (by assumption)) | exact yv_load1 tb rfl rfl rfl (by repeat (first | exact zi0 | apply zi1 | apply zi2)) (rcell_get (fun _ => rfl) (by assumption) rfl)) rfl rfl rfl ?_
         refine DJ_call rfl (ref09Drop_tri a s k2 (x.flows.l.getD k2 0) _ _ hm hs) rfl rfl ?_
         rintro v L' R' ⟨rfl, rfl, rfl⟩
         refine ⟨(by repeat (first | exact zs0 _ | exact zs1 _ | apply zs2 | apply zs3 | apply zs4 | apply zs5)), (by first | exact allR_self _ | exact (fun r h => inR_self (by simp [h]))), ?_⟩
         refine DJ_alloc rfl rfl ?_
         intro b14
         refine DJ_storeW rfl rfl rfl rfl (by repeat (first | apply zu0 | apply zu1 | apply zu2)) (by rfl) (by rfl) (by repeat (first | exact zs0 _ | exact zs1 _ | apply zs2 | apply zs3 | apply zs4 | apply zs5)) ?_
         refine DJ_nil (seqK_normal (CJ_seq ?_))
         have hdr : (a.mine.roads.l.getD k2 default).closed = false → dropS a s k2 (x.flows.l.getD k2 0) = innerS a s k2 (x.flows.l.getD k2 0) := fun hcl => by
           have ho : openB a s k2 = true := by
             have h1 : rightB a s = true := by simpa using hc1
             simp only [openB, h1, Int.toNat_natCast, hcl, Bool.true_and, Bool.and_eq_true, decide_eq_true_eq, Bool.not_false, and_true]
             omega
           rw [dropS, if_neg]
           rw [ho]
           simp only [Bool.true_eq_false, false_or]
           omega
         refine CJ_region ?_
         refine LJ_q (yv_field tb rfl rfl rfl) rfl ?_
         refine LJ_q (yv_load1 tb rfl rfl rfl (by repeat (first | exact zi0 | apply zi1 | apply zi2)) (by rfl)) rfl ?_
         refine LJ_q (yv_not rfl) rfl ?_
         refine LJ_q (yv_move (show _ = Value.bool _ from rfl)) rfl ?_
         apply LJ_and (G := [_, _, _, _, _, _, _, _, _, _]) (j := 3) (cj := 137) rfl rfl (by rfl) rfl (show _ = Value.bool _ from rfl) rfl
         ·
          intro hg4
          try simp only [zb1, zb2, zb3, zb4, zb5, zb6, zb7, zb8] at hg4
          refine LJ_q (yv_move (show _ = Value.int _ _ from rfl)) rfl ?_
          refine LJ_q (yv_field tb rfl rfl rfl) rfl ?_
          refine LJ_q (yv_load1 tb rfl rfl rfl (by repeat (first | exact zi0 | apply zi1 | apply zi2)) (by rfl)) rfl ?_
          refine LJ_q (yv_lss rfl rfl) rfl ?_
          refine LJ_q (yv_move (show _ = Value.bool _ from rfl)) rfl ?_
          apply LJ_or (G := [_, _, _, _]) (j := 8) (cj := 142) rfl rfl (by rfl) rfl (show _ = Value.bool _ from rfl) rfl
          ·
           intro hg9
           try simp only [zb1, zb2, zb3, zb4, zb5, zb6, zb7, zb8] at hg9
           refine LJ_q (yv_move (show _ = Value.int _ _ from rfl)) rfl ?_
           refine LJ_q (yv_field tb rfl rfl rfl) rfl ?_
           refine LJ_q (yv_load1 tb rfl rfl rfl (by repeat (first | exact zi0 | apply zi1 | apply zi2)) (by rfl)) rfl ?_
           refine LJ_q (yv_gtr rfl rfl) rfl ?_
           exact LJ_merge_end (show _ = Value.bool _ from rfl) (by repeat (first | exact Off.refl | apply Off.upd rfl | apply Off.havoc rfl | apply Off.updL rfl | apply Off.left rfl)) (by repeat (first | exact zs0 _ | exact zs1 _ | apply zs2 | apply zs3 | apply zs4 | apply zs5)) (by first | exact allR_self _ | exact fun r h => inR_self (by simp [h]))
          intro junk9
          exact LJ_merge_end (show _ = Value.bool _ from rfl) (by repeat (first | exact Off.refl | apply Off.upd rfl | apply Off.havoc rfl | apply Off.updL rfl | apply Off.left rfl)) (by repeat (first | exact zs0 _ | exact zs1 _ | apply zs2 | apply zs3 | apply zs4 | apply zs5)) (by first | exact allR_self _ | exact fun r h => inR_self (by simp [h]))
         intro junk4
         refine LJ_nil (seqK_normal ?_)
         refine CJ_cond (show _ = Value.bool _ from rfl) (fun hc9 => ?_) (fun hc9 => ?_)
         ·
          try simp only [zb1, zb2, zb3, zb4, zb5, zb6, zb7, zb8] at hc9
          rw [hdr hc9.1] at hc9
          refine CJ_seq (CJ_region ?_)
          refine LJ_q (yv_assign (show _ = Value.int _ _ from rfl)) rfl ?_
          refine LJ_nil (seqK_normal (CJ_ret (seqK_ret (blockK_ret (seqK_ret (loopK_ret (blockK_ret (seqK_ret ?_))))))))
          refine retK_ret (L' := L) (R' := R) (res1 rfl (rv_tmp (show _ = Value.int _ _ from rfl))) ?hp ?hL ?hR
          case hp => exact ⟨by rw [hfa, FSR_some hp2 (by omega) (if_pos (.inr hc9))], rfl, rfl⟩
          case hL => exact (by repeat (first | exact zs0 _ | exact zs1 _ | apply zs2 | apply zs3 | apply zs4 | apply zs5))
          case hR => exact allR_self _
         ·
          try simp only [zb1, zb2, zb3, zb4, zb5, zb6, zb7, zb8] at hc9
          have hru : roadUnfit a s x k2 = none := if_neg (by
            rintro (h | ⟨h, h'⟩)
            · rcases hc8 with h8 | h8
              · rw [h.1] at h8; cases h8
              · exact h.2 (by simpa using h8)
            · rw [hdr h] at hc9
              rcases hc9 with h9 | h9
              · rw [h] at h9; cases h9
              · rcases h' with h' | h'
                · exact h9.1 h'
                · exact h9.2 h')
          refine CJ_skip (seqK_normal (CJ_seq ?_))
          refine CJ_drawn2 tb [] [0, 1, 2, 3, 4, 5, 6, 7, 8, 9, 10, 11] [12] (_) _ mixed (by kernel_rfl) (by repeat (first | exact zs0 _ | exact zs1 _ | apply zs2 | apply zs3 | apply zs4 | apply zs5)) (by (repeat (first | apply List.Sublist.cons (a := Blk.mk b88 _ _) | apply List.Sublist.cons_cons)); exact List.Sublist.refl _) ?_
          refine DJ3_q (yv_move (show _ = Value.slice _ _ _ from rfl)) rfl rfl rfl rfl ?_
          refine DJ3_q (yv_field tb rfl rfl rfl) rfl rfl rfl rfl ?_
          refine DJ3_q (yv_load1 tb rfl rfl rfl (by repeat (first | exact zi0 | apply zi1 | apply zi2)) (by rfl)) rfl rfl rfl rfl ?_
          refine DJ3_q (yv_index tb rfl rfl rfl rfl (i := (a.mine.roads.l.getD k2 default).fr.toNat) (by first | rfl | omega | (simp; omega)) (by omega)) rfl rfl rfl rfl ?_
          refine DJ3_q (by first | exact yv_load1 tb rfl rfl rfl (by repeat (first | exact zi0 | apply zi1 | apply zi2)) (rcell_get (fun _ => rfl) (by assumption) rfl) | exact yv_load1 tb rfl rfl rfl (by repeat (first | exact zi0 | apply zi1 | apply zi2)) (rcell_get' (fun _ => rfl) (by assumption) rfl) | exact yv_load1 tb rfl rfl rfl (by repeat (first | exact zi0 | apply zi1 | apply zi2)) (icell_get (by assumption)) | exact yv_load1 tb rfl rfl rfl (by repeat (first | exact zi0 | apply zi1 | apply zi2)) (by rfl)) rfl rfl rfl rfl ?_
          refine DJ3_q (yv_field tb rfl rfl rfl) rfl rfl rfl rfl ?_
          refine DJ3_q (yv_load1 tb rfl rfl rfl (by repeat (first | exact zi0 | apply zi1 | apply zi2)) (by rfl)) rfl rfl rfl rfl ?_
          refine DJ3_q (yv_move (show _ = Value.int _ _ from rfl)) rfl rfl rfl rfl ?_
          refine DJ3_q (by first | exact yv_index_ro tb rfl rfl rfl rfl (by first | assumption | exact zr (by simp)) rfl (by omega) | exact yv_index tb rfl rfl rfl rfl rfl (by omega)) rfl rfl rfl rfl ?_
          refine DJ3_q (by first | exact yv_load1_ro tb rfl rfl rfl (by first | assumption | exact zr (by simp)) (by assumption) (by rfl) | exact yv_load1 tb rfl rfl rfl (by repeat (first | exact zi0 | apply zi1 | apply zi2)) (by rfl) | exact yv_load1 tb rfl rfl rfl (by repeat (first | exact zi0 | apply zi1 | apply zi2)) (icell_get (by assumption)) | exact yv_load1 tb rfl rfl rfl (by repeat (first | exact zi0 | apply zi1 | apply zi2)) (rcell_get (fun _ => rfl) (by assumption) rfl)) rfl rfl rfl rfl ?_
          refine DJ3_q (by first | exact yv_add64 rfl rfl (by omega) (by omega) | exact yv_addU rfl rfl (by omega) (by omega) | exact yv_add rfl rfl) rfl rfl rfl rfl ?_
          refine DJ3_q (yv_index tb rfl rfl rfl rfl (i := (a.mine.roads.l.getD k2 default).fr.toNat) (by first | rfl | omega | (simp; omega)) (by omega)) rfl rfl rfl rfl ?_
          refine DJ3_phase ?_
          refine DJ_store1 (v := Value.int _ _) rfl rfl rfl rfl (by repeat (first | apply zu0 | apply zu1 | apply zu2)) (by first | exact icell_fit (by omega) | rfl) (by first | exact icell_set | rfl) (by rfl) (by repeat (first | exact zs0 _ | exact zs1 _ | apply zs2 | apply zs3 | apply zs4 | apply zs5)) ?_
          refine DJ_nil (seqK_normal ?_)
          have hsl : ((netTo a x k2).set (a.mine.roads.l.getD k2 default).fr.toNat ((netTo a x k2).getD (a.mine.roads.l.getD k2 default).fr.toNat 0 + x.flows.l.getD k2 0)).length = x.pres.l.length := by rw [List.length_set, hnl]
          have hg2 := get_D (l := (netTo a x k2).set (a.mine.roads.l.getD k2 default).fr.toNat ((netTo a x k2).getD (a.mine.roads.l.getD k2 default).fr.toNat 0 + x.flows.l.getD k2 0)) (k := (a.mine.roads.l.getD k2 default).to.toNat) 0 (by omega)
          have hg2b := set_bounds (B := 2097152 * (k2 : Int) + 1048576) (fun j y hy => by have := netTo_bounds hqb k2 (by omega) j y hy; omega) (by omega) _ _ hg2
          refine CJ_drawn2 tb [] [0, 1, 2, 3, 4, 5, 6, 7, 8, 9, 10, 11] [12] (_) _ mixed (by kernel_rfl) (by repeat (first | exact zs0 _ | exact zs1 _ | apply zs2 | apply zs3 | apply zs4 | apply zs5)) (by (repeat (first | apply List.Sublist.cons (a := Blk.mk b88 _ _) | apply List.Sublist.cons_cons)); exact List.Sublist.refl _) ?_
          refine DJ3_q (yv_move (show _ = Value.slice _ _ _ from rfl)) rfl rfl rfl rfl ?_
          refine DJ3_q (yv_field tb rfl rfl rfl) rfl rfl rfl rfl ?_
          refine DJ3_q (yv_load1 tb rfl rfl rfl (by repeat (first | exact zi0 | apply zi1 | apply zi2)) (by rfl)) rfl rfl rfl rfl ?_
          refine DJ3_q (yv_index tb rfl rfl rfl rfl (i := (a.mine.roads.l.getD k2 default).to.toNat) (by first | rfl | omega | (simp; omega)) (by omega)) rfl rfl rfl rfl ?_
          refine DJ3_q (by first | exact yv_load1 tb rfl rfl rfl (by repeat (first | exact zi0 | apply zi1 | apply zi2)) (rcell_get (fun _ => rfl) (by assumption) rfl) | exact yv_load1 tb rfl rfl rfl (by repeat (first | exact zi0 | apply zi1 | apply zi2)) (rcell_get' (fun _ => rfl) (by assumption) rfl) | exact yv_load1 tb rfl rfl rfl (by repeat (first | exact zi0 | apply zi1 | apply zi2)) (icell_get (by assumption)) | exact yv_load1 tb rfl rfl rfl (by repeat (first | exact zi0 | apply zi1 | apply zi2)) (by rfl)) rfl rfl rfl rfl ?_
          refine DJ3_q (yv_field tb rfl rfl rfl) rfl rfl rfl rfl ?_
          refine DJ3_q (yv_load1 tb rfl rfl rfl (by repeat (first | exact zi0 | apply zi1 | apply zi2)) (by rfl)) rfl rfl rfl rfl ?_
          refine DJ3_q (yv_move (show _ = Value.int _ _ from rfl)) rfl rfl rfl rfl ?_
          refine DJ3_q (by first | exact yv_index_ro tb rfl rfl rfl rfl (by first | assumption | exact zr (by simp)) rfl (by omega) | exact yv_index tb rfl rfl rfl rfl rfl (by omega)) rfl rfl rfl rfl ?_
          refine DJ3_q (by first | exact yv_load1_ro tb rfl rfl rfl (by first | assumption | exact zr (by simp)) (by assumption) (by rfl) | exact yv_load1 tb rfl rfl rfl (by repeat (first | exact zi0 | apply zi1 | apply zi2)) (by rfl) | exact yv_load1 tb rfl rfl rfl (by repeat (first | exact zi0 | apply zi1 | apply zi2)) (icell_get (by assumption)) | exact yv_load1 tb rfl rfl rfl (by repeat (first | exact zi0 | apply zi1 | apply zi2)) (rcell_get (fun _ => rfl) (by assumption) rfl)) rfl rfl rfl rfl ?_
          refine DJ3_q (by first | exact yv_sub64 rfl rfl (by omega) (by omega) | exact yv_sub rfl rfl) rfl rfl rfl rfl ?_
          refine DJ3_q (yv_index tb rfl rfl rfl rfl (i := (a.mine.roads.l.getD k2 default).to.toNat) (by first | rfl | omega | (simp; omega)) (by omega)) rfl rfl rfl rfl ?_
          refine DJ3_phase ?_
          refine DJ_store1 (v := Value.int _ _) rfl rfl rfl rfl (by repeat (first | apply zu0 | apply zu1 | apply zu2)) (by first | exact icell_fit (by omega) | rfl) (by first | exact icell_set | rfl) (by rfl) (by repeat (first | exact zs0 _ | exact zs1 _ | apply zs2 | apply zs3 | apply zs4 | apply zs5)) ?_
          refine DJ_nil (blockK_normal (seqK_normal (CJ_region ?_)))
          refine LJ_q (yv_move (show _ = Value.int _ _ from rfl)) rfl ?_
          refine LJ_q (by first | exact yv_add64 rfl rfl (by omega) (by omega) | exact yv_addU rfl rfl (by omega) (by omega) | exact yv_add rfl rfl) rfl ?_
          refine LJ_q (yv_assign (show _ = Value.int _ _ from rfl)) rfl ?_
          refine LJ_nil ?_
          exact loopK_mk ⟨k2 + 1, FSR_next hp2 (by omega) hru⟩ (by repeat (first | exact Off.refl | apply Off.upd rfl | apply Off.havoc rfl | apply Off.updL rfl | apply Off.left rfl)) (by repeat' (first | exact trivial | refine And.intro rfl ?_)) (by repeat (first | exact zs0 _ | exact zs1 _ | apply zs2 | apply zs3 | apply zs4 | apply zs5)) (allR_self _) (by dsimp only; omega)
       ·
        try simp only [zb1, zb2, zb3, zb4, zb5, zb6, zb7, zb8] at hc7
        have hn2 := FSR_none hp2 (by omega)
        rw [hn2] at hfa
        dsimp only at hfa
        obtain rfl : k2 = x.flows.l.length := by omega
        have hnl := netTo_length a x x.flows.l.length
        refine CJ_exit (seqK_exit (loopK_exit (blockK_exit (seqK_normal (CJ_seq (CJ_seq (CJ_region ?_)))))))
        refine LJ_q (yv_assign (show _ = Value.int _ _ from rfl)) rfl ?_
        refine LJ_nil (seqK_normal (CJ_block ?_))
        refine CJ_forget [(3, Value.pointer _), (5, Value.pointer _), (10, Value.slice _ _ _), (15, Value.int _ _)] (by repeat' (first | exact trivial | refine And.intro rfl ?_)) fun tq3 => ?_
        refine CJ_loopS [6, 15, 173, 174, 175, 176, 177, 178, 179, 180, 181, 182, 183, 184, 185, 186, 187, 188, 189, 190, 191, 192, 193, 194, 195, 196, 197, 198, 199, 200, 201, 202, 203, 204, 205, 206, 207, 208, 209, 210] (fun g : FSR (placeUnfit a x (netTo a x x.flows.l.length)) (x.pres.l.length) => [(15, .int .i64 ((g.1 : Nat) : Int))]) (fun g => (x.pres.l.length) - g.1) ⟨0, FSR_zero _ _⟩ (by repeat' (first | exact trivial | refine And.intro rfl ?_)) ?_
        rintro ⟨k3, hk3, hp3⟩ junk
        try dsimp only
        refine CJ_seq (CJ_seq (CJ_region ?_))
        refine LJ_q (yv_move (show _ = Value.int _ _ from rfl)) rfl ?_
        refine LJ_q (yv_move (show _ = Value.slice _ _ _ from rfl)) rfl ?_
        refine LJ_q (yv_len tb rfl rfl rfl) rfl ?_
        refine LJ_q (yv_lss rfl rfl) rfl ?_
        refine LJ_nil (seqK_normal ?_)
        refine CJ_cond (show _ = Value.bool _ from rfl) (fun hc10 => ?_) (fun hc10 => ?_)
        ·
         try simp only [zb1, zb2, zb3, zb4, zb5, zb6, zb7, zb8] at hc10
         have hpl := get_D (l := a.mine.places.l) (k := k3) default (by omega)
         have hpr := get_D (l := x.pres.l) (k := k3) 0 (by omega)
         have hnt := get_D (l := netTo a x x.flows.l.length) (k := k3) 0 (by omega)
         refine CJ_skip (seqK_normal (CJ_seq (CJ_block (CJ_seq (CJ_region ?_)))))
         refine LJ_q (yv_field tb rfl rfl rfl) rfl ?_
         refine LJ_q (yv_field tb rfl rfl rfl) rfl ?_
         refine LJ_q (yv_load1 tb rfl rfl rfl (by repeat (first | exact zi0 | apply zi1 | apply zi2)) (by rfl)) rfl ?_
         refine LJ_q (yv_move (show _ = Value.int _ _ from rfl)) rfl ?_
         refine LJ_q (by first | exact yv_index_ro tb rfl rfl rfl rfl (by first | assumption | exact zr (by simp)) rfl (by omega) | exact yv_index tb rfl rfl rfl rfl rfl (by omega)) rfl ?_
         refine LJ_q (yv_field_eo tb rfl rfl rfl) rfl ?_
         refine LJ_q (by first | exact yv_load1_ro tb rfl rfl rfl (by first | assumption | exact zr (by simp)) (by assumption) (by rfl) | exact yv_load1 tb rfl rfl rfl (by repeat (first | exact zi0 | apply zi1 | apply zi2)) (by rfl) | exact yv_load1 tb rfl rfl rfl (by repeat (first | exact zi0 | apply zi1 | apply zi2)) (icell_get (by assumption)) | exact yv_load1 tb rfl rfl rfl (by repeat (first | exact zi0 | apply zi1 | apply zi2)) (rcell_get (fun _ => rfl) (by assumption) rfl)) rfl ?_
         refine LJ_q (yv_move (show _ = Value.bool _ from rfl)) rfl ?_
         apply LJ_and (G := [_, _, _, _, _, _]) (j := 7) (cj := 186) rfl rfl (by rfl) rfl (show _ = Value.bool _ from rfl) rfl
         ·
          intro hg8
          try simp only [zb1, zb2, zb3, zb4, zb5, zb6, zb7, zb8] at hg8
          refine LJ_q (yv_field tb rfl rfl rfl) rfl ?_
          refine LJ_q (yv_load1 tb rfl rfl rfl (by repeat (first | exact zi0 | apply zi1 | apply zi2)) (by rfl)) rfl ?_
          refine LJ_q (yv_move (show _ = Value.int _ _ from rfl)) rfl ?_
          refine LJ_q (by first | exact yv_index_ro tb rfl rfl rfl rfl (by first | assumption | exact zr (by simp)) rfl (by omega) | exact yv_index tb rfl rfl rfl rfl rfl (by omega)) rfl ?_
          refine LJ_q (by first | exact yv_load1_ro tb rfl rfl rfl (by first | assumption | exact zr (by simp)) (by assumption) (by rfl) | exact yv_load1 tb rfl rfl rfl (by repeat (first | exact zi0 | apply zi1 | apply zi2)) (by rfl) | exact yv_load1 tb rfl rfl rfl (by repeat (first | exact zi0 | apply zi1 | apply zi2)) (icell_get (by assumption)) | exact yv_load1 tb rfl rfl rfl (by repeat (first | exact zi0 | apply zi1 | apply zi2)) (rcell_get (fun _ => rfl) (by assumption) rfl)) rfl ?_
          refine LJ_q (yv_neq rfl rfl) rfl ?_
          exact LJ_merge_end (show _ = Value.bool _ from rfl) (by repeat (first | exact Off.refl | apply Off.upd rfl | apply Off.havoc rfl | apply Off.updL rfl | apply Off.left rfl)) (by repeat (first | exact zs0 _ | exact zs1 _ | apply zs2 | apply zs3 | apply zs4 | apply zs5)) (by first | exact allR_self _ | exact fun r h => inR_self (by simp [h]))
         intro junk8
         refine LJ_q (yv_move (show _ = Value.bool _ from rfl)) rfl ?_
         apply LJ_or (G := [_, _, _, _, _, _, _, _, _, _, _, _, _, _, _]) (j := 15) (cj := 194) rfl rfl (by rfl) rfl (show _ = Value.bool _ from rfl) rfl
         ·
          intro hg16
          try simp only [zb1, zb2, zb3, zb4, zb5, zb6, zb7, zb8] at hg16
          refine LJ_q (yv_field tb rfl rfl rfl) rfl ?_
          refine LJ_q (yv_field tb rfl rfl rfl) rfl ?_
          refine LJ_q (yv_load1 tb rfl rfl rfl (by repeat (first | exact zi0 | apply zi1 | apply zi2)) (by rfl)) rfl ?_
          refine LJ_q (yv_move (show _ = Value.int _ _ from rfl)) rfl ?_
          refine LJ_q (by first | exact yv_index_ro tb rfl rfl rfl rfl (by first | assumption | exact zr (by simp)) rfl (by omega) | exact yv_index tb rfl rfl rfl rfl rfl (by omega)) rfl ?_
          refine LJ_q (yv_field_eo tb rfl rfl rfl) rfl ?_
          refine LJ_q (by first | exact yv_load1_ro tb rfl rfl rfl (by first | assumption | exact zr (by simp)) (by assumption) (by rfl) | exact yv_load1 tb rfl rfl rfl (by repeat (first | exact zi0 | apply zi1 | apply zi2)) (by rfl) | exact yv_load1 tb rfl rfl rfl (by repeat (first | exact zi0 | apply zi1 | apply zi2)) (icell_get (by assumption)) | exact yv_load1 tb rfl rfl rfl (by repeat (first | exact zi0 | apply zi1 | apply zi2)) (rcell_get (fun _ => rfl) (by assumption) rfl)) rfl ?_
          refine LJ_q (yv_not rfl) rfl ?_
          refine LJ_q (yv_move (show _ = Value.bool _ from rfl)) rfl ?_
          apply LJ_and (G := [_, _, _, _, _]) (j := 24) (cj := 203) rfl rfl (by rfl) rfl (show _ = Value.bool _ from rfl) rfl
          ·
           intro hg25
           try simp only [zb1, zb2, zb3, zb4, zb5, zb6, zb7, zb8] at hg25
           refine LJ_q (yv_move (show _ = Value.slice _ _ _ from rfl)) rfl ?_
           refine LJ_q (yv_move (show _ = Value.int _ _ from rfl)) rfl ?_
           refine LJ_q (by first | exact yv_index_ro tb rfl rfl rfl rfl (by first | assumption | exact zr (by simp)) rfl (by omega) | exact yv_index tb rfl rfl rfl rfl rfl (by omega)) rfl ?_
           refine LJ_q (by first | exact yv_load1_ro tb rfl rfl rfl (by first | assumption | exact zr (by simp)) (by assumption) (by rfl) | exact yv_load1 tb rfl rfl rfl (by repeat (first | exact zi0 | apply zi1 | apply zi2)) (by rfl) | exact yv_load1 tb rfl rfl rfl (by repeat (first | exact zi0 | apply zi1 | apply zi2)) (icell_get (by assumption)) | exact yv_load1 tb rfl rfl rfl (by repeat (first | exact zi0 | apply zi1 | apply zi2)) (rcell_get (fun _ => rfl) (by assumption) rfl)) rfl ?_
           refine LJ_q (yv_neq rfl rfl) rfl ?_
           exact LJ_merge_end (show _ = Value.bool _ from rfl) (by repeat (first | exact Off.refl | apply Off.upd rfl | apply Off.havoc rfl | apply Off.updL rfl | apply Off.left rfl)) (by repeat (first | exact zs0 _ | exact zs1 _ | apply zs2 | apply zs3 | apply zs4 | apply zs5)) (by first | exact allR_self _ | exact fun r h => inR_self (by simp [h]))
          intro junk25
          exact LJ_merge_end (show _ = Value.bool _ from rfl) (by repeat (first | exact Off.refl | apply Off.upd rfl | apply Off.havoc rfl | apply Off.updL rfl | apply Off.left rfl)) (by repeat (first | exact zs0 _ | exact zs1 _ | apply zs2 | apply zs3 | apply zs4 | apply zs5)) (by first | exact allR_self _ | exact fun r h => inR_self (by simp [h]))
         intro junk16
         refine LJ_nil (seqK_normal ?_)
         refine CJ_cond (show _ = Value.bool _ from rfl) (fun hc11 => ?_) (fun hc11 => ?_)
         ·
          try simp only [zb1, zb2, zb3, zb4, zb5, zb6, zb7, zb8] at hc11
          refine CJ_seq (CJ_region ?_)
          refine LJ_q (yv_assign (show _ = Value.int _ _ from rfl)) rfl ?_
          refine LJ_nil (seqK_normal (CJ_ret (blockK_ret (seqK_ret (loopK_ret (blockK_ret (seqK_ret ?_)))))))
          refine retK_ret (L' := L) (R' := R) (res1 rfl (rv_tmp (show _ = Value.int _ _ from rfl))) ?hp ?hL ?hR
          case hp => exact ⟨by rw [hfa, FSR_some hp3 (by omega) (if_pos hc11)]; rfl, rfl, rfl⟩
          case hL => exact (by repeat (first | exact zs0 _ | exact zs1 _ | apply zs2 | apply zs3 | apply zs4 | apply zs5))
          case hR => exact allR_self _
         ·
          try simp only [zb1, zb2, zb3, zb4, zb5, zb6, zb7, zb8] at hc11
          refine CJ_skip (blockK_normal (seqK_normal (CJ_region ?_)))
          refine LJ_q (yv_move (show _ = Value.int _ _ from rfl)) rfl ?_
          refine LJ_q (by first | exact yv_add64 rfl rfl (by omega) (by omega) | exact yv_addU rfl rfl (by omega) (by omega) | exact yv_add rfl rfl) rfl ?_
          refine LJ_q (yv_assign (show _ = Value.int _ _ from rfl)) rfl ?_
          refine LJ_nil ?_
          exact loopK_mk ⟨k3 + 1, FSR_next hp3 (by omega) (if_neg (fun h => h.elim (fun h => hc11.1.elim (fun e => Bool.noConfusion (e.symm.trans h.1)) (fun e => e h.2)) (fun h => hc11.2.elim (fun e => Bool.noConfusion (e.symm.trans h.1)) (fun e => e h.2))))⟩ (by repeat (first | exact Off.refl | apply Off.upd rfl | apply Off.havoc rfl | apply Off.updL rfl | apply Off.left rfl)) (by repeat' (first | exact trivial | refine And.intro rfl ?_)) (by repeat (first | exact zs0 _ | exact zs1 _ | apply zs2 | apply zs3 | apply zs4 | apply zs5)) (allR_self _) (by dsimp only; omega)
        ·
         try simp only [zb1, zb2, zb3, zb4, zb5, zb6, zb7, zb8] at hc10
         have hn3 := FSR_none hp3 (by omega)
         refine CJ_exit (seqK_exit (loopK_exit (blockK_exit (seqK_normal (CJ_seq (CJ_region ?_))))))
         refine LJ_q (yv_assign (show _ = Value.int _ _ from rfl)) rfl ?_
         refine LJ_nil (seqK_normal (CJ_ret ?_))
         refine retK_ret (L' := L) (R' := R) (res1 rfl (rv_tmp (show _ = Value.int _ _ from rfl))) ?hp ?hL ?hR
         case hp => exact ⟨by rw [hfa, hn3]; rfl, rfl, rfl⟩
         case hL => exact (by repeat (first | exact zs0 _ | exact zs1 _ | apply zs2 | apply zs3 | apply zs4 | apply zs5))
         case hR => exact allR_self _
end Go.Proofs.Ytimnnhdeicpenaa
