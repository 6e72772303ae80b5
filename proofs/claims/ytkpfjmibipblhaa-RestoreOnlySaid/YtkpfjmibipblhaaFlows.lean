/-
  Flows: RefFits, PipeOf, Mono, Spec, Codes, in one text. By an AI agent; no person has read it.
-/
import Derived.Test.YtkpfjmibipblhaaFans
set_option linter.unusedSimpArgs false
set_option linter.unusedVariables false
section
namespace Go.Proofs.Ytkpfjmibipblhaa
open Go.Aw Go
set_option maxRecDepth 20000
attribute [local irreducible] CJ LJ DJ Tri YV Gives seqK blockK loopK retK RV mergeK

def presBad (p : Int) : Option Int := if p < -70368744177664 ∨ 70368744177664 < p then some 1 else none
def flowBad (q : Int) : Option Int := if q < -1048576 ∨ 1048576 < q then some 1 else none
def netTo (a : XAir) (x : XState) : Nat → List Int
  | 0 => List.replicate x.pres.l.length 0
  | k + 1 =>
    let l1 := (netTo a x k).set (a.mine.roads.l.getD k default).fr.toNat ((netTo a x k).getD (a.mine.roads.l.getD k default).fr.toNat 0 + x.flows.l.getD k 0)
    l1.set (a.mine.roads.l.getD k default).to.toNat (l1.getD (a.mine.roads.l.getD k default).to.toNat 0 - x.flows.l.getD k 0)
def roadUnfit (a : XAir) (s : XSetting) (x : XState) (i : Nat) : Option Int :=
  let r := a.mine.roads.l.getD i default
  let d := x.pres.l.getD r.fr.toNat 0 - x.pres.l.getD r.to.toNat 0
  if (r.closed = true ∧ x.flows.l.getD i 0 ≠ 0) ∨ (r.closed = false ∧ (d < (innerS a s i (x.flows.l.getD i 0)).low ∨ (innerS a s i (x.flows.l.getD i 0)).high < d)) then some 10 else none
def placeUnfit (a : XAir) (x : XState) (net : List Int) (i : Nat) : Option Int :=
  if ((a.mine.places.l.getD i default).surface = true ∧ x.pres.l.getD i 0 ≠ 0) ∨ ((a.mine.places.l.getD i default).surface = false ∧ net.getD i 0 ≠ 0) then some 10 else none
def fitsS (a : XAir) (s : XSetting) (x : XState) : Int :=
  if airErr a ≠ 0 then airErr a else if fitB a s = false then 21
  else if x.pres.l.length ≠ a.mine.places.l.length ∨ x.flows.l.length ≠ a.mine.roads.l.length then 11
  else match x.pres.l.findSome? presBad with
    | some e => e
    | none => match x.flows.l.findSome? flowBad with
      | some e => e
      | none => match (List.range x.flows.l.length).findSome? (roadUnfit a s x) with
        | some e => e
        | none => ((List.range x.pres.l.length).findSome? (placeUnfit a x (netTo a x x.flows.l.length))).getD 0

theorem fitsS_at {a : XAir} {s : XSetting} {x : XState} (h0 : airErr a = 0) (h1 : fitB a s = true) (h2 : ¬ (x.pres.l.length ≠ a.mine.places.l.length ∨ x.flows.l.length ≠ a.mine.roads.l.length)) :
    fitsS a s x = match x.pres.l.findSome? presBad with
    | some e => e
    | none => match x.flows.l.findSome? flowBad with
      | some e => e
      | none => match (List.range x.flows.l.length).findSome? (roadUnfit a s x) with
        | some e => e
        | none => ((List.range x.pres.l.length).findSome? (placeUnfit a x (netTo a x x.flows.l.length))).getD 0 := by
  rw [fitsS, if_neg (by simp [h0]), if_neg (by simp [h1]), if_neg h2]

end Go.Proofs.Ytkpfjmibipblhaa

end
section
namespace Go.Proofs.Ytkpfjmibipblhaa
open Go.Aw Go


end Go.Proofs.Ytkpfjmibipblhaa

end
section
namespace Go.Proofs.Ytkpfjmibipblhaa
open Go.Aw Go

end Go.Proofs.Ytkpfjmibipblhaa

end
section
namespace Go.Proofs.Ytkpfjmibipblhaa
open Go.Aw Go

end Go.Proofs.Ytkpfjmibipblhaa

end
section
namespace Go.Proofs.Ytkpfjmibipblhaa
open Go.Aw Go
set_option maxRecDepth 20000
attribute [local irreducible] CJ LJ DJ Tri YV Gives seqK blockK loopK retK RV mergeK

def bcell (n : Int) : List Value := [.int .u8 n]
abbrev bsl (x : Arr Int) : Sl := x.sl 1 bcell []
abbrev cblk (c : Nat) (x : Arr Int) (k : Nat) : Blk := ⟨c, [x.val, .int .i64 (k : Int)], 122⟩
structure CodesR (x : Arr Int) (R : List Sl) : Prop where
  sl : InR (bsl x) R
  byte : ∀ (i : Nat) (b : Int), x.l[i]? = some b → 0 ≤ b ∧ b ≤ 255

theorem next2_tri (c : Nat) (x : Arr Int) (k : Nat) (n : Int) (R : List Sl) (hx : CodesR x R) (hk : k ≤ x.l.length) (hn : n ≤ 1000000) :
    Tri Try.prog 43 [.pointer (some ⟨c, 0, none⟩), .int .i64 n].toArray [cblk c x k] R
      (fun v L' R' => ∃ (r : Int) (k' : Nat), v = .int .i64 r ∧ 0 ≤ r ∧ (1 ≤ n → r < n) ∧ (n < 1 → r = 0) ∧ k' ≤ x.l.length ∧ (x.l.length ≤ k → r = 0 ∧ k' = k) ∧ [cblk c x k'] = L' ∧ R = R') := by
  have hsl := hx.sl
  refine Tri_len Try.call43 hsl fun hxn => ?_
  refine tri_enter 77 Try.call43 Try.func43 rfl rfl rfl ?_
  refine qae ?_
  refine qad ?_
  refine qco ?_
  refine CJ_drawn tb [0, 1, 2, 3, 4, 5, 6, 7, 8, 9, 10, 11, 12, 13] _ mixed (by kernel_rfl) (List.Sublist.refl _) ?_
  refine qao ?_
  refine DJ_q (yv_lss rfl rfl) rfl rfl rfl ?_
  refine qb2 ?_
  refine DJ_case (k := 8) (show _ = Value.bool _ from rfl) (fun hg2 => ?_) (fun hg2 => ?_)
  ·
   replace hg2 := qb hg2
   iterate 10 refine qap ?_
   refine qbp ?_
   refine qbu ?_
   refine CJ_cond_true rfl ?_
   refine qae ?_
   refine qad ?_
   refine qbh ?_
   refine q_i (L' := [cblk c x k]) (R' := R) ?_
   exact ⟨0, k, rfl, by omega, fun _ => by omega, fun _ => rfl, hk, fun _ => ⟨rfl, rfl⟩, rfl, rfl⟩
  replace hg2 := qb hg2
  refine qb8 ?_
  refine qcb ?_
  refine qal ?_
  refine qat ?_
  refine qb8 ?_
  refine qcb ?_
  refine qal ?_
  refine qat ?_
  refine DJ_q (yv_len tb rfl rfl rfl) rfl rfl rfl ?_
  refine DJ_q (yv_geq rfl rfl) rfl rfl rfl ?_
  refine qbp ?_
  refine qbu ?_
  refine q_c (fun hc0 => ?_) (fun hc0 => ?_)
  ·
   refine qae ?_
   refine qad ?_
   refine qbh ?_
   refine q_i (L' := [cblk c x k]) (R' := R) ?_
   exact ⟨0, k, rfl, by omega, fun _ => by omega, fun _ => rfl, hk, fun _ => ⟨rfl, rfl⟩, rfl, rfl⟩
  have hb := get_D (l := x.l) (k := k) 0 (by omega)
  have hbb := hx.byte _ _ hb
  refine qbv ?_
  refine qa6 ?_
  refine LJ_q (yv_nilCheck rfl) rfl ?_
  refine qab ?_
  refine qac ?_
  refine qar ?_
  refine LJ_q (yv_nilCheck rfl) rfl ?_
  refine qab ?_
  refine qcn ?_
  refine qa4 ?_
  refine CJ_drawn tb [0, 1, 2, 3, 4, 5, 6, 7, 8, 9, 10, 11, 12] _ mixed (by kernel_rfl) (List.Sublist.refl _) ?_
  refine qb8 ?_
  refine qcb ?_
  refine qal ?_
  refine qat ?_
  refine qb8 ?_
  refine qcb ?_
  refine qal ?_
  refine qat ?_
  refine qb7 ?_
  refine qds ?_
  refine qbl ?_
  refine qdm ?_
  refine qcg ?_
  refine DJ_nil (seqK_normal (CJ_seq (CJ_seq ?_)))
  refine CJ_drawn tb [0, 1, 2, 3, 4, 5, 6, 7, 8, 9, 10, 11, 12, 13] _ mixed (by kernel_rfl) (List.Sublist.refl _) ?_
  refine qao ?_
  refine DJ_q (yv_gtr rfl rfl) rfl rfl rfl ?_
  refine qb2 ?_
  refine DJ_case (k := 41) (show _ = Value.bool _ from rfl) (fun hg2 => ?_) (fun hg2 => ?_)
  ·
   replace hg2 := qb hg2
   refine qb8 ?_
   refine qcb ?_
   refine qal ?_
   refine qat ?_
   refine qb8 ?_
   refine qcb ?_
   refine qal ?_
   refine qat ?_
   refine DJ_q (yv_len tb rfl rfl rfl) rfl rfl rfl ?_
   refine DJ_q (yv_lss rfl rfl) rfl rfl rfl ?_
   refine qbp ?_
   refine qbu ?_
   refine q_c (fun hc1 => ?_) (fun hc1 => ?_)
   ·
    obtain ⟨kk, hkk⟩ : ∃ kk, kk = k + 2 := ⟨_, rfl⟩
    have hb2 := get_D (l := x.l) (k := k + 1) 0 (by omega)
    have hbb2 := hx.byte _ _ hb2
    refine CJ_seq ?_
    refine CJ_drawn tb [0, 1, 2, 3, 4, 5, 6, 7, 8, 9, 10, 11, 12, 13, 14] _ mixed (by kernel_rfl) (List.Sublist.refl _) ?_
    refine qao ?_
    refine qdh ?_
    refine qb8 ?_
    refine qcb ?_
    refine qal ?_
    refine qat ?_
    refine qb8 ?_
    refine qcb ?_
    refine qal ?_
    refine qat ?_
    refine qdy ?_
    refine qbl ?_
    refine qdm ?_
    refine qc2 ?_
    refine qcg ?_
    refine DJ_nil (seqK_normal (CJ_region ?_))
    refine qa6 ?_
    refine LJ_q (yv_nilCheck rfl) rfl ?_
    refine qab ?_
    refine qac ?_
    refine qar ?_
    refine LJ_q (yv_nilCheck rfl) rfl ?_
    refine qab ?_
    refine qcn ?_
    refine qam ?_
    refine qaa ?_
    refine qaa ?_
    refine qda ?_
    refine qad ?_
    refine qa0 ?_
    have htm := fun y (h : 0 ≤ y) => And.intro (Int.tmod_nonneg n h) (Int.tmod_lt_of_pos y (show 0 < n by omega))
    refine retK_ret (L' := [cblk c x kk]) (R' := R) (res1 rfl (rv_tmp (show _ = Value.int _ _ from rfl))) ?hp ?hL ?hR
    case hp => exact ⟨_, kk, rfl, (htm _ (by omega)).1, fun _ => (htm _ (by omega)).2, fun _ => by omega, by omega, fun h => by omega, rfl, rfl⟩
    case hL => subst hkk; exact (by repeat (first | exact zs0 _ | exact zs1 _ | apply zs2 | apply zs3 | apply zs4 | apply zs5))
    case hR => exact allR_self _
   obtain ⟨kk, hkk⟩ : ∃ kk, kk = k + 1 := ⟨_, rfl⟩
   refine qbv ?_
   refine qaa ?_
   refine qaa ?_
   refine qda ?_
   refine qad ?_
   refine qa0 ?_
   have htm := fun y (h : 0 ≤ y) => And.intro (Int.tmod_nonneg n h) (Int.tmod_lt_of_pos y (show 0 < n by omega))
   refine retK_ret (L' := [cblk c x kk]) (R' := R) (res1 rfl (rv_tmp (show _ = Value.int _ _ from rfl))) ?hp ?hL ?hR
   case hp => exact ⟨_, kk, rfl, (htm _ (by omega)).1, fun _ => (htm _ (by omega)).2, fun _ => by omega, by omega, fun h => by omega, rfl, rfl⟩
   case hL => subst hkk; exact (by repeat (first | exact zs0 _ | exact zs1 _ | apply zs2 | apply zs3 | apply zs4 | apply zs5))
   case hR => exact allR_self _
  replace hg2 := qb hg2
  obtain ⟨kk, hkk⟩ : ∃ kk, kk = k + 1 := ⟨_, rfl⟩
  iterate 10 refine qap ?_
  refine qbp ?_
  refine qbu ?_
  refine CJ_cond_false rfl ?_
  refine qbv ?_
  refine qaa ?_
  refine qaa ?_
  refine qda ?_
  refine qad ?_
  refine qa0 ?_
  have htm := fun y (h : 0 ≤ y) => And.intro (Int.tmod_nonneg n h) (Int.tmod_lt_of_pos y (show 0 < n by omega))
  refine retK_ret (L' := [cblk c x kk]) (R' := R) (res1 rfl (rv_tmp (show _ = Value.int _ _ from rfl))) ?hp ?hL ?hR
  case hp => exact ⟨_, kk, rfl, (htm _ (by omega)).1, fun _ => (htm _ (by omega)).2, fun _ => by omega, by omega, fun h => by omega, rfl, rfl⟩
  case hL => subst hkk; exact (by repeat (first | exact zs0 _ | exact zs1 _ | apply zs2 | apply zs3 | apply zs4 | apply zs5))
  case hR => exact allR_self _

theorem next_tri (c : Nat) (x : Arr Int) (k : Nat) (n : Int) (R : List Sl) (hx : CodesR x R) (hk : k ≤ x.l.length) (hn : n ≤ 1000000) :
    Tri Try.prog 43 [.pointer (some ⟨c, 0, none⟩), .int .i64 n].toArray [cblk c x k] R
      (fun v L' R' => ∃ (r : Int) (k' : Nat), v = .int .i64 r ∧ 0 ≤ r ∧ (1 ≤ n → r < n) ∧ (n < 1 → r = 0) ∧ k' ≤ x.l.length ∧ [cblk c x k'] = L' ∧ R = R') :=
  (next2_tri c x k n R hx hk hn).mono fun v L' R' ⟨r, k', h1, h2, h3, h4, h5, _, h6, h7⟩ => ⟨r, k', h1, h2, h3, h4, h5, h6, h7⟩

theorem one_tri (c : Nat) (x : Arr Int) (k : Nat) (n : Int) (R : List Sl) (hx : CodesR x R) (hk : k ≤ x.l.length) (hn : -1000000 ≤ n ∧ n ≤ 1000000) :
    Tri Try.prog 44 [.pointer (some ⟨c, 0, none⟩), .int .i64 n].toArray [cblk c x k] R
      (fun v L' R' => ∃ (b : Bool) (k' : Nat), v = .bool b ∧ k' ≤ x.l.length ∧ [cblk c x k'] = L' ∧ R = R') := by
  refine tri_enter 11 Try.call44 Try.func44 rfl rfl rfl ?_
  refine qae ?_
  refine qaz ?_
  refine qam ?_
  refine qa6 ?_
  refine qaa ?_
  refine LJ_call rfl (next_tri c x k n _ hx hk (by omega)) rfl ?_
  rintro v L' R' ⟨r, k', rfl, h1, h2, h3, hk', rfl, rfl⟩
  refine qaa ?_
  refine qa9 ?_
  refine qbn ?_
  refine qaz ?_
  refine qa0 ?_
  refine q_b (L' := [cblk c x k']) (R' := R) ?_
  exact ⟨_, k', rfl, hk', rfl, rfl⟩

theorem range2_tri (c : Nat) (x : Arr Int) (k : Nat) (lo hi : Int) (R : List Sl) (hx : CodesR x R) (hk : k ≤ x.l.length) (hl : -400000 ≤ lo ∧ lo ≤ hi ∧ hi ≤ 400000) :
    Tri Try.prog 48 [.pointer (some ⟨c, 0, none⟩), .int .i64 lo, .int .i64 hi].toArray [cblk c x k] R
      (fun v L' R' => ∃ (r : Int) (k' : Nat), v = .int .i64 r ∧ lo ≤ r ∧ r ≤ hi ∧ k' ≤ x.l.length ∧ (x.l.length ≤ k → r = lo ∧ k' = k) ∧ [cblk c x k'] = L' ∧ R = R') := by
  refine tri_enter 15 Try.call48 Try.func48 rfl rfl rfl ?_
  refine qae ?_
  refine qad ?_
  refine qam ?_
  refine qaa ?_
  refine qa6 ?_
  refine qaa ?_
  refine qaa ?_
  refine qa9 ?_
  refine qar ?_
  refine LJ_call rfl (next2_tri c x k (hi - lo + 1) _ hx hk (by omega)) rfl ?_
  rintro v L' R' ⟨r, k', rfl, h1, h2, h3, hk', he, rfl, rfl⟩
  have h4 := h2 (by omega)
  refine qar ?_
  refine qad ?_
  refine qa0 ?_
  refine q_i (L' := [cblk c x k']) (R' := R) ?_
  exact ⟨_, k', rfl, by omega, by omega, hk', fun h => by have := he h; omega, rfl, rfl⟩

theorem range_tri (c : Nat) (x : Arr Int) (k : Nat) (lo hi : Int) (R : List Sl) (hx : CodesR x R) (hk : k ≤ x.l.length) (hl : -400000 ≤ lo ∧ lo ≤ hi ∧ hi ≤ 400000) :
    Tri Try.prog 48 [.pointer (some ⟨c, 0, none⟩), .int .i64 lo, .int .i64 hi].toArray [cblk c x k] R
      (fun v L' R' => ∃ (r : Int) (k' : Nat), v = .int .i64 r ∧ lo ≤ r ∧ r ≤ hi ∧ k' ≤ x.l.length ∧ [cblk c x k'] = L' ∧ R = R') :=
  (range2_tri c x k lo hi R hx hk hl).mono fun v L' R' ⟨r, k', h1, h2, h3, h5, _, h6, h7⟩ => ⟨r, k', h1, h2, h3, h5, h6, h7⟩

abbrev ccells (x : Arr Int) (k : Nat) : List Value := [x.val, .int .i64 (k : Int)]

theorem next1 {c : Nat} {x : Arr Int} {k : Nat} {n : Int} {L : List Blk} {F : List Value → List Blk} {R : List Sl} (hu : USeg c (ccells x k) 122 L F) (hx : CodesR x R) (hk : k ≤ x.l.length) (hn : n ≤ 1000000) :
    Tri Try.prog 43 [.pointer (some ⟨c, 0, none⟩), .int .i64 n].toArray L R
      (fun v L' R' => ∃ (r : Int) (k' : Nat), v = .int .i64 r ∧ 0 ≤ r ∧ (1 ≤ n → r < n) ∧ (n < 1 → r = 0) ∧ k' ≤ x.l.length ∧ F (ccells x k') = L' ∧ R = R') :=
  (Tri.at1 (Post' := fun v cs' R' => ∃ (r : Int) (k' : Nat), v = .int .i64 r ∧ 0 ≤ r ∧ (1 ≤ n → r < n) ∧ (n < 1 → r = 0) ∧ k' ≤ x.l.length ∧ cs' = ccells x k' ∧ R = R') hu (next_tri c x k n R hx hk hn)
    (fun v L' R' ⟨r, k', h1, h2, h3, h4, h5, h6, h7⟩ => ⟨_, h6, r, k', h1, h2, h3, h4, h5, rfl, h7⟩)).mono
    (fun v L' R' ⟨cs', h0, r, k', h1, h2, h3, h4, h5, h6, h7⟩ => ⟨r, k', h1, h2, h3, h4, h5, by rw [← h6]; exact h0, h7⟩)
theorem next12 {c : Nat} {x : Arr Int} {k : Nat} {n : Int} {L : List Blk} {F : List Value → List Blk} {R : List Sl} (hu : USeg c (ccells x k) 122 L F) (hx : CodesR x R) (hk : k ≤ x.l.length) (hn : n ≤ 1000000) :
    Tri Try.prog 43 [.pointer (some ⟨c, 0, none⟩), .int .i64 n].toArray L R
      (fun v L' R' => ∃ (r : Int) (k' : Nat), v = .int .i64 r ∧ 0 ≤ r ∧ (1 ≤ n → r < n) ∧ (n < 1 → r = 0) ∧ k' ≤ x.l.length ∧ (x.l.length ≤ k → r = 0 ∧ k' = k) ∧ F (ccells x k') = L' ∧ R = R') :=
  (Tri.at1 (Post' := fun v cs' R' => ∃ (r : Int) (k' : Nat), v = .int .i64 r ∧ 0 ≤ r ∧ (1 ≤ n → r < n) ∧ (n < 1 → r = 0) ∧ k' ≤ x.l.length ∧ (x.l.length ≤ k → r = 0 ∧ k' = k) ∧ cs' = ccells x k' ∧ R = R') hu (next2_tri c x k n R hx hk hn)
    (fun v L' R' ⟨r, k', h1, h2, h3, h4, h5, he, h6, h7⟩ => ⟨_, h6, r, k', h1, h2, h3, h4, h5, he, rfl, h7⟩)).mono
    (fun v L' R' ⟨cs', h0, r, k', h1, h2, h3, h4, h5, he, h6, h7⟩ => ⟨r, k', h1, h2, h3, h4, h5, he, by rw [← h6]; exact h0, h7⟩)
theorem one1 {c : Nat} {x : Arr Int} {k : Nat} {n : Int} {L : List Blk} {F : List Value → List Blk} {R : List Sl} (hu : USeg c (ccells x k) 122 L F) (hx : CodesR x R) (hk : k ≤ x.l.length) (hn : -1000000 ≤ n ∧ n ≤ 1000000) :
    Tri Try.prog 44 [.pointer (some ⟨c, 0, none⟩), .int .i64 n].toArray L R
      (fun v L' R' => ∃ (b : Bool) (k' : Nat), v = .bool b ∧ k' ≤ x.l.length ∧ F (ccells x k') = L' ∧ R = R') :=
  (Tri.at1 (Post' := fun v cs' R' => ∃ (b : Bool) (k' : Nat), v = .bool b ∧ k' ≤ x.l.length ∧ cs' = ccells x k' ∧ R = R') hu (one_tri c x k n R hx hk hn)
    (fun v L' R' ⟨b, k', h1, h5, h6, h7⟩ => ⟨_, h6, b, k', h1, h5, rfl, h7⟩)).mono
    (fun v L' R' ⟨cs', h0, b, k', h1, h5, h6, h7⟩ => ⟨b, k', h1, h5, by rw [← h6]; exact h0, h7⟩)
theorem range1 {c : Nat} {x : Arr Int} {k : Nat} {lo hi : Int} {L : List Blk} {F : List Value → List Blk} {R : List Sl} (hu : USeg c (ccells x k) 122 L F) (hx : CodesR x R) (hk : k ≤ x.l.length) (hl : -400000 ≤ lo ∧ lo ≤ hi ∧ hi ≤ 400000) :
    Tri Try.prog 48 [.pointer (some ⟨c, 0, none⟩), .int .i64 lo, .int .i64 hi].toArray L R
      (fun v L' R' => ∃ (r : Int) (k' : Nat), v = .int .i64 r ∧ lo ≤ r ∧ r ≤ hi ∧ k' ≤ x.l.length ∧ F (ccells x k') = L' ∧ R = R') :=
  (Tri.at1 (Post' := fun v cs' R' => ∃ (r : Int) (k' : Nat), v = .int .i64 r ∧ lo ≤ r ∧ r ≤ hi ∧ k' ≤ x.l.length ∧ cs' = ccells x k' ∧ R = R') hu (range_tri c x k lo hi R hx hk hl)
    (fun v L' R' ⟨r, k', h1, h2, h3, h5, h6, h7⟩ => ⟨_, h6, r, k', h1, h2, h3, h5, rfl, h7⟩)).mono
    (fun v L' R' ⟨cs', h0, r, k', h1, h2, h3, h5, h6, h7⟩ => ⟨r, k', h1, h2, h3, h5, by rw [← h6]; exact h0, h7⟩)
theorem range12 {c : Nat} {x : Arr Int} {k : Nat} {lo hi : Int} {L : List Blk} {F : List Value → List Blk} {R : List Sl} (hu : USeg c (ccells x k) 122 L F) (hx : CodesR x R) (hk : k ≤ x.l.length) (hl : -400000 ≤ lo ∧ lo ≤ hi ∧ hi ≤ 400000) :
    Tri Try.prog 48 [.pointer (some ⟨c, 0, none⟩), .int .i64 lo, .int .i64 hi].toArray L R
      (fun v L' R' => ∃ (r : Int) (k' : Nat), v = .int .i64 r ∧ lo ≤ r ∧ r ≤ hi ∧ k' ≤ x.l.length ∧ (x.l.length ≤ k → r = lo ∧ k' = k) ∧ F (ccells x k') = L' ∧ R = R') :=
  (Tri.at1 (Post' := fun v cs' R' => ∃ (r : Int) (k' : Nat), v = .int .i64 r ∧ lo ≤ r ∧ r ≤ hi ∧ k' ≤ x.l.length ∧ (x.l.length ≤ k → r = lo ∧ k' = k) ∧ cs' = ccells x k' ∧ R = R') hu (range2_tri c x k lo hi R hx hk hl)
    (fun v L' R' ⟨r, k', h1, h2, h3, h5, he, h6, h7⟩ => ⟨_, h6, r, k', h1, h2, h3, h5, he, rfl, h7⟩)).mono
    (fun v L' R' ⟨cs', h0, r, k', h1, h2, h3, h5, he, h6, h7⟩ => ⟨r, k', h1, h2, h3, h5, he, by rw [← h6]; exact h0, h7⟩)
end Go.Proofs.Ytkpfjmibipblhaa

end
