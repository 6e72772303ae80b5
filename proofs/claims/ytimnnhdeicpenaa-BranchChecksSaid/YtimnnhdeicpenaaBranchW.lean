/-
  branch.Drop, Flow and Fits. By an AI agent; no person has read it.
-/
import Derived.Test.YtimnnhdeicpenaaMake
set_option linter.unusedSimpArgs false
set_option linter.unusedVariables false
namespace Go.Proofs.Ytimnnhdeicpenaa
open Go.Aw Go
set_option maxRecDepth 20000
attribute [local irreducible] CJ LJ DJ Tri YV Gives seqK blockK loopK retK RV mergeK OwL.L

theorem openTo_mem {a : XAir} {i : Nat} : ∀ {k : Nat}, i ∈ openTo a k ↔ i < k ∧ (a.mine.roads.l.getD i default).closed = false
  | 0 => by simp [openTo]
  | k + 1 => by
    have ih := openTo_mem (a := a) (i := i) (k := k)
    simp only [openTo]
    by_cases hc : (a.mine.roads.l.getD k default).closed = true
    · rw [if_pos hc, ih]
      constructor
      · rintro ⟨h1, h2⟩; exact ⟨by omega, h2⟩
      · rintro ⟨h1, h2⟩
        refine ⟨?_, h2⟩
        rcases Nat.lt_or_eq_of_le (Nat.le_of_lt_succ h1) with h | h
        · exact h
        · subst h; rw [hc] at h2; cases h2
    · rw [if_neg hc, List.mem_append, ih, List.mem_singleton]
      constructor
      · rintro (⟨h1, h2⟩ | rfl)
        · exact ⟨by omega, h2⟩
        · exact ⟨by omega, by simpa using hc⟩
      · rintro ⟨h1, h2⟩
        rcases Nat.lt_or_eq_of_le (Nat.le_of_lt_succ h1) with h | h
        · exact .inl ⟨h, h2⟩
        · exact .inr h

/-- of each open road there is a pipe -/
theorem NetIs.find {a : XAir} {s : XSetting} {n : XNet} (h : NetIs a s n) {r : Int} (hr : 0 ≤ r ∧ r < a.mine.roads.l.length) (hc : (a.mine.roads.l.getD r.toNat default).closed = false) : ∃ (j : Nat) (p : XPipe), n.pipes.l[j]? = some p ∧ p.num = r := by
  have h1 : r.toNat ∈ openTo a a.mine.roads.l.length := openTo_mem.2 ⟨by omega, hc⟩
  have h2 : r ∈ n.pipes.l.map XPipe.num := by
    rw [h.nums]
    exact List.mem_map.2 ⟨_, h1, by omega⟩
  obtain ⟨p, hp, he⟩ := List.mem_map.1 h2
  obtain ⟨j, hj⟩ := List.mem_iff_getElem?.1 hp
  exact ⟨j, p, hj, he⟩
/-- each pipe is one of an open road -/
theorem NetIs.open {a : XAir} {s : XSetting} {n : XNet} (h : NetIs a s n) {p : XPipe} (hp : p ∈ n.pipes.l) : (0 ≤ p.num ∧ p.num < a.mine.roads.l.length) ∧ (a.mine.roads.l.getD p.num.toNat default).closed = false := by
  have h2 : p.num ∈ n.pipes.l.map XPipe.num := List.mem_map.2 ⟨p, hp, rfl⟩
  rw [h.nums] at h2
  obtain ⟨i, hi, he⟩ := List.mem_map.1 h2
  obtain ⟨h3, h4⟩ := openTo_mem.1 hi
  rw [← he]
  exact ⟨by omega, by simpa using h4⟩
theorem NetIs.length {a : XAir} {s : XSetting} {n : XNet} (h : NetIs a s n) : n.pipes.l.length ≤ a.mine.roads.l.length := by
  have := congrArg List.length h.nums
  simp only [List.length_map] at this
  have := openTo_length a a.mine.roads.l.length
  omega

theorem InR.pipe {x : Arr XPipe} {R : List Sl} (h : InR (ppsl x) R) {i : Nat} {p : XPipe} (hi : x.l[i]? = some p) : InR p.sl R :=
  h.sub (.deep (List.mem_map.2 ⟨p, List.mem_of_getElem? hi, rfl⟩) .here)

def pipe0 : XPipe := ⟨⟨0, 0, 0, 0, false, false, ⟨0, 0⟩, ⟨0, 0⟩⟩, 0, ⟨none, 0, []⟩⟩

theorem pipe_tri (a : XAir) (s : XSetting) (r : Int) (L : List Blk) (R : List Sl) (hm : AirR a R) (hs : SetR s R) :
    Tri Try.prog 42 [a.val, s.val, .int .i64 r].toArray L R (fun v L' R' => ∃ (p : XPipe) (S : List Sl), v = .tuple #[p.val, .bool (openB a s r)] ∧ (openB a s r = true → PipeIs a s r p ∧ InR p.sl (S ++ R)) ∧ L = L' ∧ S ++ R = R') := by
  have hmr := hm.roads
  refine tri_enter 52 Try.call42 Try.func42 rfl rfl rfl ?_
  refine CJ_seq (CJ_region ?_)
  refine LJ_boxN rfl rfl ?_
  intro b3
  refine LJ_boxN rfl rfl ?_
  intro b4
  refine LJ_alloc tb rfl rfl ?_
  intro b6
  refine LJ_q (yv_assign (show _ = Value.bool _ from rfl)) rfl ?_
  refine LJ_nil (seqK_normal (CJ_seq (CJ_seq (CJ_region ?_))))
  refine LJ_q (yv_loadN (row := [_, _, _, _]) tb rfl rfl rfl (by repeat (first | exact zi0 | apply zi1 | apply zi2)) (by rfl) (by rfl)) rfl ?_
  refine LJ_q (yv_loadN (row := [_, _]) tb rfl rfl rfl (by repeat (first | exact zi0 | apply zi1 | apply zi2)) (by rfl) (by rfl)) rfl ?_
  refine LJ_call rfl (right_tri a s _ _ hm hs) rfl ?_
  rintro v L' R' ⟨rfl, rfl, rfl⟩
  refine LJ_q (yv_not rfl) rfl ?_
  refine LJ_q (yv_move (show _ = Value.bool _ from rfl)) rfl ?_
  apply LJ_or (G := [_, _]) (j := 4) (cj := 14) rfl rfl (by rfl) rfl (show _ = Value.bool _ from rfl) rfl
  ·
   intro hg5
   try simp only [zb1, zb2, zb3, zb4, zb5, zb6, zb7, zb8] at hg5
   refine LJ_q (yv_move (show _ = Value.int _ _ from rfl)) rfl ?_
   refine LJ_q (yv_lss rfl rfl) rfl ?_
   exact LJ_merge_end (show _ = Value.bool _ from rfl) (by repeat (first | exact Off.refl | apply Off.upd rfl | apply Off.havoc rfl | apply Off.updL rfl | apply Off.left rfl)) (by repeat (first | exact zs0 _ | exact zs1 _ | apply zs2 | apply zs3 | apply zs4 | apply zs5)) (by first | exact allR_self _ | exact fun r h => inR_self (by simp [h]))
  intro junk5
  refine LJ_q (yv_move (show _ = Value.bool _ from rfl)) rfl ?_
  apply LJ_or (G := [_, _, _, _, _, _]) (j := 8) (cj := 18) rfl rfl (by rfl) rfl (show _ = Value.bool _ from rfl) rfl
  ·
   intro hg9
   try simp only [zb1, zb2, zb3, zb4, zb5, zb6, zb7, zb8] at hg9
   refine LJ_q (yv_move (show _ = Value.int _ _ from rfl)) rfl ?_
   refine LJ_q (yv_field tb rfl rfl rfl) rfl ?_
   refine LJ_q (yv_field tb rfl rfl rfl) rfl ?_
   refine LJ_q (yv_load1 tb rfl rfl rfl (by repeat (first | exact zi0 | apply zi1 | apply zi2)) (by rfl)) rfl ?_
   refine LJ_q (yv_len tb rfl rfl rfl) rfl ?_
   refine LJ_q (yv_geq rfl rfl) rfl ?_
   exact LJ_merge_end (show _ = Value.bool _ from rfl) (by repeat (first | exact Off.refl | apply Off.upd rfl | apply Off.havoc rfl | apply Off.updL rfl | apply Off.left rfl)) (by repeat (first | exact zs0 _ | exact zs1 _ | apply zs2 | apply zs3 | apply zs4 | apply zs5)) (by first | exact allR_self _ | exact fun r h => inR_self (by simp [h]))
  intro junk9
  refine LJ_q (yv_move (show _ = Value.bool _ from rfl)) rfl ?_
  apply LJ_or (G := [_, _, _, _, _, _, _]) (j := 16) (cj := 26) rfl rfl (by rfl) rfl (show _ = Value.bool _ from rfl) rfl
  ·
   intro hg17
   try simp only [zb1, zb2, zb3, zb4, zb5, zb6, zb7, zb8] at hg17
   have hro := get_D (l := a.mine.roads.l) (k := r.toNat) default (by omega)
   refine LJ_q (yv_field tb rfl rfl rfl) rfl ?_
   refine LJ_q (yv_field tb rfl rfl rfl) rfl ?_
   refine LJ_q (yv_load1 tb rfl rfl rfl (by repeat (first | exact zi0 | apply zi1 | apply zi2)) (by rfl)) rfl ?_
   refine LJ_q (yv_move (show _ = Value.int _ _ from rfl)) rfl ?_
   refine LJ_q (by first | exact yv_index_ro tb rfl rfl rfl rfl (by first | assumption | exact zr (by simp)) (i := r.toNat) (by first | rfl | omega | (simp; omega)) (by omega) | exact yv_index tb rfl rfl rfl rfl (i := r.toNat) (by first | rfl | omega | (simp; omega)) (by omega)) rfl ?_
   refine LJ_q (yv_field_eo tb rfl rfl rfl) rfl ?_
   refine LJ_q (by first | exact yv_load1_ro tb rfl rfl rfl (by first | assumption | exact zr (by simp)) (by assumption) (by rfl) | exact yv_load1 tb rfl rfl rfl (by repeat (first | exact zi0 | apply zi1 | apply zi2)) (by rfl) | exact yv_load1 tb rfl rfl rfl (by repeat (first | exact zi0 | apply zi1 | apply zi2)) (icell_get (by assumption)) | exact yv_load1 tb rfl rfl rfl (by repeat (first | exact zi0 | apply zi1 | apply zi2)) (rcell_get (fun _ => rfl) (by assumption) rfl)) rfl ?_
   exact LJ_merge_end (show _ = Value.bool _ from rfl) (by repeat (first | exact Off.refl | apply Off.upd rfl | apply Off.havoc rfl | apply Off.updL rfl | apply Off.left rfl)) (by repeat (first | exact zs0 _ | exact zs1 _ | apply zs2 | apply zs3 | apply zs4 | apply zs5)) (by first | exact allR_self _ | exact fun r h => inR_self (by simp [h]))
  intro junk17
  refine LJ_nil (seqK_normal ?_)
  refine CJ_cond (show _ = Value.bool _ from rfl) (fun hc0 => ?_) (fun hc0 => ?_)
  ·
   try simp only [zb1, zb2, zb3, zb4, zb5, zb6, zb7, zb8] at hc0
   have ho : openB a s r = false := by
     have e : openB a s r = !(((!rightB a s || decide (r < 0)) || decide ((a.mine.roads.l.length : Int) ≤ r)) || (a.mine.roads.l.getD r.toNat default).closed) := by
       simp only [openB, Bool.not_or, Bool.not_not]
       congr 3
       · exact (decide_not (p := r < 0)).symm.trans (decide_eq_decide.2 (by omega)) |>.symm
       · exact (decide_not (p := (a.mine.roads.l.length : Int) ≤ r)).symm.trans (decide_eq_decide.2 (by omega)) |>.symm
     rw [e]; simp only [Bool.not_eq_false', Bool.or_eq_true, decide_eq_true_eq, Bool.not_eq_true']; exact hc0
   refine CJ_seq (CJ_region ?_)
   refine LJ_q (yv_build (qs := []) (out := [_, _, _, _, _, _, _, _, _, _, _, _]) tb rfl rfl rfl rfl) rfl ?_
   refine LJ_storeW tb rfl rfl rfl rfl (by repeat (first | apply zu0 | apply zu1 | apply zu2)) (by rfl) (by rfl) ?_
   refine LJ_q (yv_assign (show _ = Value.bool _ from rfl)) rfl ?_
   refine LJ_nil (seqK_normal (CJ_ret (seqK_ret ?_)))
   refine retK_ret (L' := L) (R' := R) (res2 rfl (rv_cell (row := [_, _, _, _, _, _, _, _, _, _, _, _]) tb rfl rfl rfl (by repeat (first | exact zi0 | apply zi1 | apply zi2)) (by rfl) (by rfl)) (rv_tmp (show _ = Value.bool _ from rfl))) ?hp ?hL ?hR
   case hp => exact ⟨pipe0, [], by rw [ho]; rfl, fun h => absurd h (by rw [ho]; decide), rfl, rfl⟩
   case hL => exact (by repeat (first | exact zs0 _ | exact zs1 _ | apply zs2 | apply zs3 | apply zs4 | apply zs5))
   case hR => exact allR_self _
  ·
   try simp only [zb1, zb2, zb3, zb4, zb5, zb6, zb7, zb8] at hc0
   have ho : openB a s r = true := by
     simp only [openB, Bool.and_eq_true, decide_eq_true_eq, Bool.not_eq_true']
     obtain ⟨⟨⟨h1, h2⟩, h3⟩, h4⟩ := hc0
     exact ⟨⟨⟨by simpa using h1, by omega⟩, by omega⟩, h4⟩
   obtain ⟨ha, hf, hr, hcl⟩ := open_of ho
   refine CJ_skip (seqK_normal (CJ_seq (CJ_seq (CJ_region ?_))))
   refine LJ_q (yv_loadN (row := [_, _, _, _]) tb rfl rfl rfl (by repeat (first | exact zi0 | apply zi1 | apply zi2)) (by rfl) (by rfl)) rfl ?_
   refine LJ_q (yv_loadN (row := [_, _]) tb rfl rfl rfl (by repeat (first | exact zi0 | apply zi1 | apply zi2)) (by rfl) (by rfl)) rfl ?_
   refine LJ_call rfl (make_tri a s _ _ hm hs ha hf) rfl ?_
   rintro v L' R' ⟨n, rfl, hn, rfl, rfl⟩
   have hpp : InR (ppsl n.pipes) (ppsl n.pipes :: aasl n.at_ :: R) := inR_self (by simp)
   have hnl := hn.length
   have hnr := ha.mine.roads
   refine LJ_q (yv_fieldv (e := 90) tb rfl (by kernel_rfl) rfl rfl rfl rfl rfl) rfl ?_
   refine LJ_q (yv_len tb rfl rfl rfl) rfl ?_
   refine LJ_q (yv_move (show _ = Value.int _ _ from rfl)) rfl ?_
   refine LJ_nil (seqK_normal (CJ_block ?_))
   refine CJ_forget [(2, Value.int _ _), (6, Value.pointer _), (39, Value.slice _ _ _), (40, Value.int _ _), (41, Value.int _ _)] (by repeat' (first | exact trivial | refine And.intro rfl ?_)) fun tq0 => ?_
   refine CJ_loopS [7, 9, 41, 42, 43, 44, 45, 46, 47, 48, 49, 50] (fun g : {k : Nat // k ≤ n.pipes.l.length ∧ ∀ (j : Nat) (p : XPipe), j < k → n.pipes.l[j]? = some p → p.num ≠ r} => [(41, .int .i64 ((g.1 : Nat) : Int))]) (fun g => n.pipes.l.length - g.1) (⟨0, by omega, fun _ _ h => absurd h (by omega)⟩) (by repeat' (first | exact trivial | refine And.intro rfl ?_)) ?_
   rintro ⟨k, hk, hk2⟩ junk
   try dsimp only
   refine CJ_seq (CJ_region ?_)
   refine LJ_q (yv_lss rfl rfl) rfl ?_
   refine LJ_nil (seqK_normal (CJ_seq ?_))
   refine CJ_cond (show _ = Value.bool _ from rfl) (fun hc1 => ?_) (fun hc1 => ?_)
   ·
    try simp only [zb1, zb2, zb3, zb4, zb5, zb6, zb7, zb8] at hc1
    obtain ⟨p, hp⟩ := get_some (l := n.pipes.l) (k := k) (by omega)
    have hpi := hn.pipe p (List.mem_of_getElem? hp)
    refine CJ_skip (seqK_normal (CJ_seq (CJ_block (CJ_seq (CJ_region ?_)))))
    refine LJ_q (by first | exact yv_index_ro tb rfl rfl rfl rfl (by first | assumption | exact zr (by simp)) rfl (by omega) | exact yv_index tb rfl rfl rfl rfl rfl (by omega)) rfl ?_
    refine LJ_q (by first | exact yv_loadN_ro (row := [_, _, _, _, _, _, _, _, _, _, _, _]) tb rfl rfl rfl (by first | assumption | exact zr (by simp)) (by assumption) (by rfl) (by rfl) | exact yv_loadN (row := [_, _, _, _, _, _, _, _, _, _, _, _]) tb rfl rfl rfl (by repeat (first | exact zi0 | apply zi1 | apply zi2)) (by rfl) (by rfl)) rfl ?_
    refine LJ_alloc tb rfl rfl ?_
    intro b9
    refine LJ_storeW tb rfl rfl rfl rfl (by repeat (first | apply zu0 | apply zu1 | apply zu2)) (by rfl) (by rfl) ?_
    refine LJ_nil (seqK_normal (CJ_seq (CJ_region ?_)))
    refine LJ_q (yv_field tb rfl rfl rfl) rfl ?_
    refine LJ_q (yv_load1 tb rfl rfl rfl (by repeat (first | exact zi0 | apply zi1 | apply zi2)) (by rfl)) rfl ?_
    refine LJ_q (yv_move (show _ = Value.int _ _ from rfl)) rfl ?_
    refine LJ_q (yv_eql rfl rfl) rfl ?_
    refine LJ_nil (seqK_normal ?_)
    refine CJ_cond (show _ = Value.bool _ from rfl) (fun hc2 => ?_) (fun hc2 => ?_)
    ·
     try simp only [zb1, zb2, zb3, zb4, zb5, zb6, zb7, zb8] at hc2
     refine CJ_seq (CJ_region ?_)
     refine LJ_q (yv_loadN (row := [_, _, _, _, _, _, _, _, _, _, _, _]) tb rfl rfl rfl (by repeat (first | exact zi0 | apply zi1 | apply zi2)) (by rfl) (by rfl)) rfl ?_
     refine LJ_storeW tb rfl rfl rfl rfl (by repeat (first | apply zu0 | apply zu1 | apply zu2)) (by rfl) (by rfl) ?_
     refine LJ_q (yv_assign (show _ = Value.bool _ from rfl)) rfl ?_
     refine LJ_nil (seqK_normal (CJ_ret (blockK_ret (seqK_ret (loopK_ret (blockK_ret (seqK_ret ?_)))))))
     refine retK_ret (L' := L) (R' := ppsl n.pipes :: aasl n.at_ :: R) (res2 rfl (rv_cell (row := [_, _, _, _, _, _, _, _, _, _, _, _]) tb rfl rfl rfl (by repeat (first | exact zi0 | apply zi1 | apply zi2)) (by rfl) (by rfl)) (rv_tmp (show _ = Value.bool _ from rfl))) ?hp ?hL ?hR
     case hp => exact ⟨p, [ppsl n.pipes, aasl n.at_], by rw [ho], fun _ => ⟨by rw [hc2] at hpi; exact hpi, InR.pipe hpp hp⟩, rfl, rfl⟩
     case hL => exact (by repeat (first | exact zs0 _ | exact zs1 _ | apply zs2 | apply zs3 | apply zs4 | apply zs5))
     case hR => exact allR_self _
    ·
     try simp only [zb1, zb2, zb3, zb4, zb5, zb6, zb7, zb8] at hc2
     refine CJ_skip (blockK_normal (seqK_normal (CJ_region ?_)))
     refine LJ_q (by first | exact yv_add64 rfl rfl (by omega) (by omega) | exact yv_addU rfl rfl (by omega) (by omega) | exact yv_add rfl rfl) rfl ?_
     refine LJ_q (yv_move (show _ = Value.int _ _ from rfl)) rfl ?_
     refine LJ_nil ?_
     exact loopK_mk ⟨k + 1, by omega, fun j q hj hq => by rcases Nat.lt_or_eq_of_le (Nat.le_of_lt_succ hj) with h | h; exact hk2 j q h hq; subst h; rw [hp] at hq; cases hq; exact hc2⟩ (by repeat (first | exact Off.refl | apply Off.upd rfl | apply Off.havoc rfl | apply Off.updL rfl | apply Off.left rfl)) (by repeat' (first | exact trivial | refine And.intro rfl ?_)) (by repeat (first | exact zs0 _ | exact zs1 _ | apply zs2 | apply zs3 | apply zs4 | apply zs5)) (allR_self _) (by dsimp only; omega)
   ·
    try simp only [zb1, zb2, zb3, zb4, zb5, zb6, zb7, zb8] at hc1
    refine CJ_exit (seqK_exit (loopK_exit (blockK_exit (seqK_normal (CJ_seq ?_)))))
    obtain ⟨j, p, hj, hjr⟩ := hn.find hr hcl
    exact absurd hjr (hk2 j p (by have := (List.getElem?_eq_some_iff.1 hj).1; omega) hj)

theorem branchDrop_tri (a : XAir) (s : XSetting) (r q : Int) (L : List Blk) (R : List Sl) (hm : AirR a R) (hs : SetR s R) :
    Tri Try.prog 23 [a.val, s.val, .int .i64 r, .int .i64 q].toArray L R (fun v L' R' => v = (dropS a s r q).val ∧ L = L' ∧ R = R') := by
  refine tri_enter 32 Try.call23 Try.func23 rfl rfl rfl ?_
  refine CJ_seq (CJ_region ?_)
  refine LJ_boxN rfl rfl ?_
  intro b4
  refine LJ_boxN rfl rfl ?_
  intro b5
  refine LJ_alloc tb rfl rfl ?_
  intro b8
  refine LJ_nil (seqK_normal (CJ_seq (CJ_region ?_)))
  refine LJ_q (yv_loadN (row := [_, _, _, _]) tb rfl rfl rfl (by repeat (first | exact zi0 | apply zi1 | apply zi2)) (by rfl) (by rfl)) rfl ?_
  refine LJ_q (yv_loadN (row := [_, _]) tb rfl rfl rfl (by repeat (first | exact zi0 | apply zi1 | apply zi2)) (by rfl) (by rfl)) rfl ?_
  refine LJ_q (yv_move (show _ = Value.int _ _ from rfl)) rfl ?_
  refine LJ_call rfl (pipe_tri a s r _ _ hm hs) rfl ?_
  rintro v L' R' ⟨p, S, rfl, hp, rfl, rfl⟩
  refine LJ_q (yv_move rfl) rfl ?_
  refine LJ_q (yv_extract rfl rfl) rfl ?_
  refine LJ_q (yv_extract rfl rfl) rfl ?_
  refine LJ_alloc tb rfl rfl ?_
  intro b9
  refine LJ_storeW tb rfl rfl rfl rfl (by repeat (first | apply zu0 | apply zu1 | apply zu2)) (by rfl) (by rfl) ?_
  refine LJ_q (yv_assign (show _ = Value.bool _ from rfl)) rfl ?_
  refine LJ_nil (seqK_normal (CJ_seq (CJ_seq (CJ_region ?_))))
  refine LJ_q (yv_move (show _ = Value.bool _ from rfl)) rfl ?_
  refine LJ_q (yv_not rfl) rfl ?_
  refine LJ_q (yv_move (show _ = Value.bool _ from rfl)) rfl ?_
  apply LJ_or (G := [_, _]) (j := 2) (cj := 20) rfl rfl (by rfl) rfl (show _ = Value.bool _ from rfl) rfl
  ·
   intro hg3
   try simp only [zb1, zb2, zb3, zb4, zb5, zb6, zb7, zb8] at hg3
   refine LJ_q (yv_move (show _ = Value.int _ _ from rfl)) rfl ?_
   refine LJ_q (yv_lss rfl rfl) rfl ?_
   exact LJ_merge_end (show _ = Value.bool _ from rfl) (by repeat (first | exact Off.refl | apply Off.upd rfl | apply Off.havoc rfl | apply Off.updL rfl | apply Off.left rfl)) (by repeat (first | exact zs0 _ | exact zs1 _ | apply zs2 | apply zs3 | apply zs4 | apply zs5)) (by first | exact allR_self _ | exact fun r h => inR_self (by simp [h]))
  intro junk3
  refine LJ_q (yv_move (show _ = Value.bool _ from rfl)) rfl ?_
  apply LJ_or (G := [_, _]) (j := 6) (cj := 24) rfl rfl (by rfl) rfl (show _ = Value.bool _ from rfl) rfl
  ·
   intro hg7
   try simp only [zb1, zb2, zb3, zb4, zb5, zb6, zb7, zb8] at hg7
   refine LJ_q (yv_move (show _ = Value.int _ _ from rfl)) rfl ?_
   refine LJ_q (yv_gtr rfl rfl) rfl ?_
   exact LJ_merge_end (show _ = Value.bool _ from rfl) (by repeat (first | exact Off.refl | apply Off.upd rfl | apply Off.havoc rfl | apply Off.updL rfl | apply Off.left rfl)) (by repeat (first | exact zs0 _ | exact zs1 _ | apply zs2 | apply zs3 | apply zs4 | apply zs5)) (by first | exact allR_self _ | exact fun r h => inR_self (by simp [h]))
  intro junk7
  refine LJ_nil (seqK_normal ?_)
  refine CJ_cond (show _ = Value.bool _ from rfl) (fun hc0 => ?_) (fun hc0 => ?_)
  ·
   try simp only [zb1, zb2, zb3, zb4, zb5, zb6, zb7, zb8] at hc0
   refine CJ_seq (CJ_region ?_)
   refine LJ_q (yv_build (qs := []) (out := [_, _]) tb rfl rfl rfl rfl) rfl ?_
   refine LJ_storeW tb rfl rfl rfl rfl (by repeat (first | apply zu0 | apply zu1 | apply zu2)) (by rfl) (by rfl) ?_
   refine LJ_nil (seqK_normal (CJ_ret (seqK_ret ?_)))
   refine retK_ret (L' := L) (R' := R) (res1 rfl (rv_cell (row := [_, _]) tb rfl rfl rfl (by repeat (first | exact zi0 | apply zi1 | apply zi2)) (by rfl) (by rfl))) ?hp ?hL ?hR
   case hp => exact ⟨by rw [dropS, if_pos (by simpa [or_assoc] using hc0)], rfl, rfl⟩
   case hL => exact (by repeat (first | exact zs0 _ | exact zs1 _ | apply zs2 | apply zs3 | apply zs4 | apply zs5))
   case hR => exact fun r hr => inR_self (by simp [hr])
  ·
   try simp only [zb1, zb2, zb3, zb4, zb5, zb6, zb7, zb8] at hc0
   have ho : openB a s r = true := by simpa using hc0.1.1
   obtain ⟨ha, hf, hr, hcl⟩ := open_of ho
   obtain ⟨hpi, hpr⟩ := hp ho
   have hpo := pipeOk_of ha hr hpi
   refine CJ_skip (seqK_normal (CJ_seq (CJ_region ?_)))
   refine LJ_q (yv_loadN (row := [_, _, _, _, _, _, _, _, _, _, _, _]) tb rfl rfl rfl (by repeat (first | exact zi0 | apply zi1 | apply zi2)) (by rfl) (by rfl)) rfl ?_
   refine LJ_q (yv_move (show _ = Value.int _ _ from rfl)) rfl ?_
   refine LJ_call rfl (drop_tri p q _ _ hpr hpo (by omega)) rfl ?_
   rintro v L' R' ⟨rfl, rfl, rfl⟩
   refine LJ_storeW tb rfl rfl rfl rfl (by repeat (first | apply zu0 | apply zu1 | apply zu2)) (by rfl) (by rfl) ?_
   refine LJ_nil (seqK_normal (CJ_ret ?_))
   refine retK_ret (L' := L) (R' := R) (res1 rfl (rv_cell (row := [_, _]) tb rfl rfl rfl (by repeat (first | exact zi0 | apply zi1 | apply zi2)) (by rfl) (by rfl))) ?hp ?hL ?hR
   case hp => exact ⟨by rw [dropS, if_neg (by simpa [and_assoc] using hc0), dropP_eq hpi], rfl, rfl⟩
   case hL => exact (by repeat (first | exact zs0 _ | exact zs1 _ | apply zs2 | apply zs3 | apply zs4 | apply zs5))
   case hR => exact fun r hr => inR_self (by simp [hr])

theorem branchFlow_tri (a : XAir) (s : XSetting) (r pr : Int) (L : List Blk) (R : List Sl) (hm : AirR a R) (hs : SetR s R) :
    Tri Try.prog 25 [a.val, s.val, .int .i64 r, .int .i64 pr].toArray L R (fun v L' R' => v = (flowS a s r pr).val ∧ L = L' ∧ R = R') := by
  refine tri_enter 28 Try.call25 Try.func25 rfl rfl rfl ?_
  refine CJ_seq (CJ_region ?_)
  refine LJ_boxN rfl rfl ?_
  intro b4
  refine LJ_boxN rfl rfl ?_
  intro b5
  refine LJ_alloc tb rfl rfl ?_
  intro b8
  refine LJ_nil (seqK_normal (CJ_seq (CJ_region ?_)))
  refine LJ_q (yv_loadN (row := [_, _, _, _]) tb rfl rfl rfl (by repeat (first | exact zi0 | apply zi1 | apply zi2)) (by rfl) (by rfl)) rfl ?_
  refine LJ_q (yv_loadN (row := [_, _]) tb rfl rfl rfl (by repeat (first | exact zi0 | apply zi1 | apply zi2)) (by rfl) (by rfl)) rfl ?_
  refine LJ_q (yv_move (show _ = Value.int _ _ from rfl)) rfl ?_
  refine LJ_call rfl (pipe_tri a s r _ _ hm hs) rfl ?_
  rintro v L' R' ⟨p, S, rfl, hp, rfl, rfl⟩
  refine LJ_q (yv_move rfl) rfl ?_
  refine LJ_q (yv_extract rfl rfl) rfl ?_
  refine LJ_q (yv_extract rfl rfl) rfl ?_
  refine LJ_alloc tb rfl rfl ?_
  intro b9
  refine LJ_storeW tb rfl rfl rfl rfl (by repeat (first | apply zu0 | apply zu1 | apply zu2)) (by rfl) (by rfl) ?_
  refine LJ_q (yv_assign (show _ = Value.bool _ from rfl)) rfl ?_
  refine LJ_nil (seqK_normal (CJ_seq (CJ_seq (CJ_region ?_))))
  refine LJ_q (yv_move (show _ = Value.bool _ from rfl)) rfl ?_
  refine LJ_q (yv_not rfl) rfl ?_
  refine LJ_nil (seqK_normal ?_)
  refine CJ_cond (show _ = Value.bool _ from rfl) (fun hc0 => ?_) (fun hc0 => ?_)
  ·
   try simp only [zb1, zb2, zb3, zb4, zb5, zb6, zb7, zb8] at hc0
   refine CJ_seq (CJ_region ?_)
   refine LJ_q (yv_build (qs := []) (out := [_, _]) tb rfl rfl rfl rfl) rfl ?_
   refine LJ_storeW tb rfl rfl rfl rfl (by repeat (first | apply zu0 | apply zu1 | apply zu2)) (by rfl) (by rfl) ?_
   refine LJ_nil (seqK_normal (CJ_ret (seqK_ret ?_)))
   refine retK_ret (L' := L) (R' := R) (res1 rfl (rv_cell (row := [_, _]) tb rfl rfl rfl (by repeat (first | exact zi0 | apply zi1 | apply zi2)) (by rfl) (by rfl))) ?hp ?hL ?hR
   case hp => exact ⟨by rw [flowS, if_pos (by simpa using hc0)], rfl, rfl⟩
   case hL => exact (by repeat (first | exact zs0 _ | exact zs1 _ | apply zs2 | apply zs3 | apply zs4 | apply zs5))
   case hR => exact fun r hr => inR_self (by simp [hr])
  ·
   try simp only [zb1, zb2, zb3, zb4, zb5, zb6, zb7, zb8] at hc0
   have ho : openB a s r = true := by simpa using hc0
   obtain ⟨ha, hf, hr, hcl⟩ := open_of ho
   obtain ⟨hpi, hpr⟩ := hp ho
   have hpo := pipeOk_of ha hr hpi
   have hde : dropP p = innerS a s r := funext fun q => dropP_eq hpi q
   refine CJ_skip (seqK_normal (CJ_seq ?_))
   refine CJ_drawn2 tb [] [0, 1, 3, 4, 2, 5, 6] [7] (_) _ mixed (by kernel_rfl) (by repeat (first | exact zs0 _ | exact zs1 _ | apply zs2 | apply zs3 | apply zs4 | apply zs5)) (by (repeat (first | apply List.Sublist.cons (a := Blk.mk b8 _ _) | apply List.Sublist.cons_cons)); exact List.Sublist.refl _) ?_
   refine DJ3_q (yv_loadN (row := [_, _, _, _, _, _, _, _, _, _, _, _]) tb rfl rfl rfl (by repeat (first | exact zi0 | apply zi1 | apply zi2)) (by rfl) (by rfl)) rfl rfl rfl rfl ?_
   refine DJ3_q (yv_move (show _ = Value.int _ _ from rfl)) rfl rfl rfl rfl ?_
   refine DJ3_q (yv_loadN (row := [_, _, _, _, _, _, _, _, _, _, _, _]) tb rfl rfl rfl (by repeat (first | exact zi0 | apply zi1 | apply zi2)) (by rfl) (by rfl)) rfl rfl rfl rfl ?_
   refine DJ3_q (yv_move (show _ = Value.int _ _ from rfl)) rfl rfl rfl rfl ?_
   refine DJ3_call rfl (flowLow_tri p pr _ _ hpr hpo) rfl rfl ?_
   rintro v L' R' ⟨rfl, rfl, rfl⟩
   refine ⟨(by repeat (first | exact zs0 _ | exact zs1 _ | apply zs2 | apply zs3 | apply zs4 | apply zs5)), (by first | exact allR_self _ | exact (fun r h => inR_self (by simp [h]))), ?_⟩
   refine DJ3_call rfl (flowHigh_tri p pr _ _ hpr hpo) rfl rfl ?_
   rintro v L' R' ⟨rfl, rfl, rfl⟩
   refine ⟨(by repeat (first | exact zs0 _ | exact zs1 _ | apply zs2 | apply zs3 | apply zs4 | apply zs5)), (by first | exact allR_self _ | exact (fun r h => inR_self (by simp [h]))), ?_⟩
   refine DJ3_q (yv_build (qs := [(0, (Value.int _ _).cells.toList), (1, (Value.int _ _).cells.toList)]) (out := [_, _]) tb rfl rfl rfl rfl) rfl rfl rfl rfl ?_
   refine DJ3_phase ?_
   refine DJ_storeW rfl rfl rfl rfl (by repeat (first | apply zu0 | apply zu1 | apply zu2)) (by rfl) (by rfl) (by repeat (first | exact zs0 _ | exact zs1 _ | apply zs2 | apply zs3 | apply zs4 | apply zs5)) ?_
   refine DJ_nil (seqK_normal (CJ_ret ?_))
   refine retK_ret (L' := L) (R' := R) (res1 rfl (rv_cell (row := [_, _]) tb rfl rfl rfl (by repeat (first | exact zi0 | apply zi1 | apply zi2)) (by rfl) (by rfl))) ?hp ?hL ?hR
   case hp => exact ⟨by rw [flowS, if_neg (by rw [ho]; decide), hde], rfl, rfl⟩
   case hL => exact (by repeat (first | exact zs0 _ | exact zs1 _ | apply zs2 | apply zs3 | apply zs4 | apply zs5))
   case hR => exact fun r hr => inR_self (by simp [hr])

theorem fitsS_ten {a : XAir} {s : XSetting} {x : XState} (h0 : airErr a = 0) (h1 : fitB a s = true) (h2 : ¬ (x.pres.l.length ≠ a.mine.places.l.length ∨ x.flows.l.length ≠ a.mine.roads.l.length)) (h3 : x.pres.l.findSome? presBad = none) (h4 : x.flows.l.findSome? flowBad = none)
    (h : (∃ i, i < x.flows.l.length ∧ roadUnfit a s x i = some 10) ∨ (∃ v, v < x.pres.l.length ∧ placeUnfit a x (netTo a x x.flows.l.length) v = some 10)) : fitsS a s x = 10 := by
  have r10 : ∀ i e, roadUnfit a s x i = some e → e = 10 := fun i e he => by
    unfold roadUnfit at he
    dsimp only at he
    split at he
    · exact (Option.some.inj he).symm
    · cases he
  have p10 : ∀ net i e, placeUnfit a x net i = some e → e = 10 := fun net i e he => by
    unfold placeUnfit at he
    split at he
    · exact (Option.some.inj he).symm
    · cases he
  rw [fitsS_at h0 h1 h2, h3, h4]
  dsimp only
  split
  · rename_i e he
    obtain ⟨i, _, hi⟩ := List.exists_of_findSome?_eq_some he
    exact r10 i e hi
  · rename_i hn
    rcases h with ⟨i, hi, hb⟩ | ⟨v, hv, hb⟩
    · have := List.findSome?_eq_none_iff.1 hn i (List.mem_range.2 hi)
      rw [hb] at this; cases this
    · cases hf : (List.range x.pres.l.length).findSome? (placeUnfit a x (netTo a x x.flows.l.length)) with
      | none =>
        have := List.findSome?_eq_none_iff.1 hf v (List.mem_range.2 hv)
        rw [hb] at this; cases this
      | some e =>
        obtain ⟨i, _, hi⟩ := List.exists_of_findSome?_eq_some hf
        exact p10 _ i e hi

theorem fitsS_zero {a : XAir} {s : XSetting} {x : XState} (h0 : airErr a = 0) (h1 : fitB a s = true) (h2 : ¬ (x.pres.l.length ≠ a.mine.places.l.length ∨ x.flows.l.length ≠ a.mine.roads.l.length)) (h3 : x.pres.l.findSome? presBad = none) (h4 : x.flows.l.findSome? flowBad = none)
    (h5 : ∀ i, i < x.flows.l.length → roadUnfit a s x i = none) (h6 : ∀ v, v < x.pres.l.length → placeUnfit a x (netTo a x x.flows.l.length) v = none) : fitsS a s x = 0 := by
  have e1 : (List.range x.flows.l.length).findSome? (roadUnfit a s x) = none := List.findSome?_eq_none_iff.2 fun i hi => h5 i (List.mem_range.1 hi)
  have e2 : (List.range x.pres.l.length).findSome? (placeUnfit a x (netTo a x x.flows.l.length)) = none := List.findSome?_eq_none_iff.2 fun i hi => h6 i (List.mem_range.1 hi)
  rw [fitsS_at h0 h1 h2, h3, h4, e1, e2]
  rfl

theorem presBad_none {l : List Int} (h : l.findSome? presBad = none) : ∀ (i : Nat) (p : Int), l[i]? = some p → -70368744177664 ≤ p ∧ p ≤ 70368744177664 := fun i p hp => by
  have := List.findSome?_eq_none_iff.1 h p (List.mem_of_getElem? hp)
  unfold presBad at this
  split at this
  · cases this
  · omega
theorem flowBad_none {l : List Int} (h : l.findSome? flowBad = none) : ∀ (i : Nat) (q : Int), l[i]? = some q → -1048576 ≤ q ∧ q ≤ 1048576 := fun i q hq => by
  have := List.findSome?_eq_none_iff.1 h q (List.mem_of_getElem? hq)
  unfold flowBad at this
  split at this
  · cases this
  · omega

theorem branchFits_tri (a : XAir) (s : XSetting) (x : XState) (L : List Blk) (R : List Sl) (hm : AirR a R) (hs : SetR s R) (hx : StateR x R) :
    Tri Try.prog 27 [a.val, s.val, x.val].toArray L R (fun v L' R' => v = .int .i64 (fitsS a s x) ∧ L = L' ∧ R = R') := by
  have hmp := hm.places
  have hmr := hm.roads
  have hxp := hx.pres
  have hxf := hx.flows
  refine Tri_len Try.call27 hxp fun hpn => ?_
  refine Tri_len Try.call27 hxf fun hfn => ?_
  refine tri_enter 200 Try.call27 Try.func27 rfl rfl rfl ?_
  refine CJ_seq (CJ_region ?_)
  refine LJ_boxN rfl rfl ?_
  intro b3
  refine LJ_boxN rfl rfl ?_
  intro b4
  refine LJ_boxN rfl rfl ?_
  intro b5
  refine LJ_q (yv_assign (show _ = Value.int _ _ from rfl)) rfl ?_
  refine LJ_nil (seqK_normal (CJ_seq (CJ_seq (CJ_region ?_))))
  refine LJ_q (yv_loadN (row := [_, _, _, _]) tb rfl rfl rfl (by repeat (first | exact zi0 | apply zi1 | apply zi2)) (by rfl) (by rfl)) rfl ?_
  refine LJ_call rfl (branchCheck_tri a _ _ hm) rfl ?_
  rintro v L' R' ⟨rfl, rfl, rfl⟩
  refine LJ_q (yv_assign (show _ = Value.int _ _ from rfl)) rfl ?_
  refine LJ_nil (seqK_normal (CJ_seq (CJ_region ?_)))
  refine LJ_q (yv_move (show _ = Value.int _ _ from rfl)) rfl ?_
  refine LJ_q (yv_neq rfl rfl) rfl ?_
  refine LJ_nil (seqK_normal ?_)
  refine CJ_cond (show _ = Value.bool _ from rfl) (fun hc0 => ?_) (fun hc0 => ?_)
  ·
   try simp only [zb1, zb2, zb3, zb4, zb5, zb6, zb7, zb8] at hc0
   refine CJ_seq (CJ_region ?_)
   refine LJ_q (yv_move (show _ = Value.int _ _ from rfl)) rfl ?_
   refine LJ_q (yv_assign (show _ = Value.int _ _ from rfl)) rfl ?_
   refine LJ_nil (seqK_normal (CJ_ret (seqK_ret ?_)))
   refine retK_ret (L' := L) (R' := R) (res1 rfl (rv_tmp (show _ = Value.int _ _ from rfl))) ?hp ?hL ?hR
   case hp => exact ⟨by rw [fitsS, if_pos hc0], rfl, rfl⟩
   case hL => exact (by repeat (first | exact zs0 _ | exact zs1 _ | apply zs2 | apply zs3 | apply zs4 | apply zs5))
   case hR => exact allR_self _
  ·
   try simp only [zb1, zb2, zb3, zb4, zb5, zb6, zb7, zb8] at hc0
   simp only [Decidable.not_not] at hc0
   refine CJ_skip (seqK_normal (CJ_seq (CJ_seq (CJ_region ?_))))
   refine LJ_q (yv_loadN (row := [_, _, _, _]) tb rfl rfl rfl (by repeat (first | exact zi0 | apply zi1 | apply zi2)) (by rfl) (by rfl)) rfl ?_
   refine LJ_q (yv_loadN (row := [_, _]) tb rfl rfl rfl (by repeat (first | exact zi0 | apply zi1 | apply zi2)) (by rfl) (by rfl)) rfl ?_
   refine LJ_call rfl (fitting_tri a s _ _ hm hs) rfl ?_
   rintro v L' R' ⟨rfl, rfl, rfl⟩
   refine LJ_q (yv_not rfl) rfl ?_
   refine LJ_nil (seqK_normal ?_)
   refine CJ_cond (show _ = Value.bool _ from rfl) (fun hc1 => ?_) (fun hc1 => ?_)
   ·
    try simp only [zb1, zb2, zb3, zb4, zb5, zb6, zb7, zb8] at hc1
    refine CJ_seq (CJ_region ?_)
    refine LJ_q (yv_assign (show _ = Value.int _ _ from rfl)) rfl ?_
    refine LJ_nil (seqK_normal (CJ_ret (seqK_ret ?_)))
    refine retK_ret (L' := L) (R' := R) (res1 rfl (rv_tmp (show _ = Value.int _ _ from rfl))) ?hp ?hL ?hR
    case hp => exact ⟨by rw [fitsS, if_neg (by simp [hc0]), if_pos hc1], rfl, rfl⟩
    case hL => exact (by repeat (first | exact zs0 _ | exact zs1 _ | apply zs2 | apply zs3 | apply zs4 | apply zs5))
    case hR => exact allR_self _
   ·
    try simp only [zb1, zb2, zb3, zb4, zb5, zb6, zb7, zb8] at hc1
    have hfb : fitB a s = true := by simpa using hc1
    have ha := airOk_of hc0
    have hf := fitOk_of hfb
    have hap := ha.mine.places
    have har := ha.mine.roads
    refine CJ_skip (seqK_normal (CJ_seq (CJ_seq (CJ_region ?_))))
    refine LJ_q (yv_field tb rfl rfl rfl) rfl ?_
    refine LJ_q (yv_load1 tb rfl rfl rfl (by repeat (first | exact zi0 | apply zi1 | apply zi2)) (by rfl)) rfl ?_
    refine LJ_q (yv_len tb rfl rfl rfl) rfl ?_
    refine LJ_q (yv_field tb rfl rfl rfl) rfl ?_
    refine LJ_q (yv_field tb rfl rfl rfl) rfl ?_
    refine LJ_q (yv_load1 tb rfl rfl rfl (by repeat (first | exact zi0 | apply zi1 | apply zi2)) (by rfl)) rfl ?_
    refine LJ_q (yv_len tb rfl rfl rfl) rfl ?_
    refine LJ_q (yv_neq rfl rfl) rfl ?_
    refine LJ_q (yv_move (show _ = Value.bool _ from rfl)) rfl ?_
    apply LJ_or (G := [_, _, _, _, _, _, _, _]) (j := 8) (cj := 38) rfl rfl (by rfl) rfl (show _ = Value.bool _ from rfl) rfl
    ·
     intro hg9
     try simp only [zb1, zb2, zb3, zb4, zb5, zb6, zb7, zb8] at hg9
     refine LJ_q (yv_field tb rfl rfl rfl) rfl ?_
     refine LJ_q (yv_load1 tb rfl rfl rfl (by repeat (first | exact zi0 | apply zi1 | apply zi2)) (by rfl)) rfl ?_
     refine LJ_q (yv_len tb rfl rfl rfl) rfl ?_
     refine LJ_q (yv_field tb rfl rfl rfl) rfl ?_
     refine LJ_q (yv_field tb rfl rfl rfl) rfl ?_
     refine LJ_q (yv_load1 tb rfl rfl rfl (by repeat (first | exact zi0 | apply zi1 | apply zi2)) (by rfl)) rfl ?_
     refine LJ_q (yv_len tb rfl rfl rfl) rfl ?_
     refine LJ_q (yv_neq rfl rfl) rfl ?_
     exact LJ_merge_end (show _ = Value.bool _ from rfl) (by repeat (first | exact Off.refl | apply Off.upd rfl | apply Off.havoc rfl | apply Off.updL rfl | apply Off.left rfl)) (by repeat (first | exact zs0 _ | exact zs1 _ | apply zs2 | apply zs3 | apply zs4 | apply zs5)) (by first | exact allR_self _ | exact fun r h => inR_self (by simp [h]))
    intro junk9
    refine LJ_nil (seqK_normal ?_)
    refine CJ_cond (show _ = Value.bool _ from rfl) (fun hc2 => ?_) (fun hc2 => ?_)
    ·
     try simp only [zb1, zb2, zb3, zb4, zb5, zb6, zb7, zb8] at hc2
     refine CJ_seq (CJ_region ?_)
     refine LJ_q (yv_assign (show _ = Value.int _ _ from rfl)) rfl ?_
     refine LJ_nil (seqK_normal (CJ_ret (seqK_ret ?_)))
     refine retK_ret (L' := L) (R' := R) (res1 rfl (rv_tmp (show _ = Value.int _ _ from rfl))) ?hp ?hL ?hR
     case hp => exact ⟨by rw [fitsS, if_neg (by simp [hc0]), if_neg (by simp [hfb]), if_pos (by omega)], rfl, rfl⟩
     case hL => exact (by repeat (first | exact zs0 _ | exact zs1 _ | apply zs2 | apply zs3 | apply zs4 | apply zs5))
     case hR => exact allR_self _
    ·
     try simp only [zb1, zb2, zb3, zb4, zb5, zb6, zb7, zb8] at hc2
     have hll : ¬ (x.pres.l.length ≠ a.mine.places.l.length ∨ x.flows.l.length ≠ a.mine.roads.l.length) := by omega
     have hfa := fitsS_at (s := s) hc0 hfb hll
     refine CJ_skip (seqK_normal (CJ_seq (CJ_seq (CJ_region ?_))))
     refine LJ_q (yv_field tb rfl rfl rfl) rfl ?_
     refine LJ_q (yv_load1 tb rfl rfl rfl (by repeat (first | exact zi0 | apply zi1 | apply zi2)) (by rfl)) rfl ?_
     refine LJ_q (yv_len tb rfl rfl rfl) rfl ?_
     refine LJ_q (yv_move (show _ = Value.int _ _ from rfl)) rfl ?_
     refine LJ_nil (seqK_normal (CJ_block ?_))
     refine CJ_forget [(3, Value.pointer _), (4, Value.pointer _), (5, Value.pointer _), (49, Value.slice _ _ _), (50, Value.int _ _), (51, Value.int _ _)] (by repeat' (first | exact trivial | refine And.intro rfl ?_)) fun tq0 => ?_
     refine CJ_loopS [6, 9, 51, 52, 53, 54, 55, 56, 57, 58, 59, 60, 61] (fun g : FS (presBad) (x.pres.l) => [(51, .int .i64 ((g.1 : Nat) : Int))]) (fun g => (x.pres.l).length - g.1) ⟨0, FS_zero _ _⟩ (by repeat' (first | exact trivial | refine And.intro rfl ?_)) ?_
     rintro ⟨k0, hk0, hp0⟩ junk
     try dsimp only
     refine CJ_seq (CJ_region ?_)
     refine LJ_q (yv_lss rfl rfl) rfl ?_
     refine LJ_nil (seqK_normal (CJ_seq ?_))
     refine CJ_cond (show _ = Value.bool _ from rfl) (fun hc3 => ?_) (fun hc3 => ?_)
     ·
      try simp only [zb1, zb2, zb3, zb4, zb5, zb6, zb7, zb8] at hc3
      obtain ⟨p, hp⟩ := get_some (l := x.pres.l) (k := k0) (by omega)
      refine CJ_skip (seqK_normal (CJ_seq (CJ_block (CJ_seq (CJ_region ?_)))))
      refine LJ_q (by first | exact yv_index_ro tb rfl rfl rfl rfl (by first | assumption | exact zr (by simp)) rfl (by omega) | exact yv_index tb rfl rfl rfl rfl rfl (by omega)) rfl ?_
      refine LJ_q (by first | exact yv_load1_ro tb rfl rfl rfl (by first | assumption | exact zr (by simp)) (by assumption) (by rfl) | exact yv_load1 tb rfl rfl rfl (by repeat (first | exact zi0 | apply zi1 | apply zi2)) (by rfl) | exact yv_load1 tb rfl rfl rfl (by repeat (first | exact zi0 | apply zi1 | apply zi2)) (icell_get (by assumption)) | exact yv_load1 tb rfl rfl rfl (by repeat (first | exact zi0 | apply zi1 | apply zi2)) (rcell_get (fun _ => rfl) (by assumption) rfl)) rfl ?_
      refine LJ_q (yv_assign (show _ = Value.int _ _ from rfl)) rfl ?_
      refine LJ_nil (seqK_normal (CJ_seq (CJ_region ?_)))
      refine LJ_q (yv_move (show _ = Value.int _ _ from rfl)) rfl ?_
      refine LJ_q (yv_lss rfl rfl) rfl ?_
      refine LJ_q (yv_move (show _ = Value.bool _ from rfl)) rfl ?_
      apply LJ_or (G := [_, _]) (j := 2) (cj := 57) rfl rfl (by rfl) rfl (show _ = Value.bool _ from rfl) rfl
      ·
       intro hg3
       try simp only [zb1, zb2, zb3, zb4, zb5, zb6, zb7, zb8] at hg3
       refine LJ_q (yv_move (show _ = Value.int _ _ from rfl)) rfl ?_
       refine LJ_q (yv_gtr rfl rfl) rfl ?_
       exact LJ_merge_end (show _ = Value.bool _ from rfl) (by repeat (first | exact Off.refl | apply Off.upd rfl | apply Off.havoc rfl | apply Off.updL rfl | apply Off.left rfl)) (by repeat (first | exact zs0 _ | exact zs1 _ | apply zs2 | apply zs3 | apply zs4 | apply zs5)) (by first | exact allR_self _ | exact fun r h => inR_self (by simp [h]))
      intro junk3
      refine LJ_nil (seqK_normal ?_)
      refine CJ_cond (show _ = Value.bool _ from rfl) (fun hc4 => ?_) (fun hc4 => ?_)
      ·
       try simp only [zb1, zb2, zb3, zb4, zb5, zb6, zb7, zb8] at hc4
       refine CJ_seq (CJ_region ?_)
       refine LJ_q (yv_assign (show _ = Value.int _ _ from rfl)) rfl ?_
       refine LJ_nil (seqK_normal (CJ_ret (blockK_ret (seqK_ret (loopK_ret (blockK_ret (seqK_ret ?_)))))))
       refine retK_ret (L' := L) (R' := R) (res1 rfl (rv_tmp (show _ = Value.int _ _ from rfl))) ?hp ?hL ?hR
       case hp => exact ⟨by rw [hfa, FS_some hp0 hp (if_pos (by omega))], rfl, rfl⟩
       case hL => exact (by repeat (first | exact zs0 _ | exact zs1 _ | apply zs2 | apply zs3 | apply zs4 | apply zs5))
       case hR => exact allR_self _
      ·
       try simp only [zb1, zb2, zb3, zb4, zb5, zb6, zb7, zb8] at hc4
       refine CJ_skip (blockK_normal (seqK_normal (CJ_region ?_)))
       refine LJ_q (by first | exact yv_add64 rfl rfl (by omega) (by omega) | exact yv_addU rfl rfl (by omega) (by omega) | exact yv_add rfl rfl) rfl ?_
       refine LJ_q (yv_move (show _ = Value.int _ _ from rfl)) rfl ?_
       refine LJ_nil ?_
       exact loopK_mk ⟨k0 + 1, FS_next hp0 hp (if_neg (by omega))⟩ (by repeat (first | exact Off.refl | apply Off.upd rfl | apply Off.havoc rfl | apply Off.updL rfl | apply Off.left rfl)) (by repeat' (first | exact trivial | refine And.intro rfl ?_)) (by repeat (first | exact zs0 _ | exact zs1 _ | apply zs2 | apply zs3 | apply zs4 | apply zs5)) (allR_self _) (by dsimp only; omega)
     ·
      try simp only [zb1, zb2, zb3, zb4, zb5, zb6, zb7, zb8] at hc3
      have hn0 := FS_none hp0 (by omega)
      refine CJ_exit (seqK_exit (loopK_exit (blockK_exit (seqK_normal (CJ_seq (CJ_seq (CJ_region ?_)))))))
      refine LJ_q (yv_field tb rfl rfl rfl) rfl ?_
      refine LJ_q (yv_load1 tb rfl rfl rfl (by repeat (first | exact zi0 | apply zi1 | apply zi2)) (by rfl)) rfl ?_
      refine LJ_q (yv_len tb rfl rfl rfl) rfl ?_
      refine LJ_q (yv_move (show _ = Value.int _ _ from rfl)) rfl ?_
      refine LJ_nil (seqK_normal (CJ_block ?_))
      refine CJ_forget [(3, Value.pointer _), (4, Value.pointer _), (5, Value.pointer _), (63, Value.slice _ _ _), (64, Value.int _ _), (65, Value.int _ _)] (by repeat' (first | exact trivial | refine And.intro rfl ?_)) fun tq1 => ?_
      refine CJ_loopS [6, 11, 65, 66, 67, 68, 69, 70, 71, 72, 73, 74, 75] (fun g : FS (flowBad) (x.flows.l) => [(65, .int .i64 ((g.1 : Nat) : Int))]) (fun g => (x.flows.l).length - g.1) ⟨0, FS_zero _ _⟩ (by repeat' (first | exact trivial | refine And.intro rfl ?_)) ?_
      rintro ⟨k1, hk1, hp1⟩ junk
      try dsimp only
      refine CJ_seq (CJ_region ?_)
      refine LJ_q (yv_lss rfl rfl) rfl ?_
      refine LJ_nil (seqK_normal (CJ_seq ?_))
      refine CJ_cond (show _ = Value.bool _ from rfl) (fun hc5 => ?_) (fun hc5 => ?_)
      ·
       try simp only [zb1, zb2, zb3, zb4, zb5, zb6, zb7, zb8] at hc5
       obtain ⟨q, hq⟩ := get_some (l := x.flows.l) (k := k1) (by omega)
       refine CJ_skip (seqK_normal (CJ_seq (CJ_block (CJ_seq (CJ_region ?_)))))
       refine LJ_q (by first | exact yv_index_ro tb rfl rfl rfl rfl (by first | assumption | exact zr (by simp)) rfl (by omega) | exact yv_index tb rfl rfl rfl rfl rfl (by omega)) rfl ?_
       refine LJ_q (by first | exact yv_load1_ro tb rfl rfl rfl (by first | assumption | exact zr (by simp)) (by assumption) (by rfl) | exact yv_load1 tb rfl rfl rfl (by repeat (first | exact zi0 | apply zi1 | apply zi2)) (by rfl) | exact yv_load1 tb rfl rfl rfl (by repeat (first | exact zi0 | apply zi1 | apply zi2)) (icell_get (by assumption)) | exact yv_load1 tb rfl rfl rfl (by repeat (first | exact zi0 | apply zi1 | apply zi2)) (rcell_get (fun _ => rfl) (by assumption) rfl)) rfl ?_
       refine LJ_q (yv_assign (show _ = Value.int _ _ from rfl)) rfl ?_
       refine LJ_nil (seqK_normal (CJ_seq (CJ_region ?_)))
       refine LJ_q (yv_move (show _ = Value.int _ _ from rfl)) rfl ?_
       refine LJ_q (yv_lss rfl rfl) rfl ?_
       refine LJ_q (yv_move (show _ = Value.bool _ from rfl)) rfl ?_
       apply LJ_or (G := [_, _]) (j := 2) (cj := 71) rfl rfl (by rfl) rfl (show _ = Value.bool _ from rfl) rfl
       ·
        intro hg3
        try simp only [zb1, zb2, zb3, zb4, zb5, zb6, zb7, zb8] at hg3
        refine LJ_q (yv_move (show _ = Value.int _ _ from rfl)) rfl ?_
        refine LJ_q (yv_gtr rfl rfl) rfl ?_
        exact LJ_merge_end (show _ = Value.bool _ from rfl) (by repeat (first | exact Off.refl | apply Off.upd rfl | apply Off.havoc rfl | apply Off.updL rfl | apply Off.left rfl)) (by repeat (first | exact zs0 _ | exact zs1 _ | apply zs2 | apply zs3 | apply zs4 | apply zs5)) (by first | exact allR_self _ | exact fun r h => inR_self (by simp [h]))
       intro junk3
       refine LJ_nil (seqK_normal ?_)
       refine CJ_cond (show _ = Value.bool _ from rfl) (fun hc6 => ?_) (fun hc6 => ?_)
       ·
        try simp only [zb1, zb2, zb3, zb4, zb5, zb6, zb7, zb8] at hc6
        refine CJ_seq (CJ_region ?_)
        refine LJ_q (yv_assign (show _ = Value.int _ _ from rfl)) rfl ?_
        refine LJ_nil (seqK_normal (CJ_ret (blockK_ret (seqK_ret (loopK_ret (blockK_ret (seqK_ret ?_)))))))
        refine retK_ret (L' := L) (R' := R) (res1 rfl (rv_tmp (show _ = Value.int _ _ from rfl))) ?hp ?hL ?hR
        case hp => exact ⟨by rw [hfa, hn0, FS_some hp1 hq (if_pos (by omega))], rfl, rfl⟩
        case hL => exact (by repeat (first | exact zs0 _ | exact zs1 _ | apply zs2 | apply zs3 | apply zs4 | apply zs5))
        case hR => exact allR_self _
       ·
        try simp only [zb1, zb2, zb3, zb4, zb5, zb6, zb7, zb8] at hc6
        refine CJ_skip (blockK_normal (seqK_normal (CJ_region ?_)))
        refine LJ_q (by first | exact yv_add64 rfl rfl (by omega) (by omega) | exact yv_addU rfl rfl (by omega) (by omega) | exact yv_add rfl rfl) rfl ?_
        refine LJ_q (yv_move (show _ = Value.int _ _ from rfl)) rfl ?_
        refine LJ_nil ?_
        exact loopK_mk ⟨k1 + 1, FS_next hp1 hq (if_neg (by omega))⟩ (by repeat (first | exact Off.refl | apply Off.upd rfl | apply Off.havoc rfl | apply Off.updL rfl | apply Off.left rfl)) (by repeat' (first | exact trivial | refine And.intro rfl ?_)) (by repeat (first | exact zs0 _ | exact zs1 _ | apply zs2 | apply zs3 | apply zs4 | apply zs5)) (allR_self _) (by dsimp only; omega)
      ·
       try simp only [zb1, zb2, zb3, zb4, zb5, zb6, zb7, zb8] at hc5
       have hn1 := FS_none hp1 (by omega)
       have hpb := presBad_none hn0
       have hqb := flowBad_none hn1
       refine CJ_exit (seqK_exit (loopK_exit (blockK_exit (seqK_normal (CJ_seq (CJ_region ?_))))))
       refine LJ_q (yv_field tb rfl rfl rfl) rfl ?_
       refine LJ_q (yv_field tb rfl rfl rfl) rfl ?_
       refine LJ_q (yv_load1 tb rfl rfl rfl (by repeat (first | exact zi0 | apply zi1 | apply zi2)) (by rfl)) rfl ?_
       refine LJ_q (yv_len tb rfl rfl rfl) rfl ?_
       refine LJ_g (gives_makeSlice tb rfl rfl rfl rfl rfl rfl rfl (by omega) (by omega)) rfl ?_
       rintro v L' R' ⟨b80, rfl, rfl, hR80⟩
       replace hR80 := hR80.symm; subst hR80
       refine LJ_q (yv_assign (show _ = Value.slice _ _ _ from rfl)) rfl ?_
       refine LJ_nil (seqK_normal (CJ_seq (CJ_seq ?_)))
       rw [zrep_int]
       refine CJ_region ?_
       refine LJ_q (yv_field tb rfl rfl rfl) rfl ?_
       refine LJ_q (yv_field tb rfl rfl rfl) rfl ?_
       refine LJ_q (yv_load1 tb rfl rfl rfl (by repeat (first | exact zi0 | apply zi1 | apply zi2)) (by rfl)) rfl ?_
       refine LJ_q (yv_len tb rfl rfl rfl) rfl ?_
       refine LJ_q (yv_move (show _ = Value.int _ _ from rfl)) rfl ?_
       refine LJ_nil (seqK_normal (CJ_block ?_))
       refine CJ_forget [(3, Value.pointer _), (4, Value.pointer _), (5, Value.pointer _), (12, Value.slice _ _ _), (83, Value.slice _ _ _), (84, Value.int _ _), (85, Value.int _ _)] (by repeat' (first | exact trivial | refine And.intro rfl ?_)) fun tq2 => ?_
       refine CJ_loop [6, 13, 14, 85, 86, 87, 88, 89, 90, 91, 92, 93, 94, 95, 96, 97, 98, 99, 100, 101, 102, 103, 104, 105, 106, 107, 108, 109, 110, 111, 112, 113, 114, 115, 116, 117, 118, 119, 120, 121, 122, 123, 124] ((⟨fun g => [(85, .int .i64 ((g.1 : Nat) : Int))], fun g => ⟨b80, ints (netTo a x g.1), 3⟩ :: ⟨b5, x.cells, 37⟩ :: ⟨b4, s.cells, 33⟩ :: ⟨b3, a.cells, 30⟩ :: L, fun _ => R, fun g => a.mine.roads.l.length - g.1⟩ : Head {k : Nat // k ≤ a.mine.roads.l.length ∧ ∀ i, i < k → (a.mine.roads.l.getD i default).closed = true → x.flows.l.getD i 0 = 0})) (⟨0, by omega, fun _ h => absurd h (by omega)⟩) (by repeat' (first | exact trivial | refine And.intro rfl ?_)) (by dsimp only; rw [netTo, show x.pres.l.length = a.mine.places.l.length by omega]; exact List.Sublist.refl _) (allR_self _) ?_
       rintro ⟨k2, hk2, hz2⟩ junk
       try dsimp only
       refine CJ_seq (CJ_region ?_)
       refine LJ_q (yv_lss rfl rfl) rfl ?_
       refine LJ_nil (seqK_normal (CJ_seq ?_))
       refine CJ_cond (show _ = Value.bool _ from rfl) (fun hc7 => ?_) (fun hc7 => ?_)
       ·
        try simp only [zb1, zb2, zb3, zb4, zb5, zb6, zb7, zb8] at hc7
        have hro := get_D (l := a.mine.roads.l) (k := k2) default (by omega)
        have hfl := get_D (l := x.flows.l) (k := k2) 0 (by omega)
        have hrk := ha.mine.road _ _ hro
        have hr1 := hrk.fr
        have hr2 := hrk.to
        have hqk := hqb _ _ hfl
        have hnl := netTo_length a x k2
        have hg1 := get_D (l := netTo a x k2) (k := (a.mine.roads.l.getD k2 default).fr.toNat) 0 (by omega)
        have hg1b := netTo_bounds hqb k2 (by omega) _ _ hg1
        refine CJ_skip (seqK_normal (CJ_seq (CJ_block (CJ_seq (CJ_region ?_)))))
        refine LJ_q (yv_move (show _ = Value.int _ _ from rfl)) rfl ?_
        refine LJ_q (by first | exact yv_index_ro tb rfl rfl rfl rfl (by first | assumption | exact zr (by simp)) rfl (by omega) | exact yv_index tb rfl rfl rfl rfl rfl (by omega)) rfl ?_
        refine LJ_q (by first | exact yv_loadN_ro (row := [_, _, _, _, _, _, _, _, _, _]) tb rfl rfl rfl (by first | assumption | exact zr (by simp)) (by assumption) (by rfl) (by rfl) | exact yv_loadN (row := [_, _, _, _, _, _, _, _, _, _]) tb rfl rfl rfl (by repeat (first | exact zi0 | apply zi1 | apply zi2)) (by rfl) (by rfl)) rfl ?_
        refine LJ_alloc tb rfl rfl ?_
        intro b14
        refine LJ_q (yv_assign (show _ = Value.int _ _ from rfl)) rfl ?_
        refine LJ_storeW tb rfl rfl rfl rfl (by repeat (first | apply zu0 | apply zu1 | apply zu2)) (by rfl) (by rfl) ?_
        refine LJ_nil (seqK_normal (CJ_seq (CJ_seq (CJ_region ?_))))
        refine LJ_q (yv_field tb rfl rfl rfl) rfl ?_
        refine LJ_q (yv_load1 tb rfl rfl rfl (by repeat (first | exact zi0 | apply zi1 | apply zi2)) (by rfl)) rfl ?_
        refine LJ_q (yv_move (show _ = Value.bool _ from rfl)) rfl ?_
        apply LJ_and (G := [_, _, _, _, _, _]) (j := 2) (cj := 92) rfl rfl (by rfl) rfl (show _ = Value.bool _ from rfl) rfl
        ·
         intro hg3
         try simp only [zb1, zb2, zb3, zb4, zb5, zb6, zb7, zb8] at hg3
         refine LJ_q (yv_field tb rfl rfl rfl) rfl ?_
         refine LJ_q (yv_load1 tb rfl rfl rfl (by repeat (first | exact zi0 | apply zi1 | apply zi2)) (by rfl)) rfl ?_
         refine LJ_q (yv_move (show _ = Value.int _ _ from rfl)) rfl ?_
         refine LJ_q (by first | exact yv_index_ro tb rfl rfl rfl rfl (by first | assumption | exact zr (by simp)) rfl (by omega) | exact yv_index tb rfl rfl rfl rfl rfl (by omega)) rfl ?_
         refine LJ_q (by first | exact yv_load1_ro tb rfl rfl rfl (by first | assumption | exact zr (by simp)) (by assumption) (by rfl) | exact yv_load1 tb rfl rfl rfl (by repeat (first | exact zi0 | apply zi1 | apply zi2)) (by rfl) | exact yv_load1 tb rfl rfl rfl (by repeat (first | exact zi0 | apply zi1 | apply zi2)) (icell_get (by assumption)) | exact yv_load1 tb rfl rfl rfl (by repeat (first | exact zi0 | apply zi1 | apply zi2)) (rcell_get (fun _ => rfl) (by assumption) rfl)) rfl ?_
         refine LJ_q (yv_neq rfl rfl) rfl ?_
         exact LJ_merge_end (show _ = Value.bool _ from rfl) (by repeat (first | exact Off.refl | apply Off.upd rfl | apply Off.havoc rfl | apply Off.updL rfl | apply Off.left rfl)) (by repeat (first | exact zs0 _ | exact zs1 _ | apply zs2 | apply zs3 | apply zs4 | apply zs5)) (by first | exact allR_self _ | exact fun r h => inR_self (by simp [h]))
        intro junk3
        refine LJ_nil (seqK_normal ?_)
        refine CJ_cond (show _ = Value.bool _ from rfl) (fun hc8 => ?_) (fun hc8 => ?_)
        ·
         try simp only [zb1, zb2, zb3, zb4, zb5, zb6, zb7, zb8] at hc8
         refine CJ_seq (CJ_region ?_)
         refine LJ_q (yv_assign (show _ = Value.int _ _ from rfl)) rfl ?_
         refine LJ_nil (seqK_normal (CJ_ret (seqK_ret (blockK_ret (seqK_ret (loopK_ret (blockK_ret (seqK_ret ?_))))))))
         refine retK_ret (L' := L) (R' := R) (res1 rfl (rv_tmp (show _ = Value.int _ _ from rfl))) ?hp ?hL ?hR
         case hp => exact ⟨by rw [fitsS_ten hc0 hfb hll hn0 hn1 (.inl ⟨k2, by omega, if_pos (.inl hc8)⟩)], rfl, rfl⟩
         case hL => exact (by repeat (first | exact zs0 _ | exact zs1 _ | apply zs2 | apply zs3 | apply zs4 | apply zs5))
         case hR => exact allR_self _
        ·
         try simp only [zb1, zb2, zb3, zb4, zb5, zb6, zb7, zb8] at hc8
         refine CJ_skip (seqK_normal (CJ_seq ?_))
         refine CJ_drawn2 tb [] [0, 1, 2, 3, 4, 5, 6, 7, 8, 9, 10, 11] [12] (_) _ mixed (by kernel_rfl) (by repeat (first | exact zs0 _ | exact zs1 _ | apply zs2 | apply zs3 | apply zs4 | apply zs5)) (by (repeat (first | apply List.Sublist.cons (a := Blk.mk b80 _ _) | apply List.Sublist.cons_cons)); exact List.Sublist.refl _) ?_
         refine DJ3_q (yv_move (show _ = Value.slice _ _ _ from rfl)) rfl rfl rfl rfl ?_
         refine DJ3_q (yv_field tb rfl rfl rfl) rfl rfl rfl rfl ?_
         refine DJ3_q (yv_load1 tb rfl rfl rfl (by repeat (first | exact zi0 | apply zi1 | apply zi2)) (by rfl)) rfl rfl rfl rfl ?_
         refine DJ3_q (yv_index tb rfl rfl rfl rfl (i := (a.mine.roads.l.getD k2 default).fr.toNat) (by first | rfl | omega | (simp; omega)) (by omega)) rfl rfl rfl rfl ?_
         refine DJ3_q (by first | exact yv_load1 tb rfl rfl rfl (by repeat (first | exact zi0 | apply zi1 | apply zi2)) (rcell_get (fun _ => rfl) (by assumption) rfl) | exact yv_load1 tb rfl rfl rfl (by repeat (first | exact zi0 | apply zi1 | apply zi2)) (rcell_get' (fun _ => rfl) (by assumption) rfl) | exact yv_load1 tb rfl rfl rfl (by repeat (first | exact zi0 | apply zi1 | apply zi2)) (icell_get (by assumption)) | exact yv_load1 tb rfl rfl rfl (by repeat (first | exact zi0 | apply zi1 | apply zi2)) (by rfl)) rfl rfl rfl rfl ?_
         refine DJ3_q (yv_field tb rfl rfl rfl) rfl rfl rfl rfl ?_
         refine DJ3_q (yv_load1 tb rfl rfl rfl (by repeat (first | exact zi0 | apply zi1 | apply zi2)) (by rfl)) rfl rfl rfl rfl ?_
         refine DJ3_q (yv_move (show _ = Value.int _ _ from rfl)) rfl rfl rfl rfl ?_
         refine DJ3_q (by first | exact yv_index_ro tb rfl rfl rfl rfl (by first | assumption | exact zr (by simp)) rfl (by omega) | exact yv_index tb rfl rfl rfl rfl rfl (by omega)) rfl rfl rfl rfl ?_
         refine DJ3_q (by first | exact yv_load1_ro tb rfl rfl rfl (by first | assumption | exact zr (by simp)) (by assumption) (by rfl) | exact yv_load1 tb rfl rfl rfl (by repeat (first | exact zi0 | apply zi1 | apply zi2)) (by rfl) | exact yv_load1 tb rfl rfl rfl (by repeat (first | exact zi0 | apply zi1 | apply zi2)) (icell_get (by assumption)) | exact yv_load1 tb rfl rfl rfl (by repeat (first | exact zi0 | apply zi1 | apply zi2)) (rcell_get (fun _ => rfl) (by assumption) rfl)) rfl rfl rfl rfl ?_
         refine DJ3_q (by first | exact yv_add64 rfl rfl (by omega) (by omega) | exact yv_addU rfl rfl (by omega) (by omega) | exact yv_add rfl rfl) rfl rfl rfl rfl ?_
         refine DJ3_q (yv_index tb rfl rfl rfl rfl (i := (a.mine.roads.l.getD k2 default).fr.toNat) (by first | rfl | omega | (simp; omega)) (by omega)) rfl rfl rfl rfl ?_
         refine DJ3_phase ?_
         refine DJ_store1 (v := Value.int _ _) rfl rfl rfl rfl (by repeat (first | apply zu0 | apply zu1 | apply zu2)) (by first | exact icell_fit (by omega) | rfl) (by first | exact icell_set | rfl) (by rfl) (by repeat (first | exact zs0 _ | exact zs1 _ | apply zs2 | apply zs3 | apply zs4 | apply zs5)) ?_
         refine DJ_nil (seqK_normal ?_)
         have hsl : ((netTo a x k2).set (a.mine.roads.l.getD k2 default).fr.toNat ((netTo a x k2).getD (a.mine.roads.l.getD k2 default).fr.toNat 0 + x.flows.l.getD k2 0)).length = x.pres.l.length := by rw [List.length_set, hnl]
         have hg2 := get_D (l := (netTo a x k2).set (a.mine.roads.l.getD k2 default).fr.toNat ((netTo a x k2).getD (a.mine.roads.l.getD k2 default).fr.toNat 0 + x.flows.l.getD k2 0)) (k := (a.mine.roads.l.getD k2 default).to.toNat) 0 (by omega)
         have hg2b := set_bounds (B := 2097152 * (k2 : Int) + 1048576) (fun j y hy => by have := netTo_bounds hqb k2 (by omega) j y hy; omega) (by omega) _ _ hg2
         refine CJ_drawn2 tb [] [0, 1, 2, 3, 4, 5, 6, 7, 8, 9, 10, 11] [12] (_) _ mixed (by kernel_rfl) (by repeat (first | exact zs0 _ | exact zs1 _ | apply zs2 | apply zs3 | apply zs4 | apply zs5)) (by (repeat (first | apply List.Sublist.cons (a := Blk.mk b80 _ _) | apply List.Sublist.cons_cons)); exact List.Sublist.refl _) ?_
         refine DJ3_q (yv_move (show _ = Value.slice _ _ _ from rfl)) rfl rfl rfl rfl ?_
         refine DJ3_q (yv_field tb rfl rfl rfl) rfl rfl rfl rfl ?_
         refine DJ3_q (yv_load1 tb rfl rfl rfl (by repeat (first | exact zi0 | apply zi1 | apply zi2)) (by rfl)) rfl rfl rfl rfl ?_
         refine DJ3_q (yv_index tb rfl rfl rfl rfl (i := (a.mine.roads.l.getD k2 default).to.toNat) (by first | rfl | omega | (simp; omega)) (by omega)) rfl rfl rfl rfl ?_
         refine DJ3_q (by first | exact yv_load1 tb rfl rfl rfl (by repeat (first | exact zi0 | apply zi1 | apply zi2)) (rcell_get (fun _ => rfl) (by assumption) rfl) | exact yv_load1 tb rfl rfl rfl (by repeat (first | exact zi0 | apply zi1 | apply zi2)) (rcell_get' (fun _ => rfl) (by assumption) rfl) | exact yv_load1 tb rfl rfl rfl (by repeat (first | exact zi0 | apply zi1 | apply zi2)) (icell_get (by assumption)) | exact yv_load1 tb rfl rfl rfl (by repeat (first | exact zi0 | apply zi1 | apply zi2)) (by rfl)) rfl rfl rfl rfl ?_
         refine DJ3_q (yv_field tb rfl rfl rfl) rfl rfl rfl rfl ?_
         refine DJ3_q (yv_load1 tb rfl rfl rfl (by repeat (first | exact zi0 | apply zi1 | apply zi2)) (by rfl)) rfl rfl rfl rfl ?_
         refine DJ3_q (yv_move (show _ = Value.int _ _ from rfl)) rfl rfl rfl rfl ?_
         refine DJ3_q (by first | exact yv_index_ro tb rfl rfl rfl rfl (by first | assumption | exact zr (by simp)) rfl (by omega) | exact yv_index tb rfl rfl rfl rfl rfl (by omega)) rfl rfl rfl rfl ?_
         refine DJ3_q (by first | exact yv_load1_ro tb rfl rfl rfl (by first | assumption | exact zr (by simp)) (by assumption) (by rfl) | exact yv_load1 tb rfl rfl rfl (by repeat (first | exact zi0 | apply zi1 | apply zi2)) (by rfl) | exact yv_load1 tb rfl rfl rfl (by repeat (first | exact zi0 | apply zi1 | apply zi2)) (icell_get (by assumption)) | exact yv_load1 tb rfl rfl rfl (by repeat (first | exact zi0 | apply zi1 | apply zi2)) (rcell_get (fun _ => rfl) (by assumption) rfl)) rfl rfl rfl rfl ?_
         refine DJ3_q (by first | exact yv_sub64 rfl rfl (by omega) (by omega) | exact yv_sub rfl rfl) rfl rfl rfl rfl ?_
         refine DJ3_q (yv_index tb rfl rfl rfl rfl (i := (a.mine.roads.l.getD k2 default).to.toNat) (by first | rfl | omega | (simp; omega)) (by omega)) rfl rfl rfl rfl ?_
         refine DJ3_phase ?_
         refine DJ_store1 (v := Value.int _ _) rfl rfl rfl rfl (by repeat (first | apply zu0 | apply zu1 | apply zu2)) (by first | exact icell_fit (by omega) | rfl) (by first | exact icell_set | rfl) (by rfl) (by repeat (first | exact zs0 _ | exact zs1 _ | apply zs2 | apply zs3 | apply zs4 | apply zs5)) ?_
         refine DJ_nil (blockK_normal (seqK_normal (CJ_region ?_)))
         refine LJ_q (by first | exact yv_add64 rfl rfl (by omega) (by omega) | exact yv_addU rfl rfl (by omega) (by omega) | exact yv_add rfl rfl) rfl ?_
         refine LJ_q (yv_move (show _ = Value.int _ _ from rfl)) rfl ?_
         refine LJ_nil ?_
         exact loopK_mk ⟨k2 + 1, by omega, fun i hi hcl => by rcases Nat.lt_or_eq_of_le (Nat.le_of_lt_succ hi) with h | h; exact hz2 i h hcl; subst h; rcases hc8 with h8 | h8; exact absurd hcl (by rw [h8]; decide); exact Decidable.not_not.1 h8⟩ (by repeat (first | exact Off.refl | apply Off.upd rfl | apply Off.havoc rfl | apply Off.updL rfl | apply Off.left rfl)) (by repeat' (first | exact trivial | refine And.intro rfl ?_)) (by repeat (first | exact zs0 _ | exact zs1 _ | apply zs2 | apply zs3 | apply zs4 | apply zs5)) (allR_self _) (by dsimp only; omega)
       ·
        try simp only [zb1, zb2, zb3, zb4, zb5, zb6, zb7, zb8] at hc7
        obtain rfl : k2 = a.mine.roads.l.length := by omega
        have hnl := netTo_length a x a.mine.roads.l.length
        have hlx : x.flows.l.length = a.mine.roads.l.length := by omega
        refine CJ_exit (seqK_exit (loopK_exit (blockK_exit (seqK_normal (CJ_seq (CJ_seq (CJ_region ?_)))))))
        refine LJ_q (yv_field tb rfl rfl rfl) rfl ?_
        refine LJ_q (yv_field tb rfl rfl rfl) rfl ?_
        refine LJ_q (yv_load1 tb rfl rfl rfl (by repeat (first | exact zi0 | apply zi1 | apply zi2)) (by rfl)) rfl ?_
        refine LJ_q (yv_len tb rfl rfl rfl) rfl ?_
        refine LJ_q (yv_move (show _ = Value.int _ _ from rfl)) rfl ?_
        refine LJ_nil (seqK_normal (CJ_block ?_))
        refine CJ_forget [(3, Value.pointer _), (4, Value.pointer _), (5, Value.pointer _), (12, Value.slice _ _ _), (127, Value.slice _ _ _), (128, Value.int _ _), (129, Value.int _ _)] (by repeat' (first | exact trivial | refine And.intro rfl ?_)) fun tq3 => ?_
        refine CJ_loopS [6, 15, 16, 129, 130, 131, 132, 133, 134, 135, 136, 137, 138, 139, 140, 141, 142, 143, 144, 145, 146, 147, 148, 149, 150, 151, 152, 153, 154, 155, 156] (fun g : {k : Nat // k ≤ a.mine.places.l.length ∧ ∀ v, v < k → placeUnfit a x (netTo a x a.mine.roads.l.length) v = none} => [(129, .int .i64 ((g.1 : Nat) : Int))]) (fun g => a.mine.places.l.length - g.1) (⟨0, by omega, fun _ h => absurd h (by omega)⟩) (by repeat' (first | exact trivial | refine And.intro rfl ?_)) ?_
        rintro ⟨k3, hk3, hz3⟩ junk
        try dsimp only
        refine CJ_seq (CJ_region ?_)
        refine LJ_q (yv_lss rfl rfl) rfl ?_
        refine LJ_nil (seqK_normal (CJ_seq ?_))
        refine CJ_cond (show _ = Value.bool _ from rfl) (fun hc9 => ?_) (fun hc9 => ?_)
        ·
         try simp only [zb1, zb2, zb3, zb4, zb5, zb6, zb7, zb8] at hc9
         have hpl := get_D (l := a.mine.places.l) (k := k3) default (by omega)
         have hpr := get_D (l := x.pres.l) (k := k3) 0 (by omega)
         have hnt := get_D (l := netTo a x a.mine.roads.l.length) (k := k3) 0 (by omega)
         refine CJ_skip (seqK_normal (CJ_seq (CJ_block (CJ_seq (CJ_region ?_)))))
         refine LJ_q (yv_move (show _ = Value.int _ _ from rfl)) rfl ?_
         refine LJ_q (by first | exact yv_index_ro tb rfl rfl rfl rfl (by first | assumption | exact zr (by simp)) rfl (by omega) | exact yv_index tb rfl rfl rfl rfl rfl (by omega)) rfl ?_
         refine LJ_q (by first | exact yv_loadN_ro (row := [_, _]) tb rfl rfl rfl (by first | assumption | exact zr (by simp)) (by assumption) (by rfl) (by rfl) | exact yv_loadN (row := [_, _]) tb rfl rfl rfl (by repeat (first | exact zi0 | apply zi1 | apply zi2)) (by rfl) (by rfl)) rfl ?_
         refine LJ_alloc tb rfl rfl ?_
         intro b16
         refine LJ_q (yv_assign (show _ = Value.int _ _ from rfl)) rfl ?_
         refine LJ_storeW tb rfl rfl rfl rfl (by repeat (first | apply zu0 | apply zu1 | apply zu2)) (by rfl) (by rfl) ?_
         refine LJ_nil (seqK_normal (CJ_seq (CJ_region ?_)))
         refine LJ_q (yv_field tb rfl rfl rfl) rfl ?_
         refine LJ_q (yv_load1 tb rfl rfl rfl (by repeat (first | exact zi0 | apply zi1 | apply zi2)) (by rfl)) rfl ?_
         refine LJ_q (yv_move (show _ = Value.bool _ from rfl)) rfl ?_
         apply LJ_and (G := [_, _, _, _, _, _]) (j := 2) (cj := 136) rfl rfl (by rfl) rfl (show _ = Value.bool _ from rfl) rfl
         ·
          intro hg3
          try simp only [zb1, zb2, zb3, zb4, zb5, zb6, zb7, zb8] at hg3
          refine LJ_q (yv_field tb rfl rfl rfl) rfl ?_
          refine LJ_q (yv_load1 tb rfl rfl rfl (by repeat (first | exact zi0 | apply zi1 | apply zi2)) (by rfl)) rfl ?_
          refine LJ_q (yv_move (show _ = Value.int _ _ from rfl)) rfl ?_
          refine LJ_q (by first | exact yv_index_ro tb rfl rfl rfl rfl (by first | assumption | exact zr (by simp)) rfl (by omega) | exact yv_index tb rfl rfl rfl rfl rfl (by omega)) rfl ?_
          refine LJ_q (by first | exact yv_load1_ro tb rfl rfl rfl (by first | assumption | exact zr (by simp)) (by assumption) (by rfl) | exact yv_load1 tb rfl rfl rfl (by repeat (first | exact zi0 | apply zi1 | apply zi2)) (by rfl) | exact yv_load1 tb rfl rfl rfl (by repeat (first | exact zi0 | apply zi1 | apply zi2)) (icell_get (by assumption)) | exact yv_load1 tb rfl rfl rfl (by repeat (first | exact zi0 | apply zi1 | apply zi2)) (rcell_get (fun _ => rfl) (by assumption) rfl)) rfl ?_
          refine LJ_q (yv_neq rfl rfl) rfl ?_
          exact LJ_merge_end (show _ = Value.bool _ from rfl) (by repeat (first | exact Off.refl | apply Off.upd rfl | apply Off.havoc rfl | apply Off.updL rfl | apply Off.left rfl)) (by repeat (first | exact zs0 _ | exact zs1 _ | apply zs2 | apply zs3 | apply zs4 | apply zs5)) (by first | exact allR_self _ | exact fun r h => inR_self (by simp [h]))
         intro junk3
         refine LJ_q (yv_move (show _ = Value.bool _ from rfl)) rfl ?_
         apply LJ_or (G := [_, _, _, _, _, _, _, _, _, _]) (j := 10) (cj := 144) rfl rfl (by rfl) rfl (show _ = Value.bool _ from rfl) rfl
         ·
          intro hg11
          try simp only [zb1, zb2, zb3, zb4, zb5, zb6, zb7, zb8] at hg11
          refine LJ_q (yv_field tb rfl rfl rfl) rfl ?_
          refine LJ_q (yv_load1 tb rfl rfl rfl (by repeat (first | exact zi0 | apply zi1 | apply zi2)) (by rfl)) rfl ?_
          refine LJ_q (yv_not rfl) rfl ?_
          refine LJ_q (yv_move (show _ = Value.bool _ from rfl)) rfl ?_
          apply LJ_and (G := [_, _, _, _, _]) (j := 14) (cj := 148) rfl rfl (by rfl) rfl (show _ = Value.bool _ from rfl) rfl
          ·
           intro hg15
           try simp only [zb1, zb2, zb3, zb4, zb5, zb6, zb7, zb8] at hg15
           refine LJ_q (yv_move (show _ = Value.slice _ _ _ from rfl)) rfl ?_
           refine LJ_q (yv_move (show _ = Value.int _ _ from rfl)) rfl ?_
           refine LJ_q (by first | exact yv_index_ro tb rfl rfl rfl rfl (by first | assumption | exact zr (by simp)) rfl (by omega) | exact yv_index tb rfl rfl rfl rfl rfl (by omega)) rfl ?_
           refine LJ_q (by first | exact yv_load1_ro tb rfl rfl rfl (by first | assumption | exact zr (by simp)) (by assumption) (by rfl) | exact yv_load1 tb rfl rfl rfl (by repeat (first | exact zi0 | apply zi1 | apply zi2)) (by rfl) | exact yv_load1 tb rfl rfl rfl (by repeat (first | exact zi0 | apply zi1 | apply zi2)) (icell_get (by assumption)) | exact yv_load1 tb rfl rfl rfl (by repeat (first | exact zi0 | apply zi1 | apply zi2)) (rcell_get (fun _ => rfl) (by assumption) rfl)) rfl ?_
           refine LJ_q (yv_neq rfl rfl) rfl ?_
           exact LJ_merge_end (show _ = Value.bool _ from rfl) (by repeat (first | exact Off.refl | apply Off.upd rfl | apply Off.havoc rfl | apply Off.updL rfl | apply Off.left rfl)) (by repeat (first | exact zs0 _ | exact zs1 _ | apply zs2 | apply zs3 | apply zs4 | apply zs5)) (by first | exact allR_self _ | exact fun r h => inR_self (by simp [h]))
          intro junk15
          exact LJ_merge_end (show _ = Value.bool _ from rfl) (by repeat (first | exact Off.refl | apply Off.upd rfl | apply Off.havoc rfl | apply Off.updL rfl | apply Off.left rfl)) (by repeat (first | exact zs0 _ | exact zs1 _ | apply zs2 | apply zs3 | apply zs4 | apply zs5)) (by first | exact allR_self _ | exact fun r h => inR_self (by simp [h]))
         intro junk11
         refine LJ_nil (seqK_normal ?_)
         refine CJ_cond (show _ = Value.bool _ from rfl) (fun hc10 => ?_) (fun hc10 => ?_)
         ·
          try simp only [zb1, zb2, zb3, zb4, zb5, zb6, zb7, zb8] at hc10
          refine CJ_seq (CJ_region ?_)
          refine LJ_q (yv_assign (show _ = Value.int _ _ from rfl)) rfl ?_
          refine LJ_nil (seqK_normal (CJ_ret (blockK_ret (seqK_ret (loopK_ret (blockK_ret (seqK_ret ?_)))))))
          refine retK_ret (L' := L) (R' := R) (res1 rfl (rv_tmp (show _ = Value.int _ _ from rfl))) ?hp ?hL ?hR
          case hp => exact ⟨by rw [fitsS_ten hc0 hfb hll hn0 hn1 (.inr ⟨k3, by omega, by rw [hlx]; exact if_pos hc10⟩)], rfl, rfl⟩
          case hL => exact (by repeat (first | exact zs0 _ | exact zs1 _ | apply zs2 | apply zs3 | apply zs4 | apply zs5))
          case hR => exact allR_self _
         ·
          try simp only [zb1, zb2, zb3, zb4, zb5, zb6, zb7, zb8] at hc10
          refine CJ_skip (blockK_normal (seqK_normal (CJ_region ?_)))
          refine LJ_q (by first | exact yv_add64 rfl rfl (by omega) (by omega) | exact yv_addU rfl rfl (by omega) (by omega) | exact yv_add rfl rfl) rfl ?_
          refine LJ_q (yv_move (show _ = Value.int _ _ from rfl)) rfl ?_
          refine LJ_nil ?_
          exact loopK_mk ⟨k3 + 1, by omega, fun v hv => by rcases Nat.lt_or_eq_of_le (Nat.le_of_lt_succ hv) with h | h; exact hz3 v h; subst h; exact if_neg (fun h => h.elim (fun h => hc10.1.elim (fun e => Bool.noConfusion (e.symm.trans h.1)) (fun e => e h.2)) (fun h => hc10.2.elim (fun e => Bool.noConfusion (e.symm.trans h.1)) (fun e => e h.2)))⟩ (by repeat (first | exact Off.refl | apply Off.upd rfl | apply Off.havoc rfl | apply Off.updL rfl | apply Off.left rfl)) (by repeat' (first | exact trivial | refine And.intro rfl ?_)) (by repeat (first | exact zs0 _ | exact zs1 _ | apply zs2 | apply zs3 | apply zs4 | apply zs5)) (allR_self _) (by dsimp only; omega)
        ·
         try simp only [zb1, zb2, zb3, zb4, zb5, zb6, zb7, zb8] at hc9
         obtain rfl : k3 = a.mine.places.l.length := by omega
         refine CJ_exit (seqK_exit (loopK_exit (blockK_exit (seqK_normal (CJ_seq (CJ_seq (CJ_region ?_)))))))
         refine LJ_q (yv_loadN (row := [_, _, _, _]) tb rfl rfl rfl (by repeat (first | exact zi0 | apply zi1 | apply zi2)) (by rfl) (by rfl)) rfl ?_
         refine LJ_q (yv_loadN (row := [_, _]) tb rfl rfl rfl (by repeat (first | exact zi0 | apply zi1 | apply zi2)) (by rfl) (by rfl)) rfl ?_
         refine LJ_call rfl (make_tri a s _ _ hm hs ha hf) rfl ?_
         rintro v L' R' ⟨n, rfl, hn, rfl, rfl⟩
         have hpp : InR (ppsl n.pipes) (ppsl n.pipes :: aasl n.at_ :: R) := inR_self (by simp)
         have hxp' : InR (isl x.pres) (ppsl n.pipes :: aasl n.at_ :: R) := hxp.mono fun r h => inR_self (by simp [h])
         have hxf' : InR (isl x.flows) (ppsl n.pipes :: aasl n.at_ :: R) := hxf.mono fun r h => inR_self (by simp [h])
         have hnl2 := hn.length
         refine LJ_q (yv_fieldv (e := 90) tb rfl (by kernel_rfl) rfl rfl rfl rfl rfl) rfl ?_
         refine LJ_q (yv_len tb rfl rfl rfl) rfl ?_
         refine LJ_q (yv_move (show _ = Value.int _ _ from rfl)) rfl ?_
         refine LJ_nil (seqK_normal (CJ_block ?_))
         refine CJ_forget [(5, Value.pointer _), (160, Value.slice _ _ _), (161, Value.int _ _), (162, Value.int _ _)] (by repeat' (first | exact trivial | refine And.intro rfl ?_)) fun tq4 => ?_
         refine CJ_loopS [6, 18, 19, 20, 162, 163, 164, 165, 166, 167, 168, 169, 170, 171, 172, 173, 174, 175, 176, 177, 178, 179, 180, 181, 182, 183, 184, 185, 186, 187, 188, 189, 190, 191, 192, 193, 194, 195, 196, 197, 198, 199] (fun g : {k : Nat // k ≤ n.pipes.l.length ∧ ∀ (j : Nat) (p : XPipe), j < k → n.pipes.l[j]? = some p → roadUnfit a s x p.num.toNat = none} => [(162, .int .i64 ((g.1 : Nat) : Int))]) (fun g => n.pipes.l.length - g.1) (⟨0, by omega, fun _ _ h => absurd h (by omega)⟩) (by repeat' (first | exact trivial | refine And.intro rfl ?_)) ?_
         rintro ⟨k4, hk4, hz4⟩ junk
         try dsimp only
         refine CJ_seq (CJ_region ?_)
         refine LJ_q (yv_lss rfl rfl) rfl ?_
         refine LJ_nil (seqK_normal (CJ_seq ?_))
         refine CJ_cond (show _ = Value.bool _ from rfl) (fun hc11 => ?_) (fun hc11 => ?_)
         ·
          try simp only [zb1, zb2, zb3, zb4, zb5, zb6, zb7, zb8] at hc11
          obtain ⟨p, hp⟩ := get_some (l := n.pipes.l) (k := k4) (by omega)
          have hpi := hn.pipe p (List.mem_of_getElem? hp)
          obtain ⟨hop, hcl⟩ := hn.open (List.mem_of_getElem? hp)
          have hpo := pipeOk_of ha hop hpi
          have hro := get_D (l := a.mine.roads.l) (k := p.num.toNat) default (by omega)
          have hrk := ha.mine.road _ _ hro
          have hpf : p.road.fr = (a.mine.roads.l.getD p.num.toNat default).fr := by rw [hpi.road]
          have hpt : p.road.to = (a.mine.roads.l.getD p.num.toNat default).to := by rw [hpi.road]
          have hr1 := hrk.fr
          have hr2 := hrk.to
          have hg1 := get_D (l := x.pres.l) (k := p.road.fr.toNat) 0 (by omega)
          have hg2 := get_D (l := x.pres.l) (k := p.road.to.toNat) 0 (by omega)
          have hg3 := get_D (l := x.flows.l) (k := p.num.toNat) 0 (by omega)
          have hb1 := hpb _ _ hg1
          have hb2 := hpb _ _ hg2
          have hb3 := hqb _ _ hg3
          have hde := dropP_eq hpi (x.flows.l.getD p.num.toNat 0)
          refine CJ_skip (seqK_normal (CJ_seq (CJ_block (CJ_seq (CJ_region ?_)))))
          refine LJ_q (by first | exact yv_index_ro tb rfl rfl rfl rfl (by first | assumption | exact zr (by simp)) rfl (by omega) | exact yv_index tb rfl rfl rfl rfl rfl (by omega)) rfl ?_
          refine LJ_q (by first | exact yv_loadN_ro (row := [_, _, _, _, _, _, _, _, _, _, _, _]) tb rfl rfl rfl (by first | assumption | exact zr (by simp)) (by assumption) (by rfl) (by rfl) | exact yv_loadN (row := [_, _, _, _, _, _, _, _, _, _, _, _]) tb rfl rfl rfl (by repeat (first | exact zi0 | apply zi1 | apply zi2)) (by rfl) (by rfl)) rfl ?_
          refine LJ_alloc tb rfl rfl ?_
          intro b18
          refine LJ_storeW tb rfl rfl rfl rfl (by repeat (first | apply zu0 | apply zu1 | apply zu2)) (by rfl) (by rfl) ?_
          refine LJ_nil (seqK_normal (CJ_seq ?_))
          refine CJ_drawn tb [0, 1, 2, 3, 4, 5, 6, 7, 8, 9, 10, 11, 12, 13, 14, 15] _ mixed (by kernel_rfl) (List.Sublist.refl _) ?_
          refine DJ_q (yv_field tb rfl rfl rfl) rfl rfl rfl ?_
          refine DJ_q (yv_load1 tb rfl rfl rfl (by repeat (first | exact zi0 | apply zi1 | apply zi2)) (by rfl)) rfl rfl rfl ?_
          refine DJ_q (yv_field tb rfl rfl rfl) rfl rfl rfl ?_
          refine DJ_q (yv_field tb rfl rfl rfl) rfl rfl rfl ?_
          refine DJ_q (yv_load1 tb rfl rfl rfl (by repeat (first | exact zi0 | apply zi1 | apply zi2)) (by rfl)) rfl rfl rfl ?_
          refine DJ_q (by first | exact yv_index_ro tb rfl rfl rfl rfl (by first | assumption | exact zr (by simp)) (i := p.road.fr.toNat) (by first | rfl | omega | (simp; omega)) (by omega) | exact yv_index tb rfl rfl rfl rfl (i := p.road.fr.toNat) (by first | rfl | omega | (simp; omega)) (by omega)) rfl rfl rfl ?_
          refine DJ_q (by first | exact yv_load1_ro tb rfl rfl rfl (by first | assumption | exact zr (by simp)) (by assumption) (by rfl) | exact yv_load1 tb rfl rfl rfl (by repeat (first | exact zi0 | apply zi1 | apply zi2)) (by rfl) | exact yv_load1 tb rfl rfl rfl (by repeat (first | exact zi0 | apply zi1 | apply zi2)) (icell_get (by assumption)) | exact yv_load1 tb rfl rfl rfl (by repeat (first | exact zi0 | apply zi1 | apply zi2)) (rcell_get (fun _ => rfl) (by assumption) rfl)) rfl rfl rfl ?_
          refine DJ_q (yv_field tb rfl rfl rfl) rfl rfl rfl ?_
          refine DJ_q (yv_load1 tb rfl rfl rfl (by repeat (first | exact zi0 | apply zi1 | apply zi2)) (by rfl)) rfl rfl rfl ?_
          refine DJ_q (yv_field tb rfl rfl rfl) rfl rfl rfl ?_
          refine DJ_q (yv_field tb rfl rfl rfl) rfl rfl rfl ?_
          refine DJ_q (yv_load1 tb rfl rfl rfl (by repeat (first | exact zi0 | apply zi1 | apply zi2)) (by rfl)) rfl rfl rfl ?_
          refine DJ_q (by first | exact yv_index_ro tb rfl rfl rfl rfl (by first | assumption | exact zr (by simp)) (i := p.road.to.toNat) (by first | rfl | omega | (simp; omega)) (by omega) | exact yv_index tb rfl rfl rfl rfl (i := p.road.to.toNat) (by first | rfl | omega | (simp; omega)) (by omega)) rfl rfl rfl ?_
          refine DJ_q (by first | exact yv_load1_ro tb rfl rfl rfl (by first | assumption | exact zr (by simp)) (by assumption) (by rfl) | exact yv_load1 tb rfl rfl rfl (by repeat (first | exact zi0 | apply zi1 | apply zi2)) (by rfl) | exact yv_load1 tb rfl rfl rfl (by repeat (first | exact zi0 | apply zi1 | apply zi2)) (icell_get (by assumption)) | exact yv_load1 tb rfl rfl rfl (by repeat (first | exact zi0 | apply zi1 | apply zi2)) (rcell_get (fun _ => rfl) (by assumption) rfl)) rfl rfl rfl ?_
          refine DJ_q (by first | exact yv_sub64 rfl rfl (by omega) (by omega) | exact yv_sub rfl rfl) rfl rfl rfl ?_
          refine DJ_q (yv_assign (show _ = Value.int _ _ from rfl)) rfl rfl rfl ?_
          refine DJ_nil (seqK_normal (CJ_seq ?_))
          refine CJ_drawn tb [0, 1, 2, 3, 4, 5, 6, 7, 8, 9] _ mixed (by kernel_rfl) (List.Sublist.refl _) ?_
          refine DJ_q (yv_loadN (row := [_, _, _, _, _, _, _, _, _, _, _, _]) tb rfl rfl rfl (by repeat (first | exact zi0 | apply zi1 | apply zi2)) (by rfl) (by rfl)) rfl rfl rfl ?_
          refine DJ_q (yv_field tb rfl rfl rfl) rfl rfl rfl ?_
          refine DJ_q (yv_load1 tb rfl rfl rfl (by repeat (first | exact zi0 | apply zi1 | apply zi2)) (by rfl)) rfl rfl rfl ?_
          refine DJ_q (yv_field tb rfl rfl rfl) rfl rfl rfl ?_
          refine DJ_q (yv_load1 tb rfl rfl rfl (by repeat (first | exact zi0 | apply zi1 | apply zi2)) (by rfl)) rfl rfl rfl ?_
          refine DJ_q (by first | exact yv_index_ro tb rfl rfl rfl rfl (by first | assumption | exact zr (by simp)) (i := p.num.toNat) (by first | rfl | omega | (simp; omega)) (by omega) | exact yv_index tb rfl rfl rfl rfl (i := p.num.toNat) (by first | rfl | omega | (simp; omega)) (by omega)) rfl rfl rfl ?_
          refine DJ_q (by first | exact yv_load1_ro tb rfl rfl rfl (by first | assumption | exact zr (by simp)) (by assumption) (by rfl) | exact yv_load1 tb rfl rfl rfl (by repeat (first | exact zi0 | apply zi1 | apply zi2)) (by rfl) | exact yv_load1 tb rfl rfl rfl (by repeat (first | exact zi0 | apply zi1 | apply zi2)) (icell_get (by assumption)) | exact yv_load1 tb rfl rfl rfl (by repeat (first | exact zi0 | apply zi1 | apply zi2)) (rcell_get (fun _ => rfl) (by assumption) rfl)) rfl rfl rfl ?_
          refine DJ_call rfl (drop_tri p (x.flows.l.getD p.num.toNat 0) _ _ (InR.pipe hpp hp) hpo (by omega)) rfl rfl ?_
          rintro v L' R' ⟨rfl, rfl, rfl⟩
          refine ⟨(by repeat (first | exact zs0 _ | exact zs1 _ | apply zs2 | apply zs3 | apply zs4 | apply zs5)), (by first | exact allR_self _ | exact (fun r h => inR_self (by simp [h]))), ?_⟩
          refine DJ_alloc rfl rfl ?_
          intro b20
          refine DJ_storeW rfl rfl rfl rfl (by repeat (first | apply zu0 | apply zu1 | apply zu2)) (by rfl) (by rfl) (by repeat (first | exact zs0 _ | exact zs1 _ | apply zs2 | apply zs3 | apply zs4 | apply zs5)) ?_
          refine DJ_nil (seqK_normal (CJ_seq ?_))
          rw [hde]
          have hnn : ((p.num.toNat : Nat) : Int) = p.num := by omega
          refine CJ_region ?_
          refine LJ_q (yv_move (show _ = Value.int _ _ from rfl)) rfl ?_
          refine LJ_q (yv_field tb rfl rfl rfl) rfl ?_
          refine LJ_q (yv_load1 tb rfl rfl rfl (by repeat (first | exact zi0 | apply zi1 | apply zi2)) (by rfl)) rfl ?_
          refine LJ_q (yv_lss rfl rfl) rfl ?_
          refine LJ_q (yv_move (show _ = Value.bool _ from rfl)) rfl ?_
          apply LJ_or (G := [_, _, _, _]) (j := 4) (cj := 193) rfl rfl (by rfl) rfl (show _ = Value.bool _ from rfl) rfl
          ·
           intro hg5
           try simp only [zb1, zb2, zb3, zb4, zb5, zb6, zb7, zb8] at hg5
           refine LJ_q (yv_move (show _ = Value.int _ _ from rfl)) rfl ?_
           refine LJ_q (yv_field tb rfl rfl rfl) rfl ?_
           refine LJ_q (yv_load1 tb rfl rfl rfl (by repeat (first | exact zi0 | apply zi1 | apply zi2)) (by rfl)) rfl ?_
           refine LJ_q (yv_gtr rfl rfl) rfl ?_
           exact LJ_merge_end (show _ = Value.bool _ from rfl) (by repeat (first | exact Off.refl | apply Off.upd rfl | apply Off.havoc rfl | apply Off.updL rfl | apply Off.left rfl)) (by repeat (first | exact zs0 _ | exact zs1 _ | apply zs2 | apply zs3 | apply zs4 | apply zs5)) (by first | exact allR_self _ | exact fun r h => inR_self (by simp [h]))
          intro junk5
          refine LJ_nil (seqK_normal ?_)
          refine CJ_cond (show _ = Value.bool _ from rfl) (fun hc12 => ?_) (fun hc12 => ?_)
          ·
           try simp only [zb1, zb2, zb3, zb4, zb5, zb6, zb7, zb8] at hc12
           refine CJ_seq (CJ_region ?_)
           refine LJ_q (yv_assign (show _ = Value.int _ _ from rfl)) rfl ?_
           refine LJ_nil (seqK_normal (CJ_ret (blockK_ret (seqK_ret (loopK_ret (blockK_ret (seqK_ret ?_)))))))
           refine retK_ret (L' := L) (R' := R) (res1 rfl (rv_tmp (show _ = Value.int _ _ from rfl))) ?hp ?hL ?hR
           case hp => exact ⟨by rw [fitsS_ten hc0 hfb hll hn0 hn1 (.inl ⟨p.num.toNat, by omega, if_pos (.inr ⟨hcl, by rw [hnn, ← hpf, ← hpt]; exact hc12⟩)⟩)], rfl, rfl⟩
           case hL => exact (by repeat (first | exact zs0 _ | exact zs1 _ | apply zs2 | apply zs3 | apply zs4 | apply zs5))
           case hR => exact fun r hr => inR_self (by simp [hr])
          ·
           try simp only [zb1, zb2, zb3, zb4, zb5, zb6, zb7, zb8] at hc12
           refine CJ_skip (blockK_normal (seqK_normal (CJ_region ?_)))
           refine LJ_q (by first | exact yv_add64 rfl rfl (by omega) (by omega) | exact yv_addU rfl rfl (by omega) (by omega) | exact yv_add rfl rfl) rfl ?_
           refine LJ_q (yv_move (show _ = Value.int _ _ from rfl)) rfl ?_
           refine LJ_nil ?_
           exact loopK_mk ⟨k4 + 1, by omega, fun j q hj hq => by rcases Nat.lt_or_eq_of_le (Nat.le_of_lt_succ hj) with h | h; exact hz4 j q h hq; subst h; rw [hp] at hq; cases hq; exact if_neg (fun h => h.elim (fun h => absurd h.1 (by rw [hcl]; decide)) (fun h => by rw [hnn, ← hpf, ← hpt] at h; exact h.2.elim hc12.1 hc12.2))⟩ (by repeat (first | exact Off.refl | apply Off.upd rfl | apply Off.havoc rfl | apply Off.updL rfl | apply Off.left rfl)) (by repeat' (first | exact trivial | refine And.intro rfl ?_)) (by repeat (first | exact zs0 _ | exact zs1 _ | apply zs2 | apply zs3 | apply zs4 | apply zs5)) (allR_self _) (by dsimp only; omega)
         ·
          try simp only [zb1, zb2, zb3, zb4, zb5, zb6, zb7, zb8] at hc11
          obtain rfl : k4 = n.pipes.l.length := by omega
          refine CJ_exit (seqK_exit (loopK_exit (blockK_exit (seqK_normal (CJ_seq (CJ_region ?_))))))
          refine LJ_q (yv_assign (show _ = Value.int _ _ from rfl)) rfl ?_
          refine LJ_nil (seqK_normal (CJ_ret ?_))
          refine retK_ret (L' := L) (R' := R) (res1 rfl (rv_tmp (show _ = Value.int _ _ from rfl))) ?hp ?hL ?hR
          case hp =>
           refine ⟨?_, rfl, rfl⟩
           rw [fitsS_zero hc0 hfb hll hn0 hn1 (fun i hi => ?_) (fun v hv => by rw [hlx]; exact hz3 v (by omega))]
           cases hcl : (a.mine.roads.l.getD i default).closed with
           | true => exact if_neg (fun h => h.elim (fun h => h.2 (hz2 i (by omega) hcl)) (fun h => absurd h.1 (by rw [hcl]; decide)))
           | false =>
             obtain ⟨j, p, hj, hjr⟩ := hn.find (r := (i : Int)) (by omega) (by simpa using hcl)
             have := hz4 j p (List.getElem?_eq_some_iff.1 hj).1 hj
             rw [hjr] at this
             simpa using this
          case hL => exact (by repeat (first | exact zs0 _ | exact zs1 _ | apply zs2 | apply zs3 | apply zs4 | apply zs5))
          case hR => exact fun r hr => inR_self (by simp [hr])
end Go.Proofs.Ytimnnhdeicpenaa
