/-
  The draws: the lifts are fitted. By an AI agent; no person has read it.
-/
import Derived.Test.YtimnnhdeicpenaaFitS
set_option linter.unusedSimpArgs false
set_option linter.unusedVariables false
namespace Go.Proofs.Ytimnnhdeicpenaa
open Go.Aw Go
set_option maxRecDepth 20000
attribute [local irreducible] CJ LJ DJ Tri YV Gives seqK blockK loopK retK RV mergeK OwL.L

structure RoadD (np : Nat) (r : XRoad) : Prop where
  fr : 0 ≤ r.fr ∧ r.fr < np
  to : 0 ≤ r.to ∧ r.to < np
  rest : 1 ≤ r.rest.low ∧ r.rest.low ≤ r.rest.high ∧ r.rest.high ≤ 22

abbrev presAt (st : XState) (r : XRoad) : Int := st.pres.l.getD r.fr.toNat 0 - st.pres.l.getD r.to.toNat 0
/-- road i is fitted -/
def FitAt (a : XAir) (s : XSetting) (st : XState) (i : Nat) (r r' : XRoad) : Prop :=
  Fitted (dSum a.doors.l s.doors.l i a.doors.l.length) (fSum a.fans.l s.fans.l i (st.flows.l.getD i 0) a.fans.l.length) (presAt st r) (st.flows.l.getD i 0) r r'

structure FitI (a : XAir) (s : XSetting) (st : XState) (l0 : List XRoad) (i : Nat) (l : List XRoad) : Prop where
  len : l.length = l0.length
  done : ∀ (j : Nat) (r : XRoad), j < i → l0[j]? = some r → ∃ r', l[j]? = some r' ∧ FitAt a s st j r r'
  todo : ∀ j, i ≤ j → l[j]? = l0[j]?

theorem FitI.next {a : XAir} {s : XSetting} {st : XState} {l0 l : List XRoad} {i : Nat} (h : FitI a s st l0 i l) {r r' : XRoad} (hr : l0[i]? = some r) (hf : FitAt a s st i r r') : FitI a s st l0 (i + 1) (l.set i r') := by
  have hi := (List.getElem?_eq_some_iff.1 hr).1
  refine ⟨by simp [h.len], fun j q hj hq => ?_, fun j hj => ?_⟩
  · rcases Nat.lt_or_eq_of_le (Nat.le_of_lt_succ hj) with h' | h'
    · rw [List.getElem?_set_ne (by omega)]
      exact h.done j q h' hq
    · subst h'
      rw [hr] at hq; cases hq
      exact ⟨r', List.getElem?_set_self (by rw [h.len]; exact hi), hf⟩
  · rw [List.getElem?_set_ne (by omega)]
    exact h.todo j (by omega)

theorem fit_tri (c ab : Nat) (x : Arr Int) (k n : Nat) (pv : Value) (a : XAir) (s : XSetting) (st : XState) (roads : OwL XRoad) (R : List Sl) (hx : CodesR x R) (hk : k ≤ x.l.length) (hok : roads.ok 10 XRoad.cells)
    (hfa : InR (fsl a.fans) R) (hdo : InR (dsl a.doors) R) (hs : SetR s R) (hst : StateR st R) (hF : FansD n 0 a.fans.l s.fans.l) (hD : DoorsD n 0 a.doors.l s.doors.l) (hq : roads.l.length = st.flows.l.length) (hlen : roads.l.length ≤ 100)
    (hqb : ∀ (i : Nat) (q : Int), st.flows.l[i]? = some q → -600 ≤ q ∧ q ≤ 600) (hpb : ∀ (i : Nat) (p : Int), st.pres.l[i]? = some p → -4000 ≤ p ∧ p ≤ 4000) (hr : ∀ (i : Nat) (r : XRoad), roads.l[i]? = some r → RoadD st.pres.l.length r) :
    Tri Try.prog 33 [.pointer (some ⟨c, 0, none⟩), .pointer (some ⟨ab, 0, none⟩), s.val, st.val].toArray (cblk c x k :: ⟨ab, [pv, roads.val, a.fans.val, a.doors.val], 30⟩ :: (roads.L 64 XRoad.cells ++ [])) R
      (fun v L' R' => ∃ (rl : List XRoad) (k' : Nat), v = .tuple #[] ∧ FitI a s st roads.l roads.l.length rl ∧ k' ≤ x.l.length ∧ cblk c x k' :: ⟨ab, [pv, roads.val, a.fans.val, a.doors.val], 30⟩ :: ((⟨roads.o, rl⟩ : OwL XRoad).L 64 XRoad.cells ++ []) = L' ∧ R = R') := by
  have hsf := hs.fans
  have hsd := hs.doors
  have hsp := hst.pres
  have hsq := hst.flows
  have hFm := hF.m
  have hFl := hF.len
  have hDm := hD.m
  have hDl := hD.len
  refine tri_enter 166 Try.call33 Try.func33 rfl rfl rfl ?_
  refine CJ_seq (CJ_region ?_)
  refine LJ_boxN rfl rfl ?_
  intro b6
  refine LJ_boxN rfl rfl ?_
  intro b7
  refine LJ_nil (seqK_normal (CJ_seq (CJ_region ?_)))
  refine LJ_q (yv_assign (show _ = Value.int _ _ from rfl)) rfl ?_
  refine LJ_nil (seqK_normal (CJ_block ?_))
  refine CJ_forget [(0, Value.pointer _), (1, Value.pointer _), (6, Value.pointer _), (7, Value.pointer _), (8, Value.int _ _)] (by repeat' (first | exact trivial | refine And.intro rfl ?_)) fun tq0 => ?_
  refine CJ_loop [8, 9, 10, 11, 12, 13, 14, 15, 16, 17, 18, 19, 20, 21, 22, 23, 24, 25, 26, 27, 28, 29, 30, 31, 32, 33, 34, 35, 36, 37, 38, 39, 40, 41, 42, 43, 44, 45, 46, 47, 48, 49, 50, 51, 52, 53, 54, 55, 56, 57, 58, 59, 60, 61, 62, 63, 64, 65, 66, 67, 68, 69, 70, 71, 72, 73, 74, 75, 76, 77, 78, 79, 80, 81, 82, 83, 84, 85, 86, 87, 88, 89, 90, 91, 92, 93, 94, 95, 96, 97, 98, 99, 100, 101, 102, 103, 104, 105, 106, 107, 108, 109, 110, 111, 112, 113, 114, 115, 116, 117, 118, 119, 120, 121, 122, 123, 124, 125, 126, 127, 128, 129, 130, 131, 132, 133, 134, 135, 136, 137, 138, 139, 140, 141, 142, 143, 144, 145, 146, 147, 148, 149, 150, 151, 152, 153, 154, 155, 156, 157, 158, 159, 160, 161, 162, 163, 164, 165] ((⟨fun g => [(8, .int .i64 ((g.1.2.1 : Nat) : Int))], fun g => ⟨b7, st.cells, 37⟩ :: ⟨b6, s.cells, 33⟩ :: cblk c x g.1.1 :: ⟨ab, [pv, (⟨roads.o, g.1.2.2⟩ : OwL XRoad).val, a.fans.val, a.doors.val], 30⟩ :: ((⟨roads.o, g.1.2.2⟩ : OwL XRoad).L 64 XRoad.cells ++ []), fun _ => R, fun g => roads.l.length - g.1.2.1⟩ : Head {g : Nat × Nat × List XRoad // g.1 ≤ x.l.length ∧ g.2.1 ≤ roads.l.length ∧ (⟨roads.o, g.2.2⟩ : OwL XRoad).ok 10 XRoad.cells ∧ FitI a s st roads.l g.2.1 g.2.2})) (⟨(k, 0, roads.l), hk, Nat.zero_le _, hok, ⟨rfl, (fun _ _ h => absurd h (Nat.not_lt_zero _)), (fun _ _ => rfl)⟩⟩) (by repeat' (first | exact trivial | refine And.intro rfl ?_)) (by repeat (first | exact zs0 _ | exact zs1 _ | apply zs2 | apply zs3 | apply zs4 | apply zs5)) (allR_self _) ?_
  rintro ⟨⟨kk, i, rl⟩, hkk, hi, hokr, hI⟩ junk
  try dsimp only
  dsimp only at hkk hi hokr hI
  have hrl := hI.len
  refine CJ_seq (CJ_seq (CJ_region ?_))
  refine LJ_q (yv_move (show _ = Value.int _ _ from rfl)) rfl ?_
  refine LJ_q (yv_move (show _ = Value.pointer _ from rfl)) rfl ?_
  refine LJ_q (yv_nilCheck rfl) rfl ?_
  refine LJ_q (yv_field tb rfl rfl rfl) rfl ?_
  refine LJ_q (yv_field tb rfl rfl rfl) rfl ?_
  refine LJ_q (yv_load1 tb rfl rfl rfl (by repeat (first | exact zi0 | apply zi1 | apply zi2)) (by rfl)) rfl ?_
  refine LJ_q (yv_len tb rfl rfl rfl) rfl ?_
  refine LJ_q (yv_lss rfl rfl) rfl ?_
  refine LJ_nil (seqK_normal ?_)
  refine CJ_cond (show _ = Value.bool _ from rfl) (fun hc0 => ?_) (fun hc0 => ?_)
  ·
   try simp only [zb1, zb2, zb3, zb4, zb5, zb6, zb7, zb8] at hc0
   have hr0 := get_D (l := roads.l) (k := i) default (by omega)
   obtain ⟨r, hre⟩ : ∃ r, r = roads.l.getD i default := ⟨_, rfl⟩
   rw [← hre] at hr0
   have hri : rl[i]? = some r := by rw [hI.todo i (Nat.le_refl _)]; exact hr0
   have hrd := hr i r hr0
   have hrr := hrd.rest
   have hrf := hrd.fr
   have hrt := hrd.to
   obtain ⟨q, hqe⟩ : ∃ q, q = st.flows.l.getD i 0 := ⟨_, rfl⟩
   have hqi := get_D (l := st.flows.l) (k := i) 0 (by omega)
   rw [← hqe] at hqi
   have hqq := hqb _ _ hqi
   have hpf := get_D (l := st.pres.l) (k := r.fr.toNat) 0 (by omega)
   have hpt := get_D (l := st.pres.l) (k := r.to.toNat) 0 (by omega)
   have hpfb := hpb _ _ hpf
   have hptb := hpb _ _ hpt
   have hpa : -8000 ≤ presAt st r ∧ presAt st r ≤ 8000 := by dsimp only [presAt]; omega
   refine CJ_skip (seqK_normal (CJ_seq (CJ_block (CJ_seq (CJ_region ?_)))))
   refine LJ_q (yv_move (show _ = Value.pointer _ from rfl)) rfl ?_
   refine LJ_q (yv_nilCheck rfl) rfl ?_
   refine LJ_q (yv_field tb rfl rfl rfl) rfl ?_
   refine LJ_q (yv_field tb rfl rfl rfl) rfl ?_
   refine LJ_q (yv_load1 tb rfl rfl rfl (by repeat (first | exact zi0 | apply zi1 | apply zi2)) (by rfl)) rfl ?_
   refine LJ_q (yv_move (show _ = Value.int _ _ from rfl)) rfl ?_
   refine LJ_q (yv_index_ow tb ((⟨roads.o, rl⟩ : OwL XRoad)) _ rfl rfl rfl rfl (by assumption) (i := i) (by first | rfl | omega | (simp; omega)) (by first | omega | (dsimp only; omega) | (dsimp only; rw [List.length_set]; omega))) rfl ?_
   refine LJ_q (yv_assign (show _ = Value.pointer _ from rfl)) rfl ?_
   refine LJ_nil (seqK_normal (CJ_seq (CJ_region ?_)))
   refine LJ_q (yv_field tb rfl rfl rfl) rfl ?_
   refine LJ_q (yv_load1 tb rfl rfl rfl (by repeat (first | exact zi0 | apply zi1 | apply zi2)) (by rfl)) rfl ?_
   refine LJ_q (yv_move (show _ = Value.int _ _ from rfl)) rfl ?_
   refine LJ_q (by first | exact yv_index_ro tb rfl rfl rfl rfl (by first | assumption | exact zr (by simp)) rfl (by omega) | exact yv_index tb rfl rfl rfl rfl rfl (by omega)) rfl ?_
   refine LJ_q (by first | exact yv_load1_ro tb rfl rfl rfl (by first | assumption | exact zr (by simp)) (by assumption) (by rfl) | exact yv_load1 tb rfl rfl rfl (by repeat (first | exact zi0 | apply zi1 | apply zi2)) (by rfl) | exact yv_load1 tb rfl rfl rfl (by repeat (first | exact zi0 | apply zi1 | apply zi2)) (icell_get (by assumption)) | exact yv_load1 tb rfl rfl rfl (by repeat (first | exact zi0 | apply zi1 | apply zi2)) (rcell_get (fun _ => rfl) (by assumption) rfl)) rfl ?_
   refine LJ_q (yv_assign (show _ = Value.int _ _ from rfl)) rfl ?_
   refine LJ_nil (seqK_normal (CJ_seq ?_))
   refine CJ_drawn tb [0, 1, 2, 3, 4, 5, 6, 7, 8, 9, 10, 11, 12, 13, 14, 15, 16, 17, 18, 19, 20] ([Blk.mk ab _ _] ++ ((⟨roads.o, rl⟩ : OwL XRoad).L 64 XRoad.cells ++ [])) mixed (by kernel_rfl) (by repeat (first | exact zs0 _ | exact zs1 _ | apply zs2 | apply zs3 | apply zs4 | apply zs5)) ?_
   refine DJ_q (yv_move (show _ = Value.pointer _ from rfl)) rfl rfl rfl ?_
   refine DJ_q (yv_nilCheck rfl) rfl rfl rfl ?_
   refine DJ_q (yv_field_eo tb rfl rfl rfl) rfl rfl rfl ?_
   refine DJ_q (yv_field_eo tb rfl rfl rfl) rfl rfl rfl ?_
   refine DJ_q (yv_load1_ow tb ((⟨roads.o, rl⟩ : OwL XRoad)) rfl rfl rfl (by repeat (first | apply OSeg.cons | exact OSeg.here | exact OSeg.last | exact OSeg.at (by assumption) | apply OSeg.app)) (by assumption) (fun _ => rfl) (by assumption) (by rfl)) rfl rfl rfl ?_
   refine DJ_q (yv_move (show _ = Value.pointer _ from rfl)) rfl rfl rfl ?_
   refine DJ_q (yv_move (show _ = Value.pointer _ from rfl)) rfl rfl rfl ?_
   refine DJ_q (yv_nilCheck rfl) rfl rfl rfl ?_
   refine DJ_q (yv_field_eo tb rfl rfl rfl) rfl rfl rfl ?_
   refine DJ_q (yv_field_eo tb rfl rfl rfl) rfl rfl rfl ?_
   refine DJ_q (yv_load1_ow tb ((⟨roads.o, rl⟩ : OwL XRoad)) rfl rfl rfl (by repeat (first | apply OSeg.cons | exact OSeg.here | exact OSeg.last | exact OSeg.at (by assumption) | apply OSeg.app)) (by assumption) (fun _ => rfl) (by assumption) (by rfl)) rfl rfl rfl ?_
   refine DJ_q (yv_move (show _ = Value.pointer _ from rfl)) rfl rfl rfl ?_
   refine DJ_q (yv_nilCheck rfl) rfl rfl rfl ?_
   refine DJ_q (yv_field_eo tb rfl rfl rfl) rfl rfl rfl ?_
   refine DJ_q (yv_field_eo tb rfl rfl rfl) rfl rfl rfl ?_
   refine DJ_q (yv_load1_ow tb ((⟨roads.o, rl⟩ : OwL XRoad)) rfl rfl rfl (by repeat (first | apply OSeg.cons | exact OSeg.here | exact OSeg.last | exact OSeg.at (by assumption) | apply OSeg.app)) (by assumption) (fun _ => rfl) (by assumption) (by rfl)) rfl rfl rfl ?_
   refine DJ_q (by first | exact yv_sub64 rfl rfl (by omega) (by omega) | exact yv_sub rfl rfl) rfl rfl rfl ?_
   refine DJ_q (by first | exact yv_add64 rfl rfl (by omega) (by omega) | exact yv_addU rfl rfl (by omega) (by omega) | exact yv_add rfl rfl) rfl rfl rfl ?_
   refine DJ_call rfl (next1 (by repeat (first | apply USeg.here | apply USeg.cons | apply USeg.app)) hx hkk (by omega)) rfl rfl ?_
   rintro v L' R' ⟨e, k1, rfl, g1, g1', g1'', hk1, rfl, rfl⟩
   refine ⟨(by repeat (first | exact zs0 _ | exact zs1 _ | apply zs2 | apply zs3 | apply zs4 | apply zs5)), (by first | exact allR_self _ | exact (fun r h => inR_self (by simp [h]))), ?_⟩
   refine DJ_q (by first | exact yv_add64 rfl rfl (by omega) (by omega) | exact yv_addU rfl rfl (by omega) (by omega) | exact yv_add rfl rfl) rfl rfl rfl ?_
   refine DJ_q (yv_assign (show _ = Value.int _ _ from rfl)) rfl rfl rfl ?_
   refine DJ_nil (seqK_normal (CJ_seq (CJ_seq ?_)))
   have g1q := g1' (by omega)
   refine CJ_region ?_
   refine LJ_q (yv_assign (show _ = Value.int _ _ from rfl)) rfl ?_
   refine LJ_nil (seqK_normal (CJ_block ?_))
   refine CJ_forgetW [8, 9, 10, 11, 12, 13, 14, 15, 16, 17, 18, 19, 20, 21, 22, 23, 24, 25, 26, 27, 28, 29, 30, 31, 32, 33, 34, 35, 36, 37, 38, 39, 40, 41, 42, 43, 44, 45, 46, 47, 48, 49, 50, 51, 52, 53, 54, 55, 56, 57, 58, 59, 60, 61, 62, 63, 64, 65, 66, 67, 68, 69, 70, 71, 72, 73, 74, 75, 76, 77, 78, 79, 80, 81, 82, 83, 84, 85, 86, 87, 88, 89, 90, 91, 92, 93, 94, 95, 96, 97, 98, 99, 100, 101, 102, 103, 104, 105, 106, 107, 108, 109, 110, 111, 112, 113, 114, 115, 116, 117, 118, 119, 120, 121, 122, 123, 124, 125, 126, 127, 128, 129, 130, 131, 132, 133, 134, 135, 136, 137, 138, 139, 140, 141, 142, 143, 144, 145, 146, 147, 148, 149, 150, 151, 152, 153, 154, 155, 156, 157, 158, 159, 160, 161, 162, 163, 164, 165] (by repeat (first | apply Off.upd rfl | apply Off.havoc rfl | refine Off.updL (t' := havoc _ _ _) rfl ?_ | exact Off.refl)) [(8, Value.int _ _), (9, Value.pointer _), (10, Value.int _ _), (11, Value.int _ _), (12, Value.int _ _)] (by repeat' (first | exact trivial | refine And.intro rfl ?_)) fun tq1 => ?_
   refine CJ_loopS [11, 12, 57, 58, 59, 60, 61, 62, 63, 64, 65, 66, 67, 68, 69, 70, 71, 72, 73, 74, 75, 76, 77, 78, 79, 80, 81, 82, 83, 84, 85, 86, 87, 88, 89, 90, 91] (fun g : {g : Nat × Int // g.1 ≤ a.doors.l.length ∧ g.2 = r.rest.low + e + dSum a.doors.l s.doors.l i g.1} => [(12, .int .i64 ((g.1.1 : Nat) : Int)), (11, .int .i64 g.1.2)]) (fun g => a.doors.l.length - g.1.1) (⟨(0, r.rest.low + e), Nat.zero_le _, (Int.add_zero _).symm⟩) (by repeat' (first | exact trivial | refine And.intro rfl ?_)) ?_
   rintro ⟨⟨kd, rs⟩, hkd, hrs⟩ junk
   try dsimp only
   dsimp only at hkd hrs
   refine CJ_seq (CJ_seq (CJ_region ?_))
   refine LJ_q (yv_move (show _ = Value.int _ _ from rfl)) rfl ?_
   refine LJ_q (yv_move (show _ = Value.pointer _ from rfl)) rfl ?_
   refine LJ_q (yv_nilCheck rfl) rfl ?_
   refine LJ_q (yv_field tb rfl rfl rfl) rfl ?_
   refine LJ_q (yv_load1 tb rfl rfl rfl (by repeat (first | exact zi0 | apply zi1 | apply zi2)) (by rfl)) rfl ?_
   refine LJ_q (yv_len tb rfl rfl rfl) rfl ?_
   refine LJ_q (yv_lss rfl rfl) rfl ?_
   refine LJ_nil (seqK_normal ?_)
   refine CJ_cond (show _ = Value.bool _ from rfl) (fun hc1 => ?_) (fun hc1 => ?_)
   ·
    try simp only [zb1, zb2, zb3, zb4, zb5, zb6, zb7, zb8] at hc1
    have hdk := get_D (l := a.doors.l) (k := kd) default (by omega)
    have hsk := get_D (l := s.doors.l) (k := kd) 0 (by omega)
    have hdb := dSum_bounds hD i kd (by omega)
    have hrb := restS_made (hD.door _ (List.mem_of_getElem? hdk)).made (hD.st kd _ _ hdk hsk)
    refine CJ_skip (seqK_normal (CJ_seq (CJ_block (CJ_seq (CJ_region ?_)))))
    refine LJ_q (yv_move (show _ = Value.pointer _ from rfl)) rfl ?_
    refine LJ_q (yv_nilCheck rfl) rfl ?_
    refine LJ_q (yv_field tb rfl rfl rfl) rfl ?_
    refine LJ_q (yv_load1 tb rfl rfl rfl (by repeat (first | exact zi0 | apply zi1 | apply zi2)) (by rfl)) rfl ?_
    refine LJ_q (yv_move (show _ = Value.int _ _ from rfl)) rfl ?_
    refine LJ_q (by first | exact yv_index_ro tb rfl rfl rfl rfl (by first | assumption | exact zr (by simp)) rfl (by omega) | exact yv_index tb rfl rfl rfl rfl rfl (by omega)) rfl ?_
    refine LJ_q (yv_field_eo tb rfl rfl rfl) rfl ?_
    refine LJ_q (by first | exact yv_load1_ro tb rfl rfl rfl (by first | assumption | exact zr (by simp)) (by assumption) (by rfl) | exact yv_load1 tb rfl rfl rfl (by repeat (first | exact zi0 | apply zi1 | apply zi2)) (by rfl) | exact yv_load1 tb rfl rfl rfl (by repeat (first | exact zi0 | apply zi1 | apply zi2)) (icell_get (by assumption)) | exact yv_load1 tb rfl rfl rfl (by repeat (first | exact zi0 | apply zi1 | apply zi2)) (rcell_get (fun _ => rfl) (by assumption) rfl)) rfl ?_
    refine LJ_q (yv_move (show _ = Value.int _ _ from rfl)) rfl ?_
    refine LJ_q (yv_eql rfl rfl) rfl ?_
    refine LJ_nil (seqK_normal ?_)
    refine CJ_cond (show _ = Value.bool _ from rfl) (fun hc2 => ?_) (fun hc2 => ?_)
    ·
     try simp only [zb1, zb2, zb3, zb4, zb5, zb6, zb7, zb8] at hc2
     refine CJ_drawn tb [0, 1, 2, 3, 4, 5, 6, 7, 8, 9, 10, 11, 12, 13, 14, 15, 16] _ mixed (by kernel_rfl) (List.Sublist.refl _) ?_
     refine DJ_q (yv_move (show _ = Value.int _ _ from rfl)) rfl rfl rfl ?_
     refine DJ_q (yv_move (show _ = Value.pointer _ from rfl)) rfl rfl rfl ?_
     refine DJ_q (yv_nilCheck rfl) rfl rfl rfl ?_
     refine DJ_q (yv_field tb rfl rfl rfl) rfl rfl rfl ?_
     refine DJ_q (yv_load1 tb rfl rfl rfl (by repeat (first | exact zi0 | apply zi1 | apply zi2)) (by rfl)) rfl rfl rfl ?_
     refine DJ_q (yv_move (show _ = Value.int _ _ from rfl)) rfl rfl rfl ?_
     refine DJ_q (by first | exact yv_index_ro tb rfl rfl rfl rfl (by first | assumption | exact zr (by simp)) rfl (by omega) | exact yv_index tb rfl rfl rfl rfl rfl (by omega)) rfl rfl rfl ?_
     refine DJ_q (by first | exact yv_loadN_ro (row := [_, _, _]) tb rfl rfl rfl (by first | assumption | exact zr (by simp)) (by assumption) (by rfl) (by rfl) | exact yv_loadN (row := [_, _, _]) tb rfl rfl rfl (by repeat (first | exact zi0 | apply zi1 | apply zi2)) (by rfl) (by rfl)) rfl rfl rfl ?_
     refine DJ_q (yv_field tb rfl rfl rfl) rfl rfl rfl ?_
     refine DJ_q (yv_load1 tb rfl rfl rfl (by repeat (first | exact zi0 | apply zi1 | apply zi2)) (by rfl)) rfl rfl rfl ?_
     refine DJ_q (yv_move (show _ = Value.int _ _ from rfl)) rfl rfl rfl ?_
     refine DJ_q (by first | exact yv_index_ro tb rfl rfl rfl rfl (by first | assumption | exact zr (by simp)) rfl (by omega) | exact yv_index tb rfl rfl rfl rfl rfl (by omega)) rfl rfl rfl ?_
     refine DJ_q (by first | exact yv_load1_ro tb rfl rfl rfl (by first | assumption | exact zr (by simp)) (by assumption) (by rfl) | exact yv_load1 tb rfl rfl rfl (by repeat (first | exact zi0 | apply zi1 | apply zi2)) (by rfl) | exact yv_load1 tb rfl rfl rfl (by repeat (first | exact zi0 | apply zi1 | apply zi2)) (icell_get (by assumption)) | exact yv_load1 tb rfl rfl rfl (by repeat (first | exact zi0 | apply zi1 | apply zi2)) (rcell_get (fun _ => rfl) (by assumption) rfl)) rfl rfl rfl ?_
     refine DJ_call rfl (ref08Rest_tri (a.doors.l.getD kd default) (s.doors.l.getD kd 0) _ _ (hdo.door hdk)) rfl rfl ?_
     rintro v L' R' ⟨rfl, rfl, rfl⟩
     refine ⟨(by repeat (first | exact zs0 _ | exact zs1 _ | apply zs2 | apply zs3 | apply zs4 | apply zs5)), (by first | exact allR_self _ | exact (fun r h => inR_self (by simp [h]))), ?_⟩
     refine DJ_q (yv_fieldv (e := 3) tb rfl (by kernel_rfl) rfl rfl rfl rfl rfl) rfl rfl rfl ?_
     refine DJ_q (by first | exact yv_add64 rfl rfl (by omega) (by omega) | exact yv_addU rfl rfl (by omega) (by omega) | exact yv_add rfl rfl) rfl rfl rfl ?_
     refine DJ_q (yv_assign (show _ = Value.int _ _ from rfl)) rfl rfl rfl ?_
     refine DJ_nil (blockK_normal (seqK_normal (CJ_region ?_)))
     refine LJ_q (yv_move (show _ = Value.int _ _ from rfl)) rfl ?_
     refine LJ_q (by first | exact yv_add64 rfl rfl (by omega) (by omega) | exact yv_addU rfl rfl (by omega) (by omega) | exact yv_add rfl rfl) rfl ?_
     refine LJ_q (yv_assign (show _ = Value.int _ _ from rfl)) rfl ?_
     refine LJ_nil ?_
     first | exact loopK_mk ⟨(kd + 1, rs + (restS (a.doors.l.getD kd default) (s.doors.l.getD kd 0)).low), by dsimp only; omega, by dsimp only; rw [dSum, if_pos hc2, hrs, Int.add_assoc]⟩ (by repeat (first | exact Off.refl | apply Off.upd rfl | apply Off.havoc rfl | apply Off.updL rfl | apply Off.left rfl)) (by repeat' (first | exact trivial | refine And.intro rfl ?_)) (by repeat (first | exact zs0 _ | exact zs1 _ | apply zs2 | apply zs3 | apply zs4 | apply zs5)) (allR_self _) (by dsimp only; omega) | exact loopK_mk ⟨(kd + 1, rs), by dsimp only; omega, by dsimp only; rw [dSum, if_neg hc2, hrs]⟩ (by repeat (first | exact Off.refl | apply Off.upd rfl | apply Off.havoc rfl | apply Off.updL rfl | apply Off.left rfl)) (by repeat' (first | exact trivial | refine And.intro rfl ?_)) (by repeat (first | exact zs0 _ | exact zs1 _ | apply zs2 | apply zs3 | apply zs4 | apply zs5)) (allR_self _) (by dsimp only; omega)
    ·
     try simp only [zb1, zb2, zb3, zb4, zb5, zb6, zb7, zb8] at hc2
     refine CJ_skip (blockK_normal (seqK_normal (CJ_region ?_)))
     refine LJ_q (yv_move (show _ = Value.int _ _ from rfl)) rfl ?_
     refine LJ_q (by first | exact yv_add64 rfl rfl (by omega) (by omega) | exact yv_addU rfl rfl (by omega) (by omega) | exact yv_add rfl rfl) rfl ?_
     refine LJ_q (yv_assign (show _ = Value.int _ _ from rfl)) rfl ?_
     refine LJ_nil ?_
     first | exact loopK_mk ⟨(kd + 1, rs + (restS (a.doors.l.getD kd default) (s.doors.l.getD kd 0)).low), by dsimp only; omega, by dsimp only; rw [dSum, if_pos hc2, hrs, Int.add_assoc]⟩ (by repeat (first | exact Off.refl | apply Off.upd rfl | apply Off.havoc rfl | apply Off.updL rfl | apply Off.left rfl)) (by repeat' (first | exact trivial | refine And.intro rfl ?_)) (by repeat (first | exact zs0 _ | exact zs1 _ | apply zs2 | apply zs3 | apply zs4 | apply zs5)) (allR_self _) (by dsimp only; omega) | exact loopK_mk ⟨(kd + 1, rs), by dsimp only; omega, by dsimp only; rw [dSum, if_neg hc2, hrs]⟩ (by repeat (first | exact Off.refl | apply Off.upd rfl | apply Off.havoc rfl | apply Off.updL rfl | apply Off.left rfl)) (by repeat' (first | exact trivial | refine And.intro rfl ?_)) (by repeat (first | exact zs0 _ | exact zs1 _ | apply zs2 | apply zs3 | apply zs4 | apply zs5)) (allR_self _) (by dsimp only; omega)
   ·
    try simp only [zb1, zb2, zb3, zb4, zb5, zb6, zb7, zb8] at hc1
    obtain rfl : kd = a.doors.l.length := by omega
    have hdb := dSum_bounds hD i a.doors.l.length (Nat.le_refl _)
    have hlb := lift_bounds (R := rs) (q := q) (by omega) hqq
    refine CJ_exit (seqK_exit (loopK_exit (blockK_exit (seqK_normal (CJ_seq ?_)))))
    refine CJ_drawn tb [0, 1, 2, 3, 4, 5, 6, 7, 8, 9, 10, 11, 12, 13, 14, 15, 16, 17, 18, 19, 20, 21, 22, 23, 24, 25, 26] _ mixed (by kernel_rfl) (List.Sublist.refl _) ?_
    refine DJ_q (yv_move (show _ = Value.int _ _ from rfl)) rfl rfl rfl ?_
    refine DJ_q (yv_move (show _ = Value.int _ _ from rfl)) rfl rfl rfl ?_
    refine DJ_q (yv_move (show _ = Value.int _ _ from rfl)) rfl rfl rfl ?_
    refine DJ_q (yv_neg64 rfl (by omega) (by omega)) rfl rfl rfl ?_
    refine DJ_q (yv_max2 rfl rfl) rfl rfl rfl ?_
    refine DJ_q (by first | exact yv_mul64 rfl rfl (by omega) (by omega) | exact yv_mulU rfl rfl (by omega) (by omega) | exact yv_mul rfl rfl) rfl rfl rfl ?_
    refine DJ_q (yv_move (show _ = Value.int _ _ from rfl)) rfl rfl rfl ?_
    refine DJ_q (by first | exact yv_mul64 rfl rfl (by omega) (by omega) | exact yv_mulU rfl rfl (by omega) (by omega) | exact yv_mul rfl rfl) rfl rfl rfl ?_
    refine DJ_q (yv_field tb rfl rfl rfl) rfl rfl rfl ?_
    refine DJ_q (yv_load1 tb rfl rfl rfl (by repeat (first | exact zi0 | apply zi1 | apply zi2)) (by rfl)) rfl rfl rfl ?_
    refine DJ_q (yv_move (show _ = Value.pointer _ from rfl)) rfl rfl rfl ?_
    refine DJ_q (yv_nilCheck rfl) rfl rfl rfl ?_
    refine DJ_q (yv_field_eo tb rfl rfl rfl) rfl rfl rfl ?_
    refine DJ_q (yv_load1_ow tb ((⟨roads.o, rl⟩ : OwL XRoad)) rfl rfl rfl (by repeat (first | apply OSeg.cons | exact OSeg.here | exact OSeg.last | exact OSeg.at (by assumption) | apply OSeg.app)) (by assumption) (fun _ => rfl) (by assumption) (by rfl)) rfl rfl rfl ?_
    refine DJ_q (by first | exact yv_index_ro tb rfl rfl rfl rfl (by first | assumption | exact zr (by simp)) (i := r.fr.toNat) (by first | rfl | omega | (simp; omega)) (by omega) | exact yv_index tb rfl rfl rfl rfl (i := r.fr.toNat) (by first | rfl | omega | (simp; omega)) (by omega)) rfl rfl rfl ?_
    refine DJ_q (by first | exact yv_load1_ro tb rfl rfl rfl (by first | assumption | exact zr (by simp)) (by assumption) (by rfl) | exact yv_load1 tb rfl rfl rfl (by repeat (first | exact zi0 | apply zi1 | apply zi2)) (by rfl) | exact yv_load1 tb rfl rfl rfl (by repeat (first | exact zi0 | apply zi1 | apply zi2)) (icell_get (by assumption)) | exact yv_load1 tb rfl rfl rfl (by repeat (first | exact zi0 | apply zi1 | apply zi2)) (rcell_get (fun _ => rfl) (by assumption) rfl)) rfl rfl rfl ?_
    refine DJ_q (yv_field tb rfl rfl rfl) rfl rfl rfl ?_
    refine DJ_q (yv_load1 tb rfl rfl rfl (by repeat (first | exact zi0 | apply zi1 | apply zi2)) (by rfl)) rfl rfl rfl ?_
    refine DJ_q (yv_move (show _ = Value.pointer _ from rfl)) rfl rfl rfl ?_
    refine DJ_q (yv_nilCheck rfl) rfl rfl rfl ?_
    refine DJ_q (yv_field_eo tb rfl rfl rfl) rfl rfl rfl ?_
    refine DJ_q (yv_load1_ow tb ((⟨roads.o, rl⟩ : OwL XRoad)) rfl rfl rfl (by repeat (first | apply OSeg.cons | exact OSeg.here | exact OSeg.last | exact OSeg.at (by assumption) | apply OSeg.app)) (by assumption) (fun _ => rfl) (by assumption) (by rfl)) rfl rfl rfl ?_
    refine DJ_q (by first | exact yv_index_ro tb rfl rfl rfl rfl (by first | assumption | exact zr (by simp)) (i := r.to.toNat) (by first | rfl | omega | (simp; omega)) (by omega) | exact yv_index tb rfl rfl rfl rfl (i := r.to.toNat) (by first | rfl | omega | (simp; omega)) (by omega)) rfl rfl rfl ?_
    refine DJ_q (by first | exact yv_load1_ro tb rfl rfl rfl (by first | assumption | exact zr (by simp)) (by assumption) (by rfl) | exact yv_load1 tb rfl rfl rfl (by repeat (first | exact zi0 | apply zi1 | apply zi2)) (by rfl) | exact yv_load1 tb rfl rfl rfl (by repeat (first | exact zi0 | apply zi1 | apply zi2)) (icell_get (by assumption)) | exact yv_load1 tb rfl rfl rfl (by repeat (first | exact zi0 | apply zi1 | apply zi2)) (rcell_get (fun _ => rfl) (by assumption) rfl)) rfl rfl rfl ?_
    refine DJ_q (by first | exact yv_sub64 rfl rfl (by omega) (by omega) | exact yv_sub rfl rfl) rfl rfl rfl ?_
    refine DJ_q (by first | exact yv_sub64 rfl rfl (by omega) (by omega) | exact yv_sub rfl rfl) rfl rfl rfl ?_
    refine DJ_q (yv_assign (show _ = Value.int _ _ from rfl)) rfl rfl rfl ?_
    refine DJ_nil (seqK_normal (CJ_seq (CJ_seq (CJ_region ?_))))
    refine LJ_q (yv_assign (show _ = Value.int _ _ from rfl)) rfl ?_
    refine LJ_nil (seqK_normal (CJ_block ?_))
    refine CJ_forgetW [8, 9, 10, 11, 12, 13, 14, 15, 16, 17, 18, 19, 20, 21, 22, 23, 24, 25, 26, 27, 28, 29, 30, 31, 32, 33, 34, 35, 36, 37, 38, 39, 40, 41, 42, 43, 44, 45, 46, 47, 48, 49, 50, 51, 52, 53, 54, 55, 56, 57, 58, 59, 60, 61, 62, 63, 64, 65, 66, 67, 68, 69, 70, 71, 72, 73, 74, 75, 76, 77, 78, 79, 80, 81, 82, 83, 84, 85, 86, 87, 88, 89, 90, 91, 92, 93, 94, 95, 96, 97, 98, 99, 100, 101, 102, 103, 104, 105, 106, 107, 108, 109, 110, 111, 112, 113, 114, 115, 116, 117, 118, 119, 120, 121, 122, 123, 124, 125, 126, 127, 128, 129, 130, 131, 132, 133, 134, 135, 136, 137, 138, 139, 140, 141, 142, 143, 144, 145, 146, 147, 148, 149, 150, 151, 152, 153, 154, 155, 156, 157, 158, 159, 160, 161, 162, 163, 164, 165] (by repeat (first | apply Off.upd rfl | apply Off.havoc rfl | refine Off.updL (t' := havoc _ _ _) rfl ?_ | exact Off.refl)) [(8, Value.int _ _), (9, Value.pointer _), (10, Value.int _ _), (13, Value.int _ _), (14, Value.int _ _)] (by repeat' (first | exact trivial | refine And.intro rfl ?_)) fun tq2 => ?_
    refine CJ_loopS [13, 14, 118, 119, 120, 121, 122, 123, 124, 125, 126, 127, 128, 129, 130, 131, 132, 133, 134, 135, 136, 137, 138, 139, 140, 141, 142, 143, 144, 145, 146, 147, 148, 149, 150, 151, 152, 153] (fun g : {g : Nat × Int // g.1 ≤ a.fans.l.length ∧ g.2 = rs * max q (-q) * q - presAt st r - fSum a.fans.l s.fans.l i q g.1} => [(14, .int .i64 ((g.1.1 : Nat) : Int)), (13, .int .i64 g.1.2)]) (fun g => a.fans.l.length - g.1.1) (⟨(0, rs * max q (-q) * q - presAt st r), Nat.zero_le _, (Int.sub_zero _).symm⟩) (by repeat' (first | exact trivial | refine And.intro rfl ?_)) ?_
    rintro ⟨⟨kf, lf⟩, hkf, hlf⟩ junk
    try dsimp only
    dsimp only at hkf hlf
    refine CJ_seq (CJ_seq (CJ_region ?_))
    refine LJ_q (yv_move (show _ = Value.int _ _ from rfl)) rfl ?_
    refine LJ_q (yv_move (show _ = Value.pointer _ from rfl)) rfl ?_
    refine LJ_q (yv_nilCheck rfl) rfl ?_
    refine LJ_q (yv_field tb rfl rfl rfl) rfl ?_
    refine LJ_q (yv_load1 tb rfl rfl rfl (by repeat (first | exact zi0 | apply zi1 | apply zi2)) (by rfl)) rfl ?_
    refine LJ_q (yv_len tb rfl rfl rfl) rfl ?_
    refine LJ_q (yv_lss rfl rfl) rfl ?_
    refine LJ_nil (seqK_normal ?_)
    refine CJ_cond (show _ = Value.bool _ from rfl) (fun hc3 => ?_) (fun hc3 => ?_)
    ·
     try simp only [zb1, zb2, zb3, zb4, zb5, zb6, zb7, zb8] at hc3
     have hfk := get_D (l := a.fans.l) (k := kf) default (by omega)
     have hsk := get_D (l := s.fans.l) (k := kf) 0 (by omega)
     have hfb := fSum_bounds hF i q kf (by omega)
     have hfd := hF.fan _ (List.mem_of_getElem? hfk)
     have hsb := stateS_made hfd.curve (s.fans.l.getD kf 0) q
     have hst2 := hF.st _ (List.mem_of_getElem? hsk)
     refine CJ_skip (seqK_normal (CJ_seq (CJ_block (CJ_seq (CJ_region ?_)))))
     refine LJ_q (yv_move (show _ = Value.pointer _ from rfl)) rfl ?_
     refine LJ_q (yv_nilCheck rfl) rfl ?_
     refine LJ_q (yv_field tb rfl rfl rfl) rfl ?_
     refine LJ_q (yv_load1 tb rfl rfl rfl (by repeat (first | exact zi0 | apply zi1 | apply zi2)) (by rfl)) rfl ?_
     refine LJ_q (yv_move (show _ = Value.int _ _ from rfl)) rfl ?_
     refine LJ_q (by first | exact yv_index_ro tb rfl rfl rfl rfl (by first | assumption | exact zr (by simp)) rfl (by omega) | exact yv_index tb rfl rfl rfl rfl rfl (by omega)) rfl ?_
     refine LJ_q (yv_field_eo tb rfl rfl rfl) rfl ?_
     refine LJ_q (by first | exact yv_load1_ro tb rfl rfl rfl (by first | assumption | exact zr (by simp)) (by assumption) (by rfl) | exact yv_load1 tb rfl rfl rfl (by repeat (first | exact zi0 | apply zi1 | apply zi2)) (by rfl) | exact yv_load1 tb rfl rfl rfl (by repeat (first | exact zi0 | apply zi1 | apply zi2)) (icell_get (by assumption)) | exact yv_load1 tb rfl rfl rfl (by repeat (first | exact zi0 | apply zi1 | apply zi2)) (rcell_get (fun _ => rfl) (by assumption) rfl)) rfl ?_
     refine LJ_q (yv_move (show _ = Value.int _ _ from rfl)) rfl ?_
     refine LJ_q (yv_eql rfl rfl) rfl ?_
     refine LJ_nil (seqK_normal ?_)
     refine CJ_cond (show _ = Value.bool _ from rfl) (fun hc4 => ?_) (fun hc4 => ?_)
     ·
      try simp only [zb1, zb2, zb3, zb4, zb5, zb6, zb7, zb8] at hc4
      refine CJ_drawn tb [0, 1, 2, 3, 4, 5, 6, 7, 8, 9, 10, 11, 12, 13, 14, 15, 16, 17] _ mixed (by kernel_rfl) (List.Sublist.refl _) ?_
      refine DJ_q (yv_move (show _ = Value.int _ _ from rfl)) rfl rfl rfl ?_
      refine DJ_q (yv_move (show _ = Value.pointer _ from rfl)) rfl rfl rfl ?_
      refine DJ_q (yv_nilCheck rfl) rfl rfl rfl ?_
      refine DJ_q (yv_field tb rfl rfl rfl) rfl rfl rfl ?_
      refine DJ_q (yv_load1 tb rfl rfl rfl (by repeat (first | exact zi0 | apply zi1 | apply zi2)) (by rfl)) rfl rfl rfl ?_
      refine DJ_q (yv_move (show _ = Value.int _ _ from rfl)) rfl rfl rfl ?_
      refine DJ_q (by first | exact yv_index_ro tb rfl rfl rfl rfl (by first | assumption | exact zr (by simp)) rfl (by omega) | exact yv_index tb rfl rfl rfl rfl rfl (by omega)) rfl rfl rfl ?_
      refine DJ_q (by first | exact yv_loadN_ro (row := [_, _, _, _]) tb rfl rfl rfl (by first | assumption | exact zr (by simp)) (by assumption) (by rfl) (by rfl) | exact yv_loadN (row := [_, _, _, _]) tb rfl rfl rfl (by repeat (first | exact zi0 | apply zi1 | apply zi2)) (by rfl) (by rfl)) rfl rfl rfl ?_
      refine DJ_q (yv_field tb rfl rfl rfl) rfl rfl rfl ?_
      refine DJ_q (yv_load1 tb rfl rfl rfl (by repeat (first | exact zi0 | apply zi1 | apply zi2)) (by rfl)) rfl rfl rfl ?_
      refine DJ_q (yv_move (show _ = Value.int _ _ from rfl)) rfl rfl rfl ?_
      refine DJ_q (by first | exact yv_index_ro tb rfl rfl rfl rfl (by first | assumption | exact zr (by simp)) rfl (by omega) | exact yv_index tb rfl rfl rfl rfl rfl (by omega)) rfl rfl rfl ?_
      refine DJ_q (by first | exact yv_load1_ro tb rfl rfl rfl (by first | assumption | exact zr (by simp)) (by assumption) (by rfl) | exact yv_load1 tb rfl rfl rfl (by repeat (first | exact zi0 | apply zi1 | apply zi2)) (by rfl) | exact yv_load1 tb rfl rfl rfl (by repeat (first | exact zi0 | apply zi1 | apply zi2)) (icell_get (by assumption)) | exact yv_load1 tb rfl rfl rfl (by repeat (first | exact zi0 | apply zi1 | apply zi2)) (rcell_get (fun _ => rfl) (by assumption) rfl)) rfl rfl rfl ?_
      refine DJ_q (yv_move (show _ = Value.int _ _ from rfl)) rfl rfl rfl ?_
      refine DJ_call rfl (state07_tri (a.fans.l.getD kf default) (s.fans.l.getD kf 0) q _ _ (hfa.fan hfk) hfd.ok (by omega) (by omega)) rfl rfl ?_
      rintro v L' R' ⟨rfl, rfl, rfl⟩
      refine ⟨(by repeat (first | exact zs0 _ | exact zs1 _ | apply zs2 | apply zs3 | apply zs4 | apply zs5)), (by first | exact allR_self _ | exact (fun r h => inR_self (by simp [h]))), ?_⟩
      refine DJ_q (yv_fieldv (e := 3) tb rfl (by kernel_rfl) rfl rfl rfl rfl rfl) rfl rfl rfl ?_
      refine DJ_q (by first | exact yv_sub64 rfl rfl (by omega) (by omega) | exact yv_sub rfl rfl) rfl rfl rfl ?_
      refine DJ_q (yv_assign (show _ = Value.int _ _ from rfl)) rfl rfl rfl ?_
      refine DJ_nil (blockK_normal (seqK_normal (CJ_region ?_)))
      refine LJ_q (yv_move (show _ = Value.int _ _ from rfl)) rfl ?_
      refine LJ_q (by first | exact yv_add64 rfl rfl (by omega) (by omega) | exact yv_addU rfl rfl (by omega) (by omega) | exact yv_add rfl rfl) rfl ?_
      refine LJ_q (yv_assign (show _ = Value.int _ _ from rfl)) rfl ?_
      refine LJ_nil ?_
      first | exact loopK_mk ⟨(kf + 1, lf - (stateS (a.fans.l.getD kf default) (s.fans.l.getD kf 0) q).low), by dsimp only; omega, by dsimp only; rw [fSum, if_pos hc4, hlf, Int.sub_sub]⟩ (by repeat (first | exact Off.refl | apply Off.upd rfl | apply Off.havoc rfl | apply Off.updL rfl | apply Off.left rfl)) (by repeat' (first | exact trivial | refine And.intro rfl ?_)) (by repeat (first | exact zs0 _ | exact zs1 _ | apply zs2 | apply zs3 | apply zs4 | apply zs5)) (allR_self _) (by dsimp only; omega) | exact loopK_mk ⟨(kf + 1, lf), by dsimp only; omega, by dsimp only; rw [fSum, if_neg hc4, hlf]⟩ (by repeat (first | exact Off.refl | apply Off.upd rfl | apply Off.havoc rfl | apply Off.updL rfl | apply Off.left rfl)) (by repeat' (first | exact trivial | refine And.intro rfl ?_)) (by repeat (first | exact zs0 _ | exact zs1 _ | apply zs2 | apply zs3 | apply zs4 | apply zs5)) (allR_self _) (by dsimp only; omega)
     ·
      try simp only [zb1, zb2, zb3, zb4, zb5, zb6, zb7, zb8] at hc4
      refine CJ_skip (blockK_normal (seqK_normal (CJ_region ?_)))
      refine LJ_q (yv_move (show _ = Value.int _ _ from rfl)) rfl ?_
      refine LJ_q (by first | exact yv_add64 rfl rfl (by omega) (by omega) | exact yv_addU rfl rfl (by omega) (by omega) | exact yv_add rfl rfl) rfl ?_
      refine LJ_q (yv_assign (show _ = Value.int _ _ from rfl)) rfl ?_
      refine LJ_nil ?_
      first | exact loopK_mk ⟨(kf + 1, lf - (stateS (a.fans.l.getD kf default) (s.fans.l.getD kf 0) q).low), by dsimp only; omega, by dsimp only; rw [fSum, if_pos hc4, hlf, Int.sub_sub]⟩ (by repeat (first | exact Off.refl | apply Off.upd rfl | apply Off.havoc rfl | apply Off.updL rfl | apply Off.left rfl)) (by repeat' (first | exact trivial | refine And.intro rfl ?_)) (by repeat (first | exact zs0 _ | exact zs1 _ | apply zs2 | apply zs3 | apply zs4 | apply zs5)) (allR_self _) (by dsimp only; omega) | exact loopK_mk ⟨(kf + 1, lf), by dsimp only; omega, by dsimp only; rw [fSum, if_neg hc4, hlf]⟩ (by repeat (first | exact Off.refl | apply Off.upd rfl | apply Off.havoc rfl | apply Off.updL rfl | apply Off.left rfl)) (by repeat' (first | exact trivial | refine And.intro rfl ?_)) (by repeat (first | exact zs0 _ | exact zs1 _ | apply zs2 | apply zs3 | apply zs4 | apply zs5)) (allR_self _) (by dsimp only; omega)
    ·
     try simp only [zb1, zb2, zb3, zb4, zb5, zb6, zb7, zb8] at hc3
     obtain rfl : kf = a.fans.l.length := by omega
     have hfb := fSum_bounds hF i q a.fans.l.length (Nat.le_refl _)
     refine CJ_exit (seqK_exit (loopK_exit (blockK_exit (seqK_normal (CJ_region ?_)))))
     refine LJ_q (yv_move (show _ = Value.pointer _ from rfl)) rfl ?_
     refine LJ_q (yv_move (show _ = Value.int _ _ from rfl)) rfl ?_
     refine LJ_q (yv_move (show _ = Value.pointer _ from rfl)) rfl ?_
     refine LJ_call rfl (next1 (by repeat (first | apply USeg.here | apply USeg.cons | apply USeg.app)) hx hk1 (by omega)) rfl ?_
     rintro v L' R' ⟨u, k2, rfl, g2, g2', g2'', hk2, rfl, rfl⟩
     refine LJ_q (by first | exact yv_sub64 rfl rfl (by omega) (by omega) | exact yv_sub rfl rfl) rfl ?_
     refine LJ_q (yv_move (show _ = Value.int _ _ from rfl)) rfl ?_
     refine LJ_q (yv_move (show _ = Value.pointer _ from rfl)) rfl ?_
     refine LJ_call rfl (next1 (by repeat (first | apply USeg.here | apply USeg.cons | apply USeg.app)) hx hk2 (by omega)) rfl ?_
     rintro v L' R' ⟨w, k3, rfl, g3, g3', g3'', hk3, rfl, rfl⟩
     have g2q := g2' (by omega)
     refine LJ_q (by first | exact yv_add64 rfl rfl (by omega) (by omega) | exact yv_addU rfl rfl (by omega) (by omega) | exact yv_add rfl rfl) rfl ?_
     refine LJ_q (yv_build (qs := [(0, (Value.int _ _).cells.toList), (1, (Value.int _ _).cells.toList)]) (out := [_, _]) tb rfl rfl rfl rfl) rfl ?_
     refine LJ_q (yv_nilCheck rfl) rfl ?_
     refine LJ_q (yv_field_eo tb rfl rfl rfl) rfl ?_
     refine LJ_g0 (gives_storeN_ow tb ((⟨roads.o, rl⟩ : OwL XRoad)) ({ r with lift := ⟨lf - u, lf + w⟩ }) rfl rfl rfl rfl (by repeat (first | apply OSeg.cons | exact OSeg.here | exact OSeg.last | exact OSeg.at (by assumption) | apply OSeg.app)) (by assumption) (fun _ => rfl) (by assumption) (Nat.le_of_ble_eq_true rfl) (by rfl) (by rfl)) ?_
     rintro v L' R' ⟨rfl, rfl⟩
     refine LJ_nil (blockK_normal (seqK_normal (CJ_region ?_)))
     refine LJ_q (yv_move (show _ = Value.int _ _ from rfl)) rfl ?_
     refine LJ_q (by first | exact yv_add64 rfl rfl (by omega) (by omega) | exact yv_addU rfl rfl (by omega) (by omega) | exact yv_add rfl rfl) rfl ?_
     refine LJ_q (yv_assign (show _ = Value.int _ _ from rfl)) rfl ?_
     refine LJ_nil ?_
     have g3q := g3' (by omega)
     exact loopK_mk ⟨(k3, i + 1, rl.set i { r with lift := ⟨lf - u, lf + w⟩ }), hk3, by dsimp only; omega, OwL.set_ok (p := ⟨roads.o, rl⟩) (fun _ => rfl) hokr, hI.next hr0 ⟨e, u, w, by omega, by omega, by omega, by rw [liftOf, ← hrs, ← hqe, ← hlf]⟩⟩ (by repeat (first | exact Off.refl | apply Off.upd rfl | apply Off.havoc rfl | apply Off.updL rfl | apply Off.left rfl)) (by repeat' (first | exact trivial | refine And.intro rfl ?_)) (by dsimp only; rw [OwL.set_val]; exact (by repeat (first | exact zs0 _ | exact zs1 _ | apply zs2 | apply zs3 | apply zs4 | apply zs5))) (allR_self _) (by dsimp only; omega)
  ·
   try simp only [zb1, zb2, zb3, zb4, zb5, zb6, zb7, zb8] at hc0
   obtain rfl : i = roads.l.length := by omega
   refine CJ_exit (seqK_exit (loopK_exit (blockK_exit ?_)))
   refine retK_normal (L' := cblk c x kk :: ⟨ab, [pv, roads.val, a.fans.val, a.doors.val], 30⟩ :: ((⟨roads.o, rl⟩ : OwL XRoad).L 64 XRoad.cells ++ [])) (R' := R) (res0 rfl ) ?hp ?hL ?hR
   case hp => exact ⟨rl, kk, rfl, hI, hkk, rfl, rfl⟩
   case hL =>
    have e : roads.val = (⟨roads.o, rl⟩ : OwL XRoad).val := by simp only [OwL.val, hrl]
    rw [e]; exact (by repeat (first | exact zs0 _ | exact zs1 _ | apply zs2 | apply zs3 | apply zs4 | apply zs5))
   case hR => exact allR_self _

/-- the same where the caller lends what is read -/
theorem fit_lent {A B : List Blk} {c ab : Nat} {x : Arr Int} {k n : Nat} {pv : Value} {roads : OwL XRoad} {fans : OwL XFan} {doors : OwL XDoor} {sf sd pres flows : OwL Int} {R : List Sl} (mine : XMine)
    (hsp : Spl A B (roads.L 64 XRoad.cells ++ (cblk c x k :: ⟨ab, [pv, roads.val, fans.val, doors.val], 30⟩ :: [])))
    (b1 : InB (fans.L 44 XFan.cells) B) (b2 : InB (doors.L 46 XDoor.cells) B) (b3 : InB (sf.L 3 icell) B) (b4 : InB (sd.L 3 icell) B) (b5 : InB (pres.L 3 icell) B) (b6 : InB (flows.L 3 icell) B)
    (o1 : fans.ok 4 XFan.cells) (o2 : doors.ok 3 XDoor.cells) (o3 : sf.ok 1 icell) (o4 : sd.ok 1 icell) (o5 : pres.ok 1 icell) (o6 : flows.ok 1 icell) (r1 : ∀ f ∈ fans.l, InR f.sl R) (r2 : ∀ d ∈ doors.l, InR d.sl R)
    (hx : CodesR x R) (hk : k ≤ x.l.length) (hok : roads.ok 10 XRoad.cells) (hF : FansD n 0 fans.l sf.l) (hD : DoorsD n 0 doors.l sd.l) (hq : roads.l.length = flows.l.length) (hlen : roads.l.length ≤ 100)
    (hqb : ∀ (i : Nat) (q : Int), flows.l[i]? = some q → -600 ≤ q ∧ q ≤ 600) (hpb : ∀ (i : Nat) (p : Int), pres.l[i]? = some p → -4000 ≤ p ∧ p ≤ 4000) (hr : ∀ (i : Nat) (r : XRoad), roads.l[i]? = some r → RoadD pres.l.length r) :
    Tri Try.prog 33 [.pointer (some ⟨c, 0, none⟩), .pointer (some ⟨ab, 0, none⟩), .agg #[sf.val, sd.val], .agg #[pres.val, flows.val]].toArray A R
      (fun v L'' R' => ∃ (rl : List XRoad) (k' : Nat), v = .tuple #[] ∧ FitI ⟨mine, fans.arr, doors.arr⟩ ⟨sf.arr, sd.arr⟩ ⟨pres.arr, flows.arr⟩ roads.l roads.l.length rl ∧ k' ≤ x.l.length ∧
        B ++ (cblk c x k' :: ⟨ab, [pv, roads.val, fans.val, doors.val], 30⟩ :: ((⟨roads.o, rl⟩ : OwL XRoad).L 64 XRoad.cells ++ [])) = L'' ∧ R = R') := by
  have h := fit_tri c ab x k n pv ⟨mine, fans.arr, doors.arr⟩ ⟨sf.arr, sd.arr⟩ ⟨pres.arr, flows.arr⟩ roads ([fsl fans.arr, dsl doors.arr, isl sf.arr, isl sd.arr, isl pres.arr, isl flows.arr] ++ R) (hx.mono fun r h => inR_self (by simp [h])) hk hok
    (inR_self (by simp)) (inR_self (by simp)) ⟨inR_self (by simp), inR_self (by simp)⟩ ⟨inR_self (by simp), inR_self (by simp)⟩ hF hD hq hlen hqb hpb hr
  have h2 := Tri.lend (S := [fsl fans.arr, dsl doors.arr, isl sf.arr, isl sd.arr, isl pres.arr, isl flows.arr]) (Post := fun v L' => ∃ (rl : List XRoad) (k' : Nat), v = .tuple #[] ∧ FitI ⟨mine, fans.arr, doors.arr⟩ ⟨sf.arr, sd.arr⟩ ⟨pres.arr, flows.arr⟩ roads.l roads.l.length rl ∧ k' ≤ x.l.length ∧
        (cblk c x k' :: ⟨ab, [pv, roads.val, fans.val, doors.val], 30⟩ :: ((⟨roads.o, rl⟩ : OwL XRoad).L 64 XRoad.cells ++ [])) = L') hsp (fun w G hh s hs => ?_)
    ((Tri.permL perm2 h).mono fun v L' R' ⟨rl, k', a1, a2, a3, a4, a5⟩ => ⟨⟨rl, k', a1, a2, a3, a4⟩, a5⟩)
  · exact h2.mono fun v L'' R' ⟨L', e, ⟨rl, k', a1, a2, a3, a4⟩, a5⟩ => ⟨rl, k', a1, a2, a3, by rw [← a4] at e; exact e, a5⟩
  · simp only [List.mem_cons, List.not_mem_nil, or_false] at hs
    rcases hs with rfl | rfl | rfl | rfl | rfl | rfl
    · exact lend_rep hh b1 o1 (fun _ => rfl) (by decide) (fun s hs => by obtain ⟨y, hy, rfl⟩ := List.mem_map.1 hs; exact r1 y hy)
    · exact lend_rep hh b2 o2 (fun _ => rfl) (by decide) (fun s hs => by obtain ⟨y, hy, rfl⟩ := List.mem_map.1 hs; exact r2 y hy)
    · exact lend_rep hh b3 o3 (fun _ => rfl) (by decide) (fun s hs => by cases hs)
    · exact lend_rep hh b4 o4 (fun _ => rfl) (by decide) (fun s hs => by cases hs)
    · exact lend_rep hh b5 o5 (fun _ => rfl) (by decide) (fun s hs => by cases hs)
    · exact lend_rep hh b6 o6 (fun _ => rfl) (by decide) (fun s hs => by cases hs)

theorem doubts_lent {A B : List Blk} {c : Nat} {x : Arr Int} {k : Nat} {a : XAir} {sf sd : OwL Int} {R : List Sl} (hsp : Spl A B [cblk c x k]) (b3 : InB (sf.L 3 icell) B) (b4 : InB (sd.L 3 icell) B) (o3 : sf.ok 1 icell) (o4 : sd.ok 1 icell)
    (hx : CodesR x R) (hk : k ≤ x.l.length) (h1 : sf.l.length ≤ 100) (h2 : sd.l.length ≤ 100) :
    Tri Try.prog 34 [.pointer (some ⟨c, 0, none⟩), a.val, .agg #[sf.val, sd.val]].toArray A R
      (fun v L'' R' => ∃ (tf td : OwL Int) (k' : Nat), v = .agg #[tf.val, td.val] ∧ (tf.ok 1 icell ∧ td.ok 1 icell) ∧ Doubt sf.l tf.l ∧ Doubt sd.l td.l ∧ k' ≤ x.l.length ∧ B ++ (cblk c x k' :: (tf.L 3 icell ++ (td.L 3 icell ++ []))) = L'' ∧ R = R') := by
  have h := doubts_tri c x k a ⟨sf.arr, sd.arr⟩ ([isl sf.arr, isl sd.arr] ++ R) (hx.mono fun r h => inR_self (by simp [h])) hk ⟨inR_self (by simp), inR_self (by simp)⟩ h1 h2
  have h2 := Tri.lend (S := [isl sf.arr, isl sd.arr]) (Post := fun v L' => ∃ (tf td : OwL Int) (k' : Nat), v = .agg #[tf.val, td.val] ∧ (tf.ok 1 icell ∧ td.ok 1 icell) ∧ Doubt sf.l tf.l ∧ Doubt sd.l td.l ∧ k' ≤ x.l.length ∧ cblk c x k' :: (tf.L 3 icell ++ (td.L 3 icell ++ [])) = L') hsp (fun w G hh s hs => ?_)
    (h.mono fun v L' R' ⟨tf, td, k', a1, a2, a3, a4, a5, a6, a7⟩ => ⟨⟨tf, td, k', a1, a2, a3, a4, a5, a6⟩, a7⟩)
  · exact h2.mono fun v L'' R' ⟨L', e, ⟨tf, td, k', a1, a2, a3, a4, a5, a6⟩, a7⟩ => ⟨tf, td, k', a1, a2, a3, a4, a5, by rw [← a6] at e; exact e, a7⟩
  · simp only [List.mem_cons, List.not_mem_nil, or_false] at hs
    rcases hs with rfl | rfl
    · exact lend_rep hh b3 o3 (fun _ => rfl) (by decide) (fun s hs => by cases hs)
    · exact lend_rep hh b4 o4 (fun _ => rfl) (by decide) (fun s hs => by cases hs)
end Go.Proofs.Ytimnnhdeicpenaa
