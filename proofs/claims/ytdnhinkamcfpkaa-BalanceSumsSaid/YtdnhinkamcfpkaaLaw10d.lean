/-
  Statements about chapter 10: what leaves all places. By an AI agent; no person has read it.
-/
import Derived.Test.YtdnhinkamcfpkaaLaw10a
import Derived.Test.YtdnhinkamcfpkaaNets
set_option linter.unusedSimpArgs false
set_option linter.unusedVariables false
namespace Go.Proofs.Ytdnhinkamcfpkaa
open Go.Aw Go
set_option maxRecDepth 20000
attribute [local irreducible] CJ LJ DJ Tri YV Gives seqK blockK loopK retK RV mergeK OwL.L

theorem balanceSums_law (y : Arr Int) (R : List Sl) (hy : CodesR y R) :
    Tri Try.prog 6 [y.val].toArray [] R (fun v L' R' => v = .bool true ∧ [] = L' ∧ R = R') := by
  refine tri_enter 58 Try.call6 Try.func6 rfl rfl rfl ?_
  refine qae ?_
  refine qaz ?_
  refine qam ?_
  refine qbm ?_
  refine LJ_call rfl (new_tri y _ _ hy) rfl ?_
  rintro v L' R' ⟨c, rfl, hx, rfl, rfl⟩
  refine qc1 ?_
  refine qam ?_
  refine qa6 ?_
  refine LJ_call rfl (made1 (.consL .nil) hx (Nat.zero_le _)) rfl ?_
  rintro v L' R' ⟨m, k1, S, rfl, hm, hMA, hif, hid, hk1, rfl, rfl⟩
  simp only [List.append_assoc, List.cons_append, List.nil_append]
  refine LJ_q (yv_move rfl) rfl ?_
  refine qbs ?_
  refine qbs ?_
  refine qbs ?_
  refine qaq ?_
  intro b4
  refine qaq ?_
  intro b5
  refine qaq ?_
  intro b6
  refine qak ?_
  refine qak ?_
  refine qak ?_
  refine qa4 ?_
  refine CJ_made (A := []) hm hMA (fun f hf => (hif f hf).mono fun r hr => inR_self (by simp [hr])) (fun f hf => (hid f hf).mono fun r hr => inR_self (by simp [hr])) fun a s x R1 hMA hA hT hX hR1 => ?_
  refine qb1 ?_
  obtain ⟨_, hae, hff, hri, hfo⟩ := hMA.b
  have hx1 : CodesR (codes300 y) R1 := hx.mono fun r hr => hR1 r (by simp [hr])
  have hnp := hMA.nplaces
  have hR0 : ∀ r ∈ R, InR r R1 := fun r hr => hR1 r (by simp [hr])
  refine qay ?_
  refine qa6 ?_
  refine qa8 ?_
  refine qbe ?_
  refine LJ_call rfl (around1 (.consB (.consB (.consB (.consL .nil)))) hx1 hk1 hA hX hMA) rfl ?_
  rintro v L' R' ⟨l, k2, rfl, hl, hal, hk2, rfl, rfl⟩
  simp only [List.append_assoc, List.cons_append, List.nil_append]
  refine qc4 ?_
  refine qa4 ?_
  refine CJ_frz1 (A := [_, _, _]) (wd := 1) [] (fun _ => rfl) (by decide) hl (fun s hs => by cases hs) ?_
  refine qb1 ?_
  have hllen := hal.len
  have hla : l.arr.l.length = l.l.length := rfl
  have hR2 : ∀ r ∈ R1, InR r (isl l.arr :: R1) := fun r hr => inR_self (.tail _ hr)
  have hA2 := airR_mono hA hR2
  have hT2 := setR_mono hT hR2
  have hX2 := stateR_mono hX hR2
  have hl2 : InR (isl l.arr) (isl l.arr :: R1) := inR_self (.head _)
  have nt : ∀ i : Nat, i < l.l.length → netS a s l.l i = ⟨lowN a s l.l i, highN a s l.l i⟩ := fun i hi => by rw [netS, if_pos (rightN_iff.2 ⟨hri, hllen, by omega, by omega, presOk_none hal.pres⟩)]
  have tl := lowN_total (s := s) (ps := l.l) hae
  have th := highN_total (s := s) (ps := l.l) hae
  have tbd : ∀ k : Nat, k ≤ 6 → (-(134217856 * (k : Int)) ≤ sumV (fun v => lowN a s l.l (v : Int)) k ∧ sumV (fun v => lowN a s l.l (v : Int)) k ≤ 134217856 * (k : Int)) ∧ (-(134217856 * (k : Int)) ≤ sumV (fun v => highN a s l.l (v : Int)) k ∧ sumV (fun v => highN a s l.l (v : Int)) k ≤ 134217856 * (k : Int)) := by
    intro k
    induction k with
    | zero => intro _; simp [sumV]
    | succ k ih =>
      intro hk
      have ih := ih (by omega)
      have b1 := lowN_bounds (s := s) (ps := l.l) (v := (k : Int)) hae
      have b2 := highN_bounds (s := s) (ps := l.l) (v := (k : Int)) hae
      rw [sumV, sumV]
      omega
  refine qay ?_
  refine qck ?_
  refine qaq ?_
  intro b8
  refine qak ?_
  refine qaw ?_
  refine qbm ?_
  refine qag ?_
  refine qaa ?_
  refine qa2 ?_
  refine CJ_forget [(4, Value.pointer _), (5, Value.pointer _), (7, Value.slice _ _ _), (8, Value.pointer _), (25, Value.int _ _), (26, Value.int _ _)] (by repeat' (first | exact trivial | refine And.intro rfl ?_)) fun tq0 => ?_
  refine q_p [9, 10, 26, 27, 28, 29, 30, 31, 32, 33, 34, 35, 36, 37, 38, 39, 40, 41, 42, 43, 44, 45, 46] ((⟨fun q => [(26, .int .i64 ((q.1 : Nat) : Int))], fun q => ⟨b8, [.int .i64 (sumV (fun v => lowN a s l.l (v : Int)) q.1), .int .i64 (sumV (fun v => highN a s l.l (v : Int)) q.1)], 44⟩ :: ⟨b6, x.cells, 37⟩ :: ⟨b5, s.cells, 35⟩ :: ⟨b4, a.cells, 33⟩ :: [], fun _ => isl l.arr :: R1, fun q => l.l.length - q.1⟩ : Head {k : Nat // k ≤ l.l.length})) (⟨0, by omega⟩) ?_
  rintro ⟨i, hi⟩ junk
  try dsimp only
  refine qae ?_
  refine qaj ?_
  refine qa4 ?_
  refine q_c (fun hc0 => ?_) (fun hc0 => ?_)
  ·
   have hib := tbd i (by omega)
   have b1 := lowN_bounds (s := s) (ps := l.l) (v := (i : Int)) hae
   have b2 := highN_bounds (s := s) (ps := l.l) (v := (i : Int)) hae
   refine qbb ?_
   refine qaa ?_
   refine qad ?_
   refine qam ?_
   refine qa8 ?_
   refine qbe ?_
   refine qbm ?_
   refine qaa ?_
   refine q_l rfl (balNet_tri a s l.arr i _ _ hA2 hT2 hl2) ?_
   obtain ⟨sp, hsp⟩ : ∃ sp, sp = netS a s l.l i := ⟨_, rfl⟩
   rw [← hsp]
   have e1 : sp.low = lowN a s l.l i := by rw [hsp, nt i (by omega)]
   have e2 : sp.high = highN a s l.l i := by rw [hsp, nt i (by omega)]
   refine qaq ?_
   intro b10
   refine qak ?_
   refine qaf ?_
   refine CJ_drawn2 tb [41, 42, 43] [0, 1, 2, 3, 4, 5, 6, 7, 8, 9, 10] [11, 12, 13] (_) _ mixed (by kernel_rfl) (by repeat (first | exact zs0 _ | exact zs1 _ | apply zs2 | apply zs3 | apply zs4 | apply zs5)) (by (repeat (first | apply List.Sublist.cons (a := Blk.mk b8 _ _) | apply List.Sublist.cons_cons)); exact List.Sublist.refl _) ?_
   refine qan ?_
   refine qau ?_
   refine qan ?_
   refine qau ?_
   refine qcj ?_
   refine qan ?_
   refine qau ?_
   refine qcp ?_
   refine qcu ?_
   refine DJ3_ql (by first | exact yv_add64 rfl rfl (by omega) (by omega) | exact yv_addU rfl rfl (by omega) (by omega) | exact yv_add rfl rfl) rfl rfl rfl rfl ?_
   refine qan ?_
   refine qba ?_
   refine qb6 ?_
   refine qal ?_
   refine qb6 ?_
   refine qby ?_
   refine qar ?_
   refine qaa ?_
   refine qav ?_
   exact loopK_mk ⟨i + 1, by omega⟩ (by repeat (first | exact Off.refl | apply Off.upd rfl | apply Off.havoc rfl | apply Off.updL rfl | apply Off.left rfl)) (by repeat' (first | exact trivial | refine And.intro rfl ?_)) (by dsimp only; rw [sumV_succ, sumV_succ, ← e1, ← e2]; exact (by repeat (first | exact zs0 _ | exact zs1 _ | apply zs2 | apply zs3 | apply zs4 | apply zs5))) (allR_self _) (by dsimp only; omega)
  ·
   obtain rfl : i = l.l.length := by omega
   rw [hllen]
   refine qbk ?_
   refine qab ?_
   refine qac ?_
   refine qbx ?_
   refine qah ?_
   apply LJ_and (G := [_, _, _]) (j := 3) (cj := 50) rfl rfl (by rfl) rfl (show _ = Value.bool _ from rfl) rfl
   ·
    intro hg4
    replace hg4 := qb hg4
    refine qab ?_
    refine qac ?_
    refine qbz ?_
    exact qai
   intro junk4
   refine qah ?_
   apply LJ_and (G := [_]) (j := 8) (cj := 55) rfl rfl (by rfl) rfl (show _ = Value.bool _ from rfl) rfl
   ·
    intro hg9
    replace hg9 := qb hg9
    refine q_l rfl (awake10_tri _ _) ?_
    exact qai
   intro junk9
   refine qaz ?_
   refine qa0 ?_
   refine retK_ret (L' := []) (R' := R) (res1 rfl (rv_tmp (show _ = Value.bool _ from rfl))) ?hp ?hL ?hR
   case hp => exact ⟨by rw [decide_eq_true tl, decide_eq_true th]; rfl, rfl, rfl⟩
   case hL => exact List.nil_sublist _
   case hR => exact fun r hr => (((hR0 r hr).mono hR2)).mono fun s hs => inR_self (by simp [hs])
end Go.Proofs.Ytdnhinkamcfpkaa
