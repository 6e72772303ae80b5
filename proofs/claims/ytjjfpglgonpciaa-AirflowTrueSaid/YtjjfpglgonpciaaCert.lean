/-
  Bounds, what certify.Check answers, and the reference's check. By an AI agent; no person has read it.
-/
import Derived.Test.YtjjfpglgonpciaaLost
set_option linter.unusedSimpArgs false
set_option linter.unusedVariables false
namespace Go.Proofs.Ytjjfpglgonpciaa
open Go.Aw Go
set_option maxRecDepth 20000
attribute [local irreducible] CJ LJ DJ Tri YV Gives seqK blockK loopK retK RV mergeK OwL.L

structure XBounds where
  low : Arr Int
  high : Arr Int
def XBounds.cells (s : XBounds) : List Value := [s.low.val, s.high.val]
abbrev XBounds.val (s : XBounds) : Value := .agg #[s.low.val, s.high.val]
structure BoundsR (s : XBounds) (R : List Sl) : Prop where
  low : InR (isl s.low) R
  high : InR (isl s.high) R
def nodeBad (a : XAir) (s : XSetting) (b : XBounds) (A : List Bool) (i : Nat) : Option Int :=
  if (!(A.getD i false) || (a.mine.places.l.getD i default).surface) = true then (if b.low.l.getD i 0 ≠ 0 ∨ b.high.l.getD i 0 ≠ 0 then some 12 else none)
  else (if lowN a s b.high.l (i : Int) < 0 ∨ 0 < highN a s b.low.l (i : Int) then some 12 else none)
/-- P11.1 -/
def checkS (a : XAir) (s : XSetting) (b : XBounds) (A : List Bool) : Int :=
  if airErr a ≠ 0 then airErr a
  else if fitB a s = false then 21
  else if b.low.l.length ≠ a.mine.places.l.length ∨ b.high.l.length ≠ a.mine.places.l.length then 11
  else if (b.low.l.findSome? presBad).isSome = true ∨ (b.high.l.findSome? presBad).isSome = true then 1
  else ((List.range a.mine.places.l.length).findSome? (nodeBad a s b A)).getD 0

theorem fixS_length (m : XMine) (A : List Bool) : (fixS m A).length = m.places.l.length := by simp [fixS]
theorem ranged_tri (x : Arr Int) (L : List Blk) (R : List Sl) (hx : InR (isl x) R) :
    Tri Try.prog 123 [x.val].toArray L R (fun v L' R' => v = .bool (x.l.findSome? presBad).isNone ∧ L = L' ∧ R = R') := by
  refine Tri_len Try.call123 hx fun hxn => ?_
  refine tri_enter 22 Try.call123 Try.func123 rfl rfl rfl ?_
  refine qae ?_
  refine qaz ?_
  refine qaw ?_
  refine qad ?_
  refine qa2 ?_
  refine CJ_forget [(0, Value.slice _ _ _), (3, Value.int _ _)] (by repeat' (first | exact trivial | refine And.intro rfl ?_)) fun tq0 => ?_
  refine q_s [2, 3, 4, 5, 6, 7, 8, 9, 10, 11, 12, 13, 14, 15, 16, 17, 18, 19, 20, 21] (fun g : FS (presBad) (x.l) => [(3, .int .i64 ((g.1 : Nat) : Int))]) (fun g => (x.l).length - g.1) ⟨0, FS_zero _ _⟩ ?_
  rintro ⟨k0, hk0, hp0⟩ junk
  try dsimp only
  refine qbi ?_
  refine qaa ?_
  refine qbm ?_
  refine qag ?_
  refine qaj ?_
  refine qaf ?_
  refine q_c (fun hc0 => ?_) (fun hc0 => ?_)
  ·
   obtain ⟨y, hy⟩ := get_some (l := x.l) (k := k0) (by omega)
   refine qbb ?_
   refine qbm ?_
   refine qaa ?_
   refine qa3 ?_
   refine qa7 ?_
   refine qaj ?_
   refine qah ?_
   apply LJ_or (G := [_, _, _, _, _]) (j := 5) (cj := 15) rfl rfl (by rfl) rfl (show _ = Value.bool _ from rfl) rfl
   ·
    intro hg6
    replace hg6 := qb hg6
    refine qbm ?_
    refine qaa ?_
    refine qa3 ?_
    refine qa7 ?_
    refine qa5 ?_
    exact qai
   intro junk6
   refine qaf ?_
   refine q_c (fun hc1 => ?_) (fun hc1 => ?_)
   ·
    refine qae ?_
    refine qaz ?_
    refine qbt ?_
    refine q_b (L' := L) (R' := R) ?_
    exact ⟨by rw [FS_some hp0 hy (if_pos (by omega))]; rfl, rfl, rfl⟩
   ·
    refine qbj ?_
    refine qaa ?_
    refine qar ?_
    refine qad ?_
    refine qav ?_
    exact q_k ⟨k0 + 1, FS_next hp0 hy (if_neg (by omega))⟩
  ·
   have hn0 := FS_none hp0 (by omega)
   refine qbk ?_
   refine qaz ?_
   refine qa0 ?_
   refine q_b (L' := L) (R' := R) ?_
   exact ⟨by rw [hn0]; rfl, rfl, rfl⟩

theorem refCert_tri (a : XAir) (s : XSetting) (b : XBounds) (A : List Bool) (L : List Blk) (R : List Sl) (hm : AirR a R) (hs : SetR s R) (hb : BoundsR b R) (hA : airErr a = 0 → AiryIs a.mine A) :
    Tri Try.prog 105 [a.val, s.val, b.val].toArray L R (fun v L' R' => v = .int .i64 (checkS a s b A) ∧ L = L' ∧ R = R') := by
  have hmp := hm.places
  have hbl := hb.low
  have hbh := hb.high
  refine Tri_len Try.call105 hbl fun hbln => ?_
  refine Tri_len Try.call105 hbh fun hbhn => ?_
  refine Tri_len Try.call105 hmp fun hmpn => ?_
  refine tri_enter 88 Try.call105 Try.func105 rfl rfl rfl ?_
  refine qae ?_
  refine qax ?_
  intro b3
  refine qax ?_
  intro b4
  refine qax ?_
  intro b5
  refine qad ?_
  refine qaw ?_
  refine qa8 ?_
  refine q_l rfl (ref09Check_tri a _ _ hm) ?_
  refine qad ?_
  refine qam ?_
  refine qaa ?_
  refine qbq ?_
  refine qaf ?_
  refine q_c (fun hc0 => ?_) (fun hc0 => ?_)
  ·
   refine qae ?_
   refine qaa ?_
   refine qad ?_
   refine qbh ?_
   refine q_i (L' := L) (R' := R) ?_
   exact ⟨by rw [checkS, if_pos hc0], rfl, rfl⟩
  ·
   have h0 : airErr a = 0 := by omega
   have hok := airOk_of h0
   have hAA := hA h0
   refine qbo ?_
   refine qa8 ?_
   refine qbe ?_
   refine q_l rfl (ref09Right_tri a s _ _ hm hs) ?_
   refine qb4 ?_
   refine qaf ?_
   refine q_c (fun hc1 => ?_) (fun hc1 => ?_)
   ·
    refine qae ?_
    refine qad ?_
    refine qbh ?_
    refine q_i (L' := L) (R' := R) ?_
    exact ⟨by rw [checkS, if_neg hc0, if_pos (by simpa [rightB, h0] using hc1)], rfl, rfl⟩
   ·
    have hf0 : fitB a s = true := by simpa [rightB, h0] using hc1
    have hfo := fitOk_of hf0
    have hff : ¬ fitB a s = false := by rw [hf0]; decide
    refine qbv ?_
    refine qab ?_
    refine qab ?_
    refine qac ?_
    refine qag ?_
    refine qad ?_
    refine qaw ?_
    refine qab ?_
    refine qac ?_
    refine qag ?_
    refine qaa ?_
    refine qbq ?_
    refine qah ?_
    apply LJ_or (G := [_, _, _, _, _]) (j := 5) (cj := 29) rfl rfl (by rfl) rfl (show _ = Value.bool _ from rfl) rfl
    ·
     intro hg6
     replace hg6 := qb hg6
     refine qab ?_
     refine qac ?_
     refine qag ?_
     refine qaa ?_
     refine qbq ?_
     exact qai
    intro junk6
    refine qaf ?_
    refine q_c (fun hc2 => ?_) (fun hc2 => ?_)
    ·
     refine qae ?_
     refine qad ?_
     refine qbh ?_
     refine q_i (L' := L) (R' := R) ?_
     exact ⟨by rw [checkS, if_neg hc0, if_neg hff, if_pos (by omega)], rfl, rfl⟩
    ·
     have hln : b.low.l.length = a.mine.places.l.length := by omega
     have hhn : b.high.l.length = a.mine.places.l.length := by omega
     refine qbo ?_
     refine qab ?_
     refine qac ?_
     refine q_l rfl (ranged_tri b.low _ _ hbl) ?_
     refine qb4 ?_
     refine qah ?_
     refine LJ_case (k := 40) (show _ = Value.bool _ from rfl) (fun hg5 => ?_) (fun hg5 => ?_)
     ·
      replace hg5 := qb hg5
      refine LJ_skg rfl rfl ?_
      refine LJ_skg rfl rfl ?_
      refine LJ_skg rfl rfl ?_
      refine LJ_skg rfl rfl ?_
      refine LJ_q (by first | exact yv_pick_true rfl rfl | exact yv_pick_false rfl rfl | exact yv_pick rfl) rfl ?_
      refine qaf ?_
      refine CJ_cond_true rfl ?_
      refine qae ?_
      refine qad ?_
      refine qbh ?_
      refine q_i (L' := L) (R' := R) ?_
      exact ⟨by rw [checkS, if_neg hc0, if_neg hff, if_neg (by omega), if_pos (by simp_all [Option.isSome_iff_ne_none])], rfl, rfl⟩
     ·
      replace hg5 := qb hg5
      refine LJ_qg (yv_field tb rfl rfl rfl) rfl rfl ?_
      refine LJ_qg (yv_load1 tb rfl rfl rfl (by repeat (first | exact zi0 | apply zi1 | apply zi2)) (by rfl)) rfl rfl ?_
      refine LJ_callg rfl (ranged_tri b.high _ _ hbh) rfl rfl ?_
      rintro v L' R' ⟨rfl, rfl, rfl⟩
      refine LJ_qg (yv_not rfl) rfl rfl ?_
      refine LJ_q (by first | exact yv_pick_true rfl rfl | exact yv_pick_false rfl rfl | exact yv_pick rfl) rfl ?_
      refine qaf ?_
      refine q_c (fun hc3 => ?_) (fun hc3 => ?_)
      ·
       refine qae ?_
       refine qad ?_
       refine qbh ?_
       refine q_i (L' := L) (R' := R) ?_
       exact ⟨by rw [checkS, if_neg hc0, if_neg hff, if_neg (by omega), if_pos (by simp_all [Option.isSome_iff_ne_none])], rfl, rfl⟩
      ·
       have hr : ¬ (b.low.l.findSome? presBad).isSome = true ∧ ¬ (b.high.l.findSome? presBad).isSome = true := by simp_all
       refine qbv ?_
       refine qab ?_
       refine qbe ?_
       refine LJ_call rfl (fixed_tri a.mine _ _ hm.mineR hok.mine) rfl ?_
       rintro v L' R' ⟨p, A2, rfl, hpk, hA2, hpl, rfl, rfl⟩
       obtain rfl : A = A2 := hAA.unique hA2
       have hfx : p.l.length = a.mine.places.l.length := by rw [hpl]; exact fixS_length a.mine A
       have hplb : PresOk b.low.l := presOk_of (by simpa using hr.1)
       have hphb : PresOk b.high.l := presOk_of (by simpa using hr.2)
       have hck : checkS a s b A = ((List.range a.mine.places.l.length).findSome? (nodeBad a s b A)).getD 0 := by rw [checkS, if_neg hc0, if_neg hff, if_neg (by omega), if_neg (fun h => h.elim hr.1 hr.2)]
       refine qc4 ?_
       refine qco ?_
       refine CJ_turn fun c w hst => ⟨_, _, hst.perm List.perm_append_comm, ?_⟩
       refine qay ?_
       refine qad ?_
       refine qa2 ?_
       refine CJ_forget [(3, Value.pointer _), (4, Value.pointer _), (5, Value.pointer _), (8, Value.int _ _), (9, Value.slice _ _ _), (10, Value.int _ _)] (by repeat' (first | exact trivial | refine And.intro rfl ?_)) fun tq0 => ?_
       refine q_s [6, 10, 49, 50, 51, 52, 53, 54, 55, 56, 57, 58, 59, 60, 61, 62, 63, 64, 65, 66, 67, 68, 69, 70, 71, 72, 73, 74, 75, 76, 77, 78, 79, 80, 81, 82, 83, 84, 85, 86, 87] (fun g : FSR (nodeBad a s b A) (a.mine.places.l.length) => [(10, .int .i64 ((g.1 : Nat) : Int))]) (fun g => (a.mine.places.l.length) - g.1) ⟨0, FSR_zero _ _⟩ ?_
       rintro ⟨k0, hk0, hp0⟩ junk
       try dsimp only
       refine qbi ?_
       refine qaa ?_
       refine qaa ?_
       refine qaj ?_
       refine qaf ?_
       refine q_c (fun hc4 => ?_) (fun hc4 => ?_)
       ·
        have hpg : p.l[k0]? = some (!(A.getD k0 false) || (a.mine.places.l.getD k0 default).surface) := by rw [hpl]; exact fixS_get (by omega)
        have hlg := get_D (l := b.low.l) (k := k0) 0 (by omega)
        have hhg := get_D (l := b.high.l) (k := k0) 0 (by omega)
        refine CJ_skip (seqK_normal (CJ_seq (CJ_block (CJ_seq (CJ_seq (CJ_region ?_))))))
        refine qbm ?_
        refine qaa ?_
        refine LJ_q (yv_index_ow tb (p) _ rfl rfl rfl rfl (by assumption) (i := k0) (by first | rfl | omega | (simp; omega)) (by first | omega | (dsimp only; omega) | (dsimp only; rw [List.length_set]; omega))) rfl ?_
        refine LJ_q (yv_load1_ow tb (p) rfl rfl rfl (by repeat (first | apply OSeg.cons | exact OSeg.here | exact OSeg.last | exact OSeg.at (by assumption) | apply OSeg.app)) (by assumption) (fun _ => rfl) (by assumption) (by rfl)) rfl ?_
        refine qaf ?_
        refine q_c (fun hc5 => ?_) (fun hc5 => ?_)
        ·
         have hnb : nodeBad a s b A k0 = if b.low.l.getD k0 0 ≠ 0 ∨ b.high.l.getD k0 0 ≠ 0 then some 12 else none := by rw [nodeBad, if_pos (by simpa using hc5)]
         refine qbi ?_
         refine qab ?_
         refine qac ?_
         refine qaa ?_
         refine LJ_q (by first | exact yv_index_ro tb rfl rfl rfl rfl (by first | assumption | exact zr (by simp)) (i := k0) (by first | rfl | omega | (simp; omega)) (by omega) | exact yv_index tb rfl rfl rfl rfl (i := k0) (by first | rfl | omega | (simp; omega)) (by omega)) rfl ?_
         refine qa7 ?_
         refine qbq ?_
         refine qah ?_
         apply LJ_or (G := [_, _, _, _, _, _]) (j := 6) (cj := 64) rfl rfl (by rfl) rfl (show _ = Value.bool _ from rfl) rfl
         ·
          intro hg7
          replace hg7 := qb hg7
          refine qab ?_
          refine qac ?_
          refine qaa ?_
          refine LJ_q (by first | exact yv_index_ro tb rfl rfl rfl rfl (by first | assumption | exact zr (by simp)) (i := k0) (by first | rfl | omega | (simp; omega)) (by omega) | exact yv_index tb rfl rfl rfl rfl (i := k0) (by first | rfl | omega | (simp; omega)) (by omega)) rfl ?_
          refine qa7 ?_
          refine qbq ?_
          exact qai
         intro junk7
         refine qaf ?_
         refine q_c (fun hc6 => ?_) (fun hc6 => ?_)
         ·
          refine qae ?_
          refine qad ?_
          refine LJ_nil (seqK_normal (CJ_ret (seqK_ret (seqK_ret (blockK_ret (seqK_ret (loopK_ret (blockK_ret (seqK_ret ?_)))))))))
          refine q_i (L' := L) (R' := R) ?_
          exact ⟨by rw [hck, FSR_some hp0 (by omega) (hnb.trans (if_pos (by omega)))]; rfl, rfl, rfl⟩
         ·
          refine CJ_skip (seqK_normal (CJ_exit (seqK_exit (blockK_exit (seqK_normal (CJ_region ?_))))))
          refine qaa ?_
          refine qar ?_
          refine qad ?_
          refine qav ?_
          exact q_k ⟨k0 + 1, FSR_next hp0 (by omega) (hnb.trans (if_neg (by omega)))⟩
        ·
         have hnb : nodeBad a s b A k0 = if lowN a s b.high.l (k0 : Int) < 0 ∨ 0 < highN a s b.low.l (k0 : Int) then some 12 else none := by rw [nodeBad, if_neg (by simpa using hc5)]
         refine qbv ?_
         refine qa8 ?_
         refine qbe ?_
         refine qab ?_
         refine qac ?_
         refine qaa ?_
         refine q_l rfl (refLow_tri a s b.high _ _ _ hm hs hbh hok hfo hhn hphb) ?_
         refine qaj ?_
         refine qah ?_
         refine LJ_case (k := 79) (show _ = Value.bool _ from rfl) (fun hg8 => ?_) (fun hg8 => ?_)
         ·
          replace hg8 := qb hg8
          refine LJ_skg rfl rfl ?_
          refine LJ_skg rfl rfl ?_
          refine LJ_skg rfl rfl ?_
          refine LJ_skg rfl rfl ?_
          refine LJ_skg rfl rfl ?_
          refine LJ_skg rfl rfl ?_
          refine LJ_skg rfl rfl ?_
          refine LJ_q (by first | exact yv_pick_true rfl rfl | exact yv_pick_false rfl rfl | exact yv_pick rfl) rfl ?_
          refine qaf ?_
          refine CJ_cond_true rfl ?_
          refine qae ?_
          refine qad ?_
          refine qbt ?_
          refine q_i (L' := L) (R' := R) ?_
          exact ⟨by rw [hck, FSR_some hp0 (by omega) (hnb.trans (if_pos (by omega)))]; rfl, rfl, rfl⟩
         ·
          replace hg8 := qb hg8
          refine LJ_qg (yv_loadN (row := [_, _, _, _]) tb rfl rfl rfl (by repeat (first | exact zi0 | apply zi1 | apply zi2)) (by rfl) (by rfl)) rfl rfl ?_
          refine LJ_qg (yv_loadN (row := [_, _]) tb rfl rfl rfl (by repeat (first | exact zi0 | apply zi1 | apply zi2)) (by rfl) (by rfl)) rfl rfl ?_
          refine LJ_qg (yv_field tb rfl rfl rfl) rfl rfl ?_
          refine LJ_qg (yv_load1 tb rfl rfl rfl (by repeat (first | exact zi0 | apply zi1 | apply zi2)) (by rfl)) rfl rfl ?_
          refine LJ_qg (yv_move (show _ = Value.int _ _ from rfl)) rfl rfl ?_
          refine LJ_callg rfl (refHigh_tri a s b.low _ _ _ hm hs hbl hok hfo hln hplb) rfl rfl ?_
          rintro v L' R' ⟨rfl, rfl, rfl⟩
          refine LJ_qg (yv_gtr rfl rfl) rfl rfl ?_
          refine LJ_q (by first | exact yv_pick_true rfl rfl | exact yv_pick_false rfl rfl | exact yv_pick rfl) rfl ?_
          refine qaf ?_
          refine q_c (fun hc7 => ?_) (fun hc7 => ?_)
          ·
           refine qae ?_
           refine qad ?_
           refine qbt ?_
           refine q_i (L' := L) (R' := R) ?_
           exact ⟨by rw [hck, FSR_some hp0 (by omega) (hnb.trans (if_pos (by omega)))]; rfl, rfl, rfl⟩
          ·
           refine qbj ?_
           refine qaa ?_
           refine qar ?_
           refine qad ?_
           refine qav ?_
           exact q_k ⟨k0 + 1, FSR_next hp0 (by omega) (hnb.trans (if_neg (by omega)))⟩
       ·
        have hn0 := FSR_none hp0 (by omega)
        refine qbk ?_
        refine qad ?_
        refine qa0 ?_
        refine q_i (L' := L) (R' := R) ?_
        exact ⟨by rw [hck, hn0]; rfl, rfl, rfl⟩
end Go.Proofs.Ytjjfpglgonpciaa
