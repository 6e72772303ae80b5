/-
  certify.Check. By an AI agent; no person has read it.
-/
import Derived.Test.YtlgjgigciapkfaaCert
set_option linter.unusedSimpArgs false
set_option linter.unusedVariables false
namespace Go.Proofs.Ytlgjgigciapkfaa
open Go.Aw Go
set_option maxRecDepth 20000
attribute [local irreducible] CJ LJ DJ Tri YV Gives seqK blockK loopK retK RV mergeK OwL.L

def rangeBad (b : XBounds) (i : Nat) : Option Int := [b.low.l.getD i 0, b.high.l.getD i 0].findSome? presBad
theorem airErr_mine {a : XAir} (h : airErr a = 0) : mineErr a.mine = 0 := by
  unfold airErr at h
  split at h
  · rename_i h1; exact absurd h h1
  · rename_i h1; omega
theorem rangeBad_none {b : XBounds} {n : Nat} (h1 : b.low.l.length = n) (h2 : b.high.l.length = n) (h : (List.range n).findSome? (rangeBad b) = none) : b.low.l.findSome? presBad = none ∧ b.high.l.findSome? presBad = none := by
  rw [List.findSome?_eq_none_iff] at h
  have h' : ∀ i : Nat, i < n → presBad (b.low.l.getD i 0) = none ∧ presBad (b.high.l.getD i 0) = none := fun i hi => by
    have := h i (List.mem_range.2 hi)
    rw [rangeBad, List.findSome?_eq_none_iff] at this
    exact ⟨this _ (by simp), this _ (by simp)⟩
  constructor
  · rw [List.findSome?_eq_none_iff]
    intro x hx
    obtain ⟨i, hi⟩ := List.mem_iff_getElem?.1 hx
    have hl := (List.getElem?_eq_some_iff.1 hi).1
    rw [← (show b.low.l.getD i 0 = x from getD_some hi)]
    exact (h' i (by omega)).1
  · rw [List.findSome?_eq_none_iff]
    intro x hx
    obtain ⟨i, hi⟩ := List.mem_iff_getElem?.1 hx
    have hl := (List.getElem?_eq_some_iff.1 hi).1
    rw [← (show b.high.l.getD i 0 = x from getD_some hi)]
    exact (h' i (by omega)).2
theorem rangeBad_some {b : XBounds} {n k : Nat} (h1 : b.low.l.length = n) (h2 : b.high.l.length = n) (hk : k < n) {e : Int} (h : rangeBad b k = some e) : (b.low.l.findSome? presBad).isSome = true ∨ (b.high.l.findSome? presBad).isSome = true := by
  cases e1 : b.low.l.findSome? presBad with
  | some x => exact .inl rfl
  | none =>
    cases e2 : b.high.l.findSome? presBad with
    | some x => exact .inr rfl
    | none =>
      rw [List.findSome?_eq_none_iff] at e1 e2
      rw [rangeBad] at h
      have : [b.low.l.getD k 0, b.high.l.getD k 0].findSome? presBad = none := by
        rw [List.findSome?_eq_none_iff]
        intro x hx
        simp only [List.mem_cons, List.not_mem_nil, or_false] at hx
        rcases hx with rfl | rfl
        · exact e1 _ (List.mem_of_getElem? (get_D (l := b.low.l) (k := k) 0 (by omega)))
        · exact e2 _ (List.mem_of_getElem? (get_D (l := b.high.l) (k := k) 0 (by omega)))
      rw [this] at h
      cases h

theorem cert_tri (a : XAir) (s : XSetting) (b : XBounds) (A : List Bool) (L : List Blk) (R : List Sl) (hm : AirR a R) (hs : SetR s R) (hb : BoundsR b R) (hA : airErr a = 0 → AiryIs a.mine A) :
    Tri Try.prog 148 [a.val, s.val, b.val].toArray L R (fun v L' R' => ∃ S : List Sl, v = .int .i64 (checkS a s b A) ∧ L = L' ∧ S ++ R = R') := by
  have hmp := hm.places
  have hbl := hb.low
  have hbh := hb.high
  refine Tri_len Try.call148 hbl fun hbln => ?_
  refine Tri_len Try.call148 hbh fun hbhn => ?_
  refine Tri_len Try.call148 hmp fun hmpn => ?_
  refine tri_enter 124 Try.call148 Try.func148 rfl rfl rfl ?_
  refine qae ?_
  refine qax ?_
  intro b3
  refine qax ?_
  intro b4
  refine qax ?_
  intro b5
  refine qad ?_
  refine qaw ?_
  refine qa8 ?_
  refine q_l rfl (branchCheck_tri a _ _ hm) ?_
  refine qad ?_
  refine qam ?_
  refine qaa ?_
  refine qbq ?_
  refine qaf ?_
  refine q_c (fun hc0 => ?_) (fun hc0 => ?_)
  ·
   refine qae ?_
   refine qaa ?_
   refine qad ?_
   refine qbh ?_
   refine q_i (L' := L) (R' := R) ?_
   exact ⟨[], by rw [checkS, if_pos hc0], rfl, rfl⟩
  ·
   have h0 : airErr a = 0 := by omega
   have hok := airOk_of h0
   have hAA := hA h0
   have hmn := hok.mine.places
   refine qbo ?_
   refine qa8 ?_
   refine qbe ?_
   refine q_l rfl (fitting_tri a s _ _ hm hs) ?_
   refine qb4 ?_
   refine qaf ?_
   refine q_c (fun hc1 => ?_) (fun hc1 => ?_)
   ·
    refine qae ?_
    refine qad ?_
    refine qbh ?_
    refine q_i (L' := L) (R' := R) ?_
    exact ⟨[], by rw [checkS, if_neg hc0, if_pos (by simpa using hc1)], rfl, rfl⟩
   ·
    have hf0 : fitB a s = true := by simpa using hc1
    have hfo := fitOk_of hf0
    have hff : ¬ fitB a s = false := by rw [hf0]; decide
    refine qbo ?_
    refine qab ?_
    refine qac ?_
    refine qag ?_
    refine qab ?_
    refine qab ?_
    refine qac ?_
    refine qag ?_
    refine qbq ?_
    refine qah ?_
    apply LJ_or (G := [_, _, _, _, _, _, _, _]) (j := 8) (cj := 32) rfl rfl (by rfl) rfl (show _ = Value.bool _ from rfl) rfl
    ·
     intro hg9
     replace hg9 := qb hg9
     refine qab ?_
     refine qac ?_
     refine qag ?_
     refine qab ?_
     refine qab ?_
     refine qac ?_
     refine qag ?_
     refine qbq ?_
     exact qai
    intro junk9
    refine qaf ?_
    refine q_c (fun hc2 => ?_) (fun hc2 => ?_)
    ·
     refine qae ?_
     refine qad ?_
     refine qbh ?_
     refine q_i (L' := L) (R' := R) ?_
     exact ⟨[], by rw [checkS, if_neg hc0, if_neg hff, if_pos (by omega)], rfl, rfl⟩
    ·
     have hln : b.low.l.length = a.mine.places.l.length := by omega
     have hhn : b.high.l.length = a.mine.places.l.length := by omega
     refine qbo ?_
     refine qab ?_
     refine qac ?_
     refine qag ?_
     refine qaa ?_
     refine qa2 ?_
     refine CJ_forget [(3, Value.pointer _), (4, Value.pointer _), (5, Value.pointer _), (44, Value.int _ _), (45, Value.int _ _)] (by repeat' (first | exact trivial | refine And.intro rfl ?_)) fun tq0 => ?_
     refine q_s [6, 8, 10, 45, 46, 47, 48, 49, 50, 51, 52, 53, 54, 55, 56, 57, 58, 59, 60, 61, 62, 63, 64, 65, 66, 67, 68, 69, 70, 71] (fun g : FSR (rangeBad b) (b.low.l.length) => [(45, .int .i64 ((g.1 : Nat) : Int))]) (fun g => (b.low.l.length) - g.1) ⟨0, FSR_zero _ _⟩ ?_
     rintro ⟨k0, hk0, hp0⟩ junk
     try dsimp only
     refine qae ?_
     refine qaj ?_
     refine qa4 ?_
     refine q_c (fun hc3 => ?_) (fun hc3 => ?_)
     ·
      have hlg := get_D (l := b.low.l) (k := k0) 0 (by omega)
      have hhg := get_D (l := b.high.l) (k := k0) 0 (by omega)
      refine qbb ?_
      refine qaa ?_
      refine qad ?_
      refine qa4 ?_
      refine CJ_drawn tb [0, 1, 2, 3, 4, 5, 6, 7, 8, 9, 12, 10, 11] ([Blk.mk b5 _ _]) mixed (by kernel_rfl) (by repeat (first | exact zs0 _ | exact zs1 _ | apply zs2 | apply zs3 | apply zs4 | apply zs5)) ?_
      refine qal ?_
      refine qat ?_
      refine qao ?_
      refine DJ_q (by first | exact yv_index_ro tb rfl rfl rfl rfl (by first | assumption | exact zr (by simp)) (i := k0) (by first | rfl | omega | (simp; omega)) (by omega) | exact yv_index tb rfl rfl rfl rfl (i := k0) (by first | rfl | omega | (simp; omega)) (by omega)) rfl rfl rfl ?_
      refine qbl ?_
      refine qal ?_
      refine qat ?_
      refine qao ?_
      refine DJ_q (by first | exact yv_index_ro tb rfl rfl rfl rfl (by first | assumption | exact zr (by simp)) (i := k0) (by first | rfl | omega | (simp; omega)) (by omega) | exact yv_index tb rfl rfl rfl rfl (i := k0) (by first | rfl | omega | (simp; omega)) (by omega)) rfl rfl rfl ?_
      refine qbl ?_
      refine qao ?_
      refine DJ_g (gives_buildSlice (qs := [(0, (Value.int _ _).cells.toList), (1, (Value.int _ _).cells.toList)]) (out := [_, _]) tb rfl rfl rfl rfl rfl rfl rfl) rfl rfl rfl ?_
      rintro v L' R' ⟨b58, rfl, rfl, hR58⟩
      replace hR58 := hR58.symm; subst hR58
      refine qa1 ?_
      refine DJ_q (yv_len tb rfl rfl rfl) rfl rfl rfl ?_
      refine DJ_nil (seqK_normal (CJ_block ?_))
      refine CJ_forgetW [6, 8, 10, 45, 46, 47, 48, 49, 50, 51, 52, 53, 54, 55, 56, 57, 58, 59, 60, 61, 62, 63, 64, 65, 66, 67, 68, 69, 70, 71] (by repeat (first | apply Off.upd rfl | apply Off.havoc rfl | refine Off.updL (t' := havoc _ _ _) rfl ?_ | exact Off.refl)) [(45, Value.int _ _), (58, Value.slice _ _ _), (59, Value.int _ _), (60, Value.int _ _)] (by repeat' (first | exact trivial | refine And.intro rfl ?_)) fun tq1 => ?_
      refine CJ_L (L' := (⟨.own b58 2 [], [b.low.l.getD k0 0, b.high.l.getD k0 0]⟩ : OwL Int).L 3 icell ++ (⟨b5, b.cells, 164⟩ :: ⟨b4, s.cells, 40⟩ :: ⟨b3, a.cells, 30⟩ :: L)) (by simp only [OwL.L, Ow.L, List.flatMap_cons, List.flatMap_nil, icell, List.append_nil, List.cons_append, List.nil_append]; rfl) ?_
      refine q_s [6, 10, 60, 61, 62, 63, 64, 65, 66, 67, 68, 69, 70] (fun g : FS (presBad) ([b.low.l.getD k0 0, b.high.l.getD k0 0]) => [(60, .int .i64 ((g.1 : Nat) : Int))]) (fun g => ([b.low.l.getD k0 0, b.high.l.getD k0 0]).length - g.1) ⟨0, FS_zero _ _⟩ ?_
      rintro ⟨k1, hk1, hp1⟩ junk
      try dsimp only
      have hk58 : (⟨.own b58 2 [], [b.low.l.getD k0 0, b.high.l.getD k0 0]⟩ : OwL Int).ok 1 icell := ⟨rfl, Nat.le_refl _, by simp only [maxLen]; omega, rfl⟩
      have hl2 : [b.low.l.getD k0 0, b.high.l.getD k0 0].length = 2 := rfl
      refine qae ?_
      refine qaj ?_
      refine qa4 ?_
      refine q_c (fun hc4 => ?_) (fun hc4 => ?_)
      ·
       obtain ⟨y, hy⟩ := get_some (l := [b.low.l.getD k0 0, b.high.l.getD k0 0]) (k := k1) (by omega)
       refine qbb ?_
       refine LJ_q (yv_index_ow tb ((⟨.own b58 2 [], [b.low.l.getD k0 0, b.high.l.getD k0 0]⟩ : OwL Int)) _ rfl rfl rfl rfl (by assumption) (i := k1) (by first | rfl | omega | (simp; omega)) (by first | omega | (dsimp only; omega) | (dsimp only; rw [List.length_set]; omega))) rfl ?_
       refine LJ_q (yv_load1_ow tb ((⟨.own b58 2 [], [b.low.l.getD k0 0, b.high.l.getD k0 0]⟩ : OwL Int)) rfl rfl rfl (by repeat (first | apply OSeg.cons | exact OSeg.here | exact OSeg.last | exact OSeg.at (by assumption) | apply OSeg.app)) (by assumption) (fun _ => rfl) (by assumption) (by rfl)) rfl ?_
       refine qad ?_
       refine qam ?_
       refine qaa ?_
       refine qaj ?_
       refine qah ?_
       apply LJ_or (G := [_, _]) (j := 2) (cj := 66) rfl rfl (by rfl) rfl (show _ = Value.bool _ from rfl) rfl
       ·
        intro hg3
        replace hg3 := qb hg3
        refine qaa ?_
        refine qa5 ?_
        exact qai
       intro junk3
       refine qaf ?_
       refine q_c (fun hc5 => ?_) (fun hc5 => ?_)
       ·
        refine qae ?_
        refine qad ?_
        refine LJ_nil (seqK_normal (CJ_ret (blockK_ret (seqK_ret (loopK_ret (blockK_ret (blockK_ret (seqK_ret (loopK_ret (blockK_ret (seqK_ret ?_)))))))))))
        refine q_i (L' := L) (R' := R) ?_
        have hpb : rangeBad b k0 = some 1 := by rw [rangeBad]; exact FS_some hp1 hy (if_pos (by omega))
        exact ⟨[], by rw [checkS, if_neg hc0, if_neg hff, if_neg (by omega), if_pos (rangeBad_some rfl (by omega) (by omega) hpb)], rfl, rfl⟩
       ·
        refine qbj ?_
        refine qar ?_
        refine qaa ?_
        refine qav ?_
        exact q_k ⟨k1 + 1, FS_next hp1 hy (if_neg (by omega))⟩
      ·
       have hn1 := FS_none hp1 (by omega)
       refine CJ_exit (seqK_exit (loopK_exit (blockK_exit (blockK_normal (seqK_normal (CJ_region ?_))))))
       refine qar ?_
       refine qaa ?_
       refine qav ?_
       exact q_k ⟨k0 + 1, FSR_next hp0 (by omega) hn1⟩
     ·
      have hn0 := FSR_none hp0 (by omega)
      have hrb := rangeBad_none (b := b) rfl (by omega) hn0
      have hplb : PresOk b.low.l := presOk_of hrb.1
      have hphb : PresOk b.high.l := presOk_of hrb.2
      have hck : checkS a s b A = ((List.range a.mine.places.l.length).findSome? (nodeBad a s b A)).getD 0 := by rw [checkS, if_neg hc0, if_neg hff, if_neg (by omega), if_neg (by rw [hrb.1, hrb.2]; simp)]
      refine qbk ?_
      refine qab ?_
      refine qbe ?_
      refine LJ_call rfl (lost_tri a.mine _ _ hm.mineR hok.mine (airErr_mine h0)) rfl ?_
      rintro v L' R' ⟨p, A2, S, rfl, hpk, hA2, hpl, rfl, rfl⟩
      obtain rfl : A = A2 := hAA.unique hA2
      have hfx : p.l.length = a.mine.places.l.length := by rw [hpl, List.length_map]; exact hAA.length
      have hm2 : AirR a (S ++ R) := ⟨hm.places.mono fun r h => inR_self (by simp [h]), hm.roads.mono fun r h => inR_self (by simp [h]), hm.fans.mono fun r h => inR_self (by simp [h]), hm.doors.mono fun r h => inR_self (by simp [h])⟩
      have hs2 : SetR s (S ++ R) := ⟨hs.fans.mono fun r h => inR_self (by simp [h]), hs.doors.mono fun r h => inR_self (by simp [h])⟩
      refine qc4 ?_
      refine qam ?_
      refine qa8 ?_
      refine qbe ?_
      refine LJ_call rfl (make_tri a s _ _ hm2 hs2 hok hfo) rfl ?_
      rintro v L' R' ⟨n, rfl, hn, rfl, rfl⟩
      have hpp : InR (ppsl n.pipes) (ppsl n.pipes :: aasl n.at_ :: (S ++ R)) := inR_self (.head _)
      have haa : InR (aasl n.at_) (ppsl n.pipes :: aasl n.at_ :: (S ++ R)) := inR_self (.tail _ (.head _))
      have hmp3 : InR (psl a.mine.places) (ppsl n.pipes :: aasl n.at_ :: (S ++ R)) := hmp.mono fun r h => inR_self (by simp [h])
      have hbl3 : InR (isl b.low) (ppsl n.pipes :: aasl n.at_ :: (S ++ R)) := hbl.mono fun r h => inR_self (by simp [h])
      have hbh3 : InR (isl b.high) (ppsl n.pipes :: aasl n.at_ :: (S ++ R)) := hbh.mono fun r h => inR_self (by simp [h])
      refine qaq ?_
      intro b12
      refine qak ?_
      refine qaw ?_
      refine qab ?_
      refine qab ?_
      refine qac ?_
      refine qag ?_
      refine qaa ?_
      refine qa2 ?_
      refine CJ_forget [(5, Value.pointer _), (11, Value.slice _ _ _), (12, Value.pointer _), (80, Value.slice _ _ _), (81, Value.int _ _), (82, Value.int _ _)] (by repeat' (first | exact trivial | refine And.intro rfl ?_)) fun tq2 => ?_
      refine q_s [6, 13, 14, 82, 83, 84, 85, 86, 87, 88, 89, 90, 91, 92, 93, 94, 95, 96, 97, 98, 99, 100, 101, 102, 103, 104, 105, 106, 107, 108, 109, 110, 111, 112, 113, 114, 115, 116, 117, 118, 119, 120, 121, 122, 123] (fun g : FSR (nodeBad a s b A) (a.mine.places.l.length) => [(82, .int .i64 ((g.1 : Nat) : Int))]) (fun g => (a.mine.places.l.length) - g.1) ⟨0, FSR_zero _ _⟩ ?_
      rintro ⟨k2, hk2, hp2⟩ junk
      try dsimp only
      refine qae ?_
      refine qaj ?_
      refine qa4 ?_
      refine q_c (fun hc6 => ?_) (fun hc6 => ?_)
      ·
       have hmg := get_D (l := a.mine.places.l) (k := k2) default (by omega)
       have hpg : p.l[k2]? = some (!(A.getD k2 false)) := by
         have := hAA.length
         rw [hpl, List.getElem?_map, get_D (l := A) (k := k2) false (by omega)]; rfl
       have hlg := get_D (l := b.low.l) (k := k2) 0 (by omega)
       have hhg := get_D (l := b.high.l) (k := k2) 0 (by omega)
       refine qbb ?_
       refine qaa ?_
       refine qa3 ?_
       refine qdl ?_
       refine qaq ?_
       intro b14
       refine qad ?_
       refine qak ?_
       refine qam ?_
       refine qab ?_
       refine qac ?_
       refine qah ?_
       apply LJ_or (G := [_, _, _, _]) (j := 2) (cj := 89) rfl rfl (by rfl) rfl (show _ = Value.bool _ from rfl) rfl
       ·
        intro hg3
        replace hg3 := qb hg3
        refine qbm ?_
        refine qaa ?_
        refine LJ_q (yv_index_ow tb (p) _ rfl rfl rfl rfl (by assumption) (i := k2) (by first | rfl | omega | (simp; omega)) (by first | omega | (dsimp only; omega) | (dsimp only; rw [List.length_set]; omega))) rfl ?_
        refine LJ_q (yv_load1_ow tb (p) rfl rfl rfl (by repeat (first | apply OSeg.cons | exact OSeg.here | exact OSeg.last | exact OSeg.at (by assumption) | apply OSeg.app)) (by assumption) (fun _ => rfl) (by assumption) (by rfl)) rfl ?_
        exact qai
       intro junk3
       refine qaf ?_
       refine q_c (fun hc7 => ?_) (fun hc7 => ?_)
       ·
        have hnb : nodeBad a s b A k2 = if b.low.l.getD k2 0 ≠ 0 ∨ b.high.l.getD k2 0 ≠ 0 then some 12 else none := by rw [nodeBad, if_pos (by simpa [or_comm] using hc7)]
        refine qae ?_
        refine qab ?_
        refine qac ?_
        refine qaa ?_
        refine LJ_q (by first | exact yv_index_ro tb rfl rfl rfl rfl (by first | assumption | exact zr (by simp)) (i := k2) (by first | rfl | omega | (simp; omega)) (by omega) | exact yv_index tb rfl rfl rfl rfl (i := k2) (by first | rfl | omega | (simp; omega)) (by omega)) rfl ?_
        refine qa7 ?_
        refine qbq ?_
        refine qah ?_
        apply LJ_or (G := [_, _, _, _, _, _]) (j := 6) (cj := 101) rfl rfl (by rfl) rfl (show _ = Value.bool _ from rfl) rfl
        ·
         intro hg7
         replace hg7 := qb hg7
         refine qab ?_
         refine qac ?_
         refine qaa ?_
         refine LJ_q (by first | exact yv_index_ro tb rfl rfl rfl rfl (by first | assumption | exact zr (by simp)) (i := k2) (by first | rfl | omega | (simp; omega)) (by omega) | exact yv_index tb rfl rfl rfl rfl (i := k2) (by first | rfl | omega | (simp; omega)) (by omega)) rfl ?_
         refine qa7 ?_
         refine qbq ?_
         exact qai
        intro junk7
        refine qaf ?_
        refine q_c (fun hc8 => ?_) (fun hc8 => ?_)
        ·
         refine qae ?_
         refine qad ?_
         refine qbt ?_
         refine q_i (L' := L) (R' := ppsl n.pipes :: aasl n.at_ :: (S ++ R)) ?_
         exact ⟨[ppsl n.pipes, aasl n.at_] ++ S, by rw [hck, FSR_some hp2 (by omega) (hnb.trans (if_pos (by omega)))]; rfl, rfl, rfl⟩
        ·
         refine qbj ?_
         refine qar ?_
         refine qaa ?_
         refine qav ?_
         exact q_k ⟨k2 + 1, FSR_next hp2 (by omega) (hnb.trans (if_neg (by omega)))⟩
       ·
        have hnb : nodeBad a s b A k2 = if lowN a s b.high.l (k2 : Int) < 0 ∨ 0 < highN a s b.low.l (k2 : Int) then some 12 else none := by rw [nodeBad, if_neg (by simpa [and_comm] using hc7)]
        refine qae ?_
        refine qbe ?_
        refine qab ?_
        refine qac ?_
        refine qaa ?_
        refine q_l rfl (netLow_tri n a s b.high _ _ _ hpp haa hbh3 hn hok hhn hphb (by omega)) ?_
        refine qaj ?_
        refine qah ?_
        refine LJ_case (k := 115) (show _ = Value.bool _ from rfl) (fun hg7 => ?_) (fun hg7 => ?_)
        ·
         replace hg7 := qb hg7
         refine LJ_skg rfl rfl ?_
         refine LJ_skg rfl rfl ?_
         refine LJ_skg rfl rfl ?_
         refine LJ_skg rfl rfl ?_
         refine LJ_skg rfl rfl ?_
         refine LJ_skg rfl rfl ?_
         refine LJ_q (by first | exact yv_pick_true rfl rfl | exact yv_pick_false rfl rfl | exact yv_pick rfl) rfl ?_
         refine qaf ?_
         refine CJ_cond_true rfl ?_
         refine qae ?_
         refine qad ?_
         refine qbt ?_
         refine q_i (L' := L) (R' := ppsl n.pipes :: aasl n.at_ :: (S ++ R)) ?_
         exact ⟨[ppsl n.pipes, aasl n.at_] ++ S, by rw [hck, FSR_some hp2 (by omega) (hnb.trans (if_pos (by omega)))]; rfl, rfl, rfl⟩
        ·
         replace hg7 := qb hg7
         refine LJ_qg (yv_loadN (row := [_, _]) tb rfl rfl rfl (by repeat (first | exact zi0 | apply zi1 | apply zi2)) (by rfl) (by rfl)) rfl rfl ?_
         refine LJ_qg (yv_field tb rfl rfl rfl) rfl rfl ?_
         refine LJ_qg (yv_load1 tb rfl rfl rfl (by repeat (first | exact zi0 | apply zi1 | apply zi2)) (by rfl)) rfl rfl ?_
         refine LJ_qg (yv_move (show _ = Value.int _ _ from rfl)) rfl rfl ?_
         refine LJ_callg rfl (netHigh_tri n a s b.low _ _ _ hpp haa hbl3 hn hok hln hplb (by omega)) rfl rfl ?_
         rintro v L' R' ⟨rfl, rfl, rfl⟩
         refine LJ_qg (yv_gtr rfl rfl) rfl rfl ?_
         refine LJ_q (by first | exact yv_pick_true rfl rfl | exact yv_pick_false rfl rfl | exact yv_pick rfl) rfl ?_
         refine qaf ?_
         refine q_c (fun hc9 => ?_) (fun hc9 => ?_)
         ·
          refine qae ?_
          refine qad ?_
          refine qbt ?_
          refine q_i (L' := L) (R' := ppsl n.pipes :: aasl n.at_ :: (S ++ R)) ?_
          exact ⟨[ppsl n.pipes, aasl n.at_] ++ S, by rw [hck, FSR_some hp2 (by omega) (hnb.trans (if_pos (by omega)))]; rfl, rfl, rfl⟩
         ·
          refine qbj ?_
          refine qar ?_
          refine qaa ?_
          refine qav ?_
          exact q_k ⟨k2 + 1, FSR_next hp2 (by omega) (hnb.trans (if_neg (by omega)))⟩
      ·
       have hn2 := FSR_none hp2 (by omega)
       refine qbk ?_
       refine qad ?_
       refine qa0 ?_
       refine q_i (L' := L) (R' := ppsl n.pipes :: aasl n.at_ :: (S ++ R)) ?_
       exact ⟨[ppsl n.pipes, aasl n.at_] ++ S, by rw [hck, hn2]; rfl, rfl, rfl⟩
end Go.Proofs.Ytlgjgigciapkfaa
