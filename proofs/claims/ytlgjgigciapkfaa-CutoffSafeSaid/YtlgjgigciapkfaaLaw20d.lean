/-
  Statements about chapter 20: zones that are not off are safe. By an AI agent; no person has read it.
-/
import Derived.Test.YtlgjgigciapkfaaDrawV
import Derived.Test.YtlgjgigciapkfaaApp0
set_option linter.unusedSimpArgs false
set_option linter.unusedVariables false
namespace Go.Proofs.Ytlgjgigciapkfaa
open Go.Aw Go
set_option maxRecDepth 20000
attribute [local irreducible] CJ LJ DJ Tri YV Gives seqK blockK loopK retK RV mergeK OwL.L
section
variable {A9 B9 : Prop}
theorem yckaa (a : A9) (h : A9 → B9 := by exact DJ_q (yv_move (show _ = Value.slice _ _ _ from rfl)) rfl rfl rfl) : B9 := h a
theorem yckab (a : A9) (h : A9 → B9 := by exact DJ_q (by first | exact yv_index_ro tb rfl rfl rfl rfl (by first | assumption | exact zr (by simp)) (i := e) (by first | rfl | omega | (simp; omega)) (by omega) | exact yv_index tb rfl rfl rfl rfl (i := e) (by first | rfl | omega | (simp; omega)) (by omega)) rfl rfl rfl) : B9 := h a
theorem yckac (a : A9) (h : A9 → B9 := by exact DJ_q (yv_assign (show _ = Value.slice _ _ _ from rfl)) rfl rfl rfl) : B9 := h a
theorem yckad (a : A9) (h : A9 → B9 := by exact DJ_q (yv_loadN (row := [_, _, _, _, _, _, _, _]) tb rfl rfl rfl (by repeat (first | exact zi0 | apply zi1 | apply zi2)) (by rfl) (by rfl)) rfl rfl rfl) : B9 := h a
theorem yckae (a : A9) (h : A9 → B9 := by exact LJ_q (yv_loadN (row := [_, _, _, _, _, _, _, _]) tb rfl rfl rfl (by repeat (first | exact zi0 | apply zi1 | apply zi2)) (by rfl) (by rfl)) rfl) : B9 := h a
theorem yckaf (a : A9) (h : A9 → B9 := by exact LJ_q (yv_index_ow tb ((⟨p.o, l1⟩ : OwL Int)) _ rfl rfl ((show _ = Value.slice _ _ _ from rfl).trans (by simp only [OwL.val, hl1])) rfl (by assumption) (i := i) (by first | rfl | omega | (simp; omega)) (by first | omega | (dsimp only; omega) | (dsimp only; rw [List.length_set]; omega) | (dsimp only; simp only [List.length_set]; omega))) rfl) : B9 := h a
end
structure TurnL (l0 l : List Int) : Prop where
  len : l0.length = l.length
  was : ∀ j : Nat, l0.getD j 0 = 0 ∨ l0.getD j 0 = l.getD j 0
  rng : ∀ j : Nat, -1 ≤ l.getD j 0 ∧ l.getD j 0 ≤ 1
theorem getD_set0 {l : List Int} {i j : Nat} {x : Int} : (l.set i x).getD j 0 = if i = j ∧ j < l.length then x else l.getD j 0 := by
  rw [List.getD_eq_getElem?_getD, List.getD_eq_getElem?_getD, List.getElem?_set]
  by_cases h : i = j
  · subst h
    by_cases h2 : i < l.length
    · simp [h2]
    · simp [h2]
  · simp [h]
theorem TurnL.set {l0 l : List Int} (h : TurnL l0 l) {i : Nat} {x : Int} (h0 : l0.getD i 0 = 0) (hx : -1 ≤ x ∧ x ≤ 1) : TurnL l0 (l.set i x) := by
  refine ⟨by rw [List.length_set]; exact h.len, fun j => ?_, fun j => ?_⟩
  · rw [getD_set0]
    split
    · rename_i e; left; rw [← e.1]; exact h0
    · exact h.was j
  · rw [getD_set0]
    split
    · exact hx
    · exact h.rng j
theorem TurnL.self {l0 : List Int} (h : ∀ j : Nat, -1 ≤ l0.getD j 0 ∧ l0.getD j 0 ≤ 1) : TurnL l0 l0 := ⟨rfl, fun _ => .inr rfl, h⟩
theorem safe_facts {l : List XNode} {l0 l1 : List Int} {t : Int} {c : XCut} {b : Bool} (hT : TurnL l0 l1) (hb : b = true ↔ evalS l l0 ≠ -1 ∧ c.off = false) :
    ((cutV (evalS l l0) c t).off = false → evalS l l1 = -1) ∧ (c.off = true → (cutV (evalS l l0) c t).off = true) ∧ b = ((cutV (evalS l l0) c t).off && !c.off) := by
  have hk := evalS_kl (l := l) hT.len hT.was hT.rng
  obtain ⟨_, _, hk⟩ := hk
  rw [cutV]
  by_cases hv : evalS l l0 = -1
  · have hb' : b = false := by
      cases b with
      | false => rfl
      | true => exact absurd hv (hb.1 rfl).1
    rw [if_pos hv, hb']
    split
    · exact ⟨fun _ => by omega, fun h => h, by cases c.off <;> rfl⟩
    · exact ⟨fun _ => by omega, fun h => h, by cases c.off <;> rfl⟩
  · rw [if_neg hv]
    have hb' : b = !c.off := by
      cases ho : c.off with
      | false => exact hb.2 ⟨hv, ho⟩
      | true =>
        cases b with
        | false => rfl
        | true => exact absurd ho (by rw [(hb.1 rfl).2]; decide)
    rw [hb']
    split
    · exact ⟨fun h => (by cases h), fun _ => rfl, by rw [Bool.true_and]⟩
    · exact ⟨fun h => (by cases h), fun _ => rfl, by rw [Bool.true_and]⟩

theorem cutoffSafe_law (y : Arr Int) (t tn : Int) (R : List Sl) (hy : CodesR y R) (ht : 0 ≤ t ∧ t ≤ 255) (htn : 0 ≤ tn ∧ tn ≤ 18446744073709551615) :
    Tri Try.prog 6 [y.val, .int .u8 t, .int .u64 tn].toArray [] R (fun v L' R' => v = .bool true ∧ [] = L' ∧ R = R') := by
  refine tri_enter 184 Try.call6 Try.func6 rfl rfl rfl ?_
  refine qae ?_
  refine qaz ?_
  refine qam ?_
  refine qbm ?_
  refine LJ_call rfl (new_tri y _ _ hy) rfl ?_
  rintro v L' R' ⟨c, rfl, hx, rfl, rfl⟩
  refine qc1 ?_
  refine qam ?_
  refine qa6 ?_
  refine LJ_call rfl (drawSite_tri c (codes300 y) 0 _ hx (Nat.zero_le _)) rfl ?_
  rintro v L' R' ⟨s, u, z, k1, rfl, hD, hk1, ⟨hs, hu, hz, hR0⟩, rfl⟩
  refine LJ_q (yv_move rfl) rfl ?_
  iterate 3 refine qbs ?_
  refine qaq ?_
  intro b8
  refine qaq ?_
  intro b9
  refine qaq ?_
  intro b10
  iterate 3 refine qak ?_
  refine qa4 ?_
  have hRR : ∀ r ∈ R, InR r R' := fun r hr => hR0 r (.tail _ hr)
  have hx1 := hx.mono hR0
  have hF := hD.air.flows
  have hfn := hF.flen
  have hn0 := hD.nsens
  have hn1 := hD.ncond
  have hn2 := hD.nzone
  have hn3 := hD.air.nroads
  refine CJ_weak (L' := ⟨b10, z.cells, 42⟩ :: ⟨b8, s.cells, 36⟩ :: cblk c (codes300 y) k1 :: []) (R' := R') (.cons_cons _ (.cons _ (List.Sublist.refl _))) (allR_self _) ?_
  refine CJ_drawn tb [0, 1, 3, 4, 6, 7, 8, 2, 5, 9, 10, 11, 12] ([Blk.mk b10 _ _, Blk.mk b8 _ _]) mixed (by kernel_rfl) (by repeat (first | exact zs0 _ | exact zs1 _ | apply zs2 | apply zs3 | apply zs4 | apply zs5)) ?_
  refine qb8 ?_
  refine yckad ?_
  refine qb8 ?_
  refine yckad ?_
  refine qb8 ?_
  refine qal ?_
  refine qat ?_
  refine DJ_call rfl (Tri.spl (.consB (.consB (.consL .nil))) (said_tri c (codes300 y) k1 s _ hx1 hk1 hs.sensors (by omega))) rfl rfl ?_
  rintro v L' R' ⟨_, rfl, m, k2, rfl, hmk, hm, hk2, rfl, rfl⟩
  refine qas ?_
  simp only [List.append_assoc, List.cons_append, List.nil_append, List.append_nil]
  refine DJ_call rfl (Tri.spl (.consB (.consB (.appB (.consL .nil)))) (watched_tri c (codes300 y) k2 s _ hx1 hk2 (by omega))) rfl rfl ?_
  rintro v L' R' ⟨_, rfl, w, k3, rfl, hwk, hw, hk3, rfl, rfl⟩
  refine qas ?_
  simp only [List.append_assoc, List.cons_append, List.nil_append, List.append_nil]
  refine DJ_call rfl (Tri.spl (.consB (.consB (.appB (.appB (.consL .nil))))) (drawSpans_tri c (codes300 y) k3 z.flows _ hx1 hk3 hz.flows (fun q hq => by have := hF.flow q hq; omega) (by omega))) rfl rfl ?_
  rintro v L' R' ⟨_, rfl, l, k4, rfl, hlk, hlN, hk4, rfl, rfl⟩
  refine qas ?_
  simp only [List.append_assoc, List.cons_append, List.nil_append, List.append_nil]
  iterate 3 refine yckac ?_
  refine qb9 ?_
  refine CJ_frz1 (A := [_, _]) (wd := 4) [] (fun _ => rfl) (by decide) hmk (fun s hs => by cases hs) ?_
  refine qb1 ?_
  refine CJ_frz1 (A := [_, _]) (wd := 3) [] (fun _ => rfl) (by decide) hwk (fun s hs => by cases hs) ?_
  refine qb1 ?_
  refine CJ_frz1 (A := [_, _]) (wd := 2) [] (fun _ => rfl) (by decide) hlk (fun s hs => by cases hs) ?_
  refine qb1 ?_
  obtain ⟨R2, hR2e⟩ : ∃ R2, R2 = spsl l.arr :: wasl w.arr :: mesl m.arr :: R' := ⟨_, rfl⟩
  have hR2 : ∀ r ∈ R', InR r R2 := fun r hr => inR_self (by rw [hR2e]; exact .tail _ (.tail _ (.tail _ hr)))
  have hlR : InR (spsl l.arr) R2 := inR_self (by rw [hR2e]; exact .head _)
  have hwR : InR (wasl w.arr) R2 := inR_self (by rw [hR2e]; exact .tail _ (.head _))
  have hmR : InR (mesl m.arr) R2 := inR_self (by rw [hR2e]; exact .tail _ (.tail _ (.head _)))
  have hs2 := hs.mono hR2
  have hx2 := hx1.mono hR2
  have hzR := hs2.zones
  have hcR := hs2.conds
  have hve := drawn_vals hD (t := 20 + t) hm.len hw (hlN.len.trans hfn) (by omega)
  have hvl := valuesV_len hve
  refine CJ_R (show _ = R2 by rw [hR2e]) ?_
  refine CJ_weak (L' := ⟨b8, s.cells, 36⟩ :: cblk c (codes300 y) k4 :: []) (R' := R2) (.cons _ (List.Sublist.refl _)) (allR_self _) ?_
  refine qay ?_
  refine qaa ?_
  refine qdg ?_
  refine qar ?_
  refine qad ?_
  refine qam ?_
  refine yckae ?_
  iterate 3 refine qbm ?_
  refine qaa ?_
  refine LJ_call rfl (values_tri s m.arr w.arr l.arr (20 + t) _ _ ⟨hs2, hmR, hwR, hlR, hm.ok⟩) rfl ?_
  rintro v L' R' ⟨p, p', rfl, ⟨hpk, hpk'⟩, hpl, hpl', rfl, rfl⟩
  dsimp only [OwL.arr] at hpl hpl' ⊢
  rw [hve]
  have hpn : p.l.length = s.conds.l.length := by rw [hpl, hvl.1]; exact hw.1
  refine LJ_q (yv_move rfl) rfl ?_
  iterate 3 refine qbs ?_
  refine qc4 ?_
  refine qc4 ?_
  refine qad ?_
  refine qa4 ?_
  refine CJ_weak (L' := p.L 3 icell ++ (⟨b8, s.cells, 36⟩ :: cblk c (codes300 y) k4 :: [])) (R' := R2) ((List.Sublist.refl _).append (List.sublist_append_right _ _)) (allR_self _) ?_
  refine qay ?_
  refine qab ?_
  refine qac ?_
  refine qag ?_
  refine qc7 ?_
  rintro v L' R' ⟨b60, rfl, rfl, hR60⟩
  replace hR60 := hR60.symm; subst hR60
  refine qc4 ?_
  refine qaw ?_
  refine qbm ?_
  refine qag ?_
  refine qaa ?_
  refine qa2 ?_
  refine CJ_forget [(2, Value.int _ _), (7, Value.pointer _), (8, Value.pointer _), (14, Value.int _ _), (15, Value.slice _ _ _), (17, Value.int _ _), (18, Value.slice _ _ _), (62, Value.int _ _), (63, Value.int _ _)] (by repeat' (first | exact trivial | refine And.intro rfl ?_)) fun tq0 => ?_
  refine CJ_loop [19, 63, 64, 65, 66, 67, 68, 69, 70, 71, 72] ((⟨fun g => [(63, .int .i64 ((g.1.2.1 : Nat) : Int))], fun g => (⟨.own b60 s.zones.l.length [], g.1.2.2⟩ : OwL XCut).L 72 XCut.cells ++ (p.L 3 icell ++ (⟨b8, s.cells, 36⟩ :: cblk c (codes300 y) g.1.1 :: [])), fun _ => R2, fun g => s.zones.l.length - g.1.2.1⟩ : Head {g : Nat × Nat × List XCut // g.1 ≤ (codes300 y).l.length ∧ g.2.1 ≤ s.zones.l.length ∧ g.2.2.length = s.zones.l.length})) (⟨(k4, 0, List.replicate s.zones.l.length ⟨false, 0, 0⟩), hk4, by dsimp only; omega, by dsimp only; simp⟩) (by repeat' (first | exact trivial | refine And.intro rfl ?_)) (by dsimp only; rw [← made_ow (f := XCut.cells) (x := (⟨false, 0, 0⟩ : XCut)) rfl]; exact List.Sublist.refl _) (allR_self _) ?_
  rintro ⟨⟨k5, j, q⟩, hk5, hj, hqn⟩ junk
  try dsimp only
  dsimp only at hk5 hj hqn
  have hqk : (⟨.own b60 s.zones.l.length [], q⟩ : OwL XCut).ok 3 XCut.cells := by have := made_ok (f := XCut.cells) (wd := 3) (b := b60) (n := s.zones.l.length) (x := ⟨false, 0, 0⟩) (fun _ => rfl) (by simp only [maxLen]; omega); exact OwL.len_ok (fun _ => rfl) this (by simp; exact hqn)
  refine qae ?_
  refine qaj ?_
  refine qa4 ?_
  refine q_c (fun hc0 => ?_) (fun hc0 => ?_)
  ·
   have hqg := get_D (l := q) (k := j) default (by omega)
   refine qbb ?_
   refine qaa ?_
   refine qad ?_
   refine LJ_nil (seqK_normal (CJ_region ?_))
   refine qbm ?_
   refine qaa ?_
   refine qa6 ?_
   refine LJ_call rfl (one1 (by repeat (first | apply USeg.here | apply USeg.cons | apply USeg.app)) hx2 hk5 (by omega)) rfl ?_
   rintro v L' R' ⟨bo, k6, rfl, hk6, rfl, rfl⟩
   refine LJ_q (yv_build (qs := [(0, (Value.bool _).cells.toList), (1, (Value.int _ _).cells.toList)]) (out := [_, _, _]) tb rfl rfl rfl rfl) rfl ?_
   refine LJ_q (yv_index_ow tb ((⟨.own b60 s.zones.l.length [], q⟩ : OwL XCut)) _ rfl rfl ((show _ = Value.slice _ _ _ from rfl).trans (own_val hqn)) rfl (by assumption) (i := j) (by first | rfl | omega | (simp; omega)) (by first | omega | (dsimp only; omega) | (dsimp only; rw [List.length_set]; omega) | (dsimp only; simp only [List.length_set]; omega))) rfl ?_
   refine LJ_g0 (gives_storeN_ow tb ((⟨.own b60 s.zones.l.length [], q⟩ : OwL XCut)) (⟨bo, -1, 0⟩) rfl rfl rfl rfl (by repeat (first | apply OSeg.cons | exact OSeg.here | exact OSeg.last | exact OSeg.at (by assumption) | apply OSeg.app)) (by assumption) (fun _ => rfl) (by assumption) (Nat.le_of_ble_eq_true rfl) (by rfl) (by rfl)) ?_
   rintro v L' R' ⟨rfl, rfl⟩
   refine qcs ?_
   refine qar ?_
   refine qaa ?_
   refine qav ?_
   exact q_k ⟨(k6, j + 1, q.set j ⟨bo, -1, 0⟩), hk6, by dsimp only; omega, by dsimp only; rw [List.length_set]; exact hqn⟩
  obtain rfl : j = s.zones.l.length := by omega
  refine qc3 ?_
  have hqk : (⟨.own b60 s.zones.l.length [], q⟩ : OwL XCut).ok 3 XCut.cells := by have := made_ok (f := XCut.cells) (wd := 3) (b := b60) (n := s.zones.l.length) (x := ⟨false, 0, 0⟩) (fun _ => rfl) (by simp only [maxLen]; omega); exact OwL.len_ok (fun _ => rfl) this (by simp; exact hqn)
  have hce : cutsErr s p.l q (20 + t) = 0 := by rw [cutsErr, hD.ok.err, if_neg (by decide), if_neg (fun h => h ⟨hpn, hqn⟩), if_neg (by omega)]
  refine qay ?_
  refine yckae ?_
  refine qbm ?_
  refine qbm ?_
  refine qaa ?_
  refine LJ_call rfl (Tri.cast (cuts_own (q := (⟨.own b60 s.zones.l.length [], q⟩ : OwL XCut)) (t := 20 + t) hs2 (by repeat (first | exact inB_here | apply inB_cons | apply inB_app)) (by repeat (first | exact inB_here | apply inB_cons | apply inB_app)) hpk hqk) (by simp only [OwL.val, hqn]; rfl)) rfl ?_
  rintro v L' R' ⟨yy, nw, rfl, ⟨hyk, hnk⟩, hyl, hnl, rfl, rfl⟩
  simp only [List.append_assoc, List.cons_append, List.nil_append, List.append_nil]
  dsimp only at hyl hnl ⊢
  rw [hce]
  rw [cutsC, if_neg (by rw [hce]; decide)] at hyl
  rw [cutsN, if_neg (by rw [hce]; decide)] at hnl
  have hyn : yy.l.length = q.length := by rw [hyl]; simp
  refine LJ_q (yv_move rfl) rfl ?_
  iterate 3 refine qbs ?_
  refine qc4 ?_
  refine qc4 ?_
  refine qad ?_
  refine qaw ?_
  refine qaa ?_
  refine qbq ?_
  refine qah ?_
  apply LJ_or (G := [_, _]) (j := 2) (cj := 84) rfl rfl (by rfl) rfl (show _ = Value.bool _ from rfl) rfl
  ·
   intro hg3
   replace hg3 := qb hg3
   refine qaa ?_
   refine qbq ?_
   exact qai
  intro junk3
  refine qah ?_
  apply LJ_or (G := [_, _, _, _, _]) (j := 6) (cj := 88) rfl rfl (by rfl) rfl (show _ = Value.bool _ from rfl) rfl
  ·
   intro hg7
   replace hg7 := qb hg7
   refine qbm ?_
   refine qag ?_
   refine qbm ?_
   refine qag ?_
   refine qbq ?_
   exact qai
  intro junk7
  refine qah ?_
  apply LJ_or (G := [_, _, _, _, _, _]) (j := 13) (cj := 95) rfl rfl (by rfl) rfl (show _ = Value.bool _ from rfl) rfl
  ·
   intro hg14
   replace hg14 := qb hg14
   refine qbm ?_
   refine qag ?_
   refine qab ?_
   refine qac ?_
   refine qag ?_
   refine qbq ?_
   exact qai
  intro junk14
  refine qaf ?_
  refine q_c (fun hc1 => ?_) (fun hc1 => ?_)
  ·
   (exfalso; simp at hc1; omega)
  refine CJ_skip (seqK_normal (CJ_seq (CJ_seq ?_)))
  refine CJ_frzS (T := 3) (f := icell) (wd := 1) nw [] (by repeat (first | apply OSeg.cons | exact OSeg.here | exact OSeg.last | exact OSeg.at (by assumption) | apply OSeg.app)) (fun _ => rfl) (by decide) hnk (fun s hs => by cases hs) ?_
  refine CJ_frzS (T := 72) (f := XCut.cells) (wd := 3) yy [] (by repeat (first | apply OSeg.cons | exact OSeg.here | exact OSeg.last | exact OSeg.at (by assumption) | apply OSeg.app)) (fun _ => rfl) (by decide) hyk (fun s hs => by cases hs) ?_
  refine CJ_frzS (T := 72) (f := XCut.cells) (wd := 3) (⟨.own b60 s.zones.l.length [], q⟩ : OwL XCut) [] (by repeat (first | apply OSeg.cons | exact OSeg.here | exact OSeg.last | exact OSeg.at (by assumption) | apply OSeg.app)) (fun _ => rfl) (by decide) hqk (fun s hs => by cases hs) ?_
  obtain ⟨R3, hR3e⟩ : ∃ R3, R3 = cusl (⟨.own b60 s.zones.l.length [], q⟩ : OwL XCut).arr :: cusl yy.arr :: isl nw.arr :: R2 := ⟨_, rfl⟩
  have hR3 : ∀ r ∈ R2, InR r R3 := fun r hr => inR_self (by rw [hR3e]; exact .tail _ (.tail _ (.tail _ hr)))
  have hqR : InR (cusl (⟨.own b60 s.zones.l.length [], q⟩ : OwL XCut).arr) R3 := inR_self (by rw [hR3e]; exact .head _)
  have hyR : InR (cusl yy.arr) R3 := inR_self (by rw [hR3e]; exact .tail _ (.head _))
  have hnR : InR (isl nw.arr) R3 := inR_self (by rw [hR3e]; exact .tail _ (.tail _ (.head _)))
  have hzR3 := hzR.mono hR3
  have fin : ∀ r ∈ R, InR r R3 := fun r hr => ((hRR r hr).mono hR2).mono hR3
  have hrng := fun j => valuesV_range (s := s) (m := m.l) (w := w.l) (fl := l.l) (t := 20 + t) j
  rw [← hpl] at hrng
  refine CJ_R (show _ = R3 by rw [hR3e]) ?_
  refine CJ_weak (L' := p.L 3 icell ++ (⟨b8, s.cells, 36⟩ :: [])) (R' := R3) (by repeat (first | exact zs0 _ | exact zs1 _ | apply zs2 | apply zs3 | apply zs4 | apply zs5)) (allR_self _) ?_
  refine qay ?_
  refine qbm ?_
  refine qag ?_
  refine qaa ?_
  refine qa2 ?_
  refine CJ_forget [(2, Value.int _ _), (8, Value.pointer _), (15, Value.slice _ _ _), (18, Value.slice _ _ _), (20, Value.slice _ _ _), (21, Value.slice _ _ _), (104, Value.int _ _), (105, Value.int _ _)] (by repeat' (first | exact trivial | refine And.intro rfl ?_)) fun tq1 => ?_
  refine CJ_loop [23, 105, 106, 107, 108, 109, 110, 111, 112, 113, 114, 115, 116, 117, 118, 119, 120, 121, 122, 123, 124, 125, 126] ((⟨fun g => [(105, .int .i64 ((g.1.1 : Nat) : Int))], fun g => (⟨p.o, g.1.2⟩ : OwL Int).L 3 icell ++ (⟨b8, s.cells, 36⟩ :: []), fun _ => R3, fun g => p.l.length - g.1.1⟩ : Head {g : Nat × List Int // g.1 ≤ p.l.length ∧ TurnL p.l g.2})) (⟨(0, p.l), by dsimp only; omega, TurnL.self hrng⟩) (by repeat' (first | exact trivial | refine And.intro rfl ?_)) (List.Sublist.refl _) (allR_self _) ?_
  rintro ⟨⟨i, l1⟩, hi, hT⟩ junk
  try dsimp only
  dsimp only at hi hT
  have hl1 := hT.len
  have hpk1 : (⟨p.o, l1⟩ : OwL Int).ok 1 icell := OwL.len_ok icell_len hpk hl1.symm
  have hpk2 : (⟨p.o, l1.set i (-1)⟩ : OwL Int).ok 1 icell := OwL.len_ok icell_len hpk (by simp only [List.length_set]; exact hl1.symm)
  refine qae ?_
  refine qaj ?_
  refine qa4 ?_
  refine q_c (fun hc2 => ?_) (fun hc2 => ?_)
  ·
   have hlg := get_D (l := l1) (k := i) 0 (by omega)
   have hT2 := fun (h : l1.getD i 0 = 0) => (hT.was i).elim id fun e => e.trans h
   have hTs := fun (h : l1.getD i 0 = 0) (x : Int) => hT.set (i := i) (x := x) (hT2 h)
   refine qbb ?_
   refine qaa ?_
   refine qad ?_
   refine qam ?_
   refine qbm ?_
   refine qaa ?_
   refine yckaf ?_
   refine LJ_q (yv_load1_ow tb ((⟨p.o, l1⟩ : OwL Int)) rfl rfl rfl (by repeat (first | apply OSeg.cons | exact OSeg.here | exact OSeg.last | exact OSeg.at (by assumption) | apply OSeg.app)) (by assumption) (fun _ => rfl) (by assumption) (by rfl)) rfl ?_
   refine qbn ?_
   refine qaf ?_
   refine q_c (fun hc3 => ?_) (fun hc3 => ?_)
   ·
    refine qae ?_
    refine qbm ?_
    refine qaa ?_
    refine yckaf ?_
    refine LJ_g0 (gives_store1_ow tb ((⟨p.o, l1⟩ : OwL Int)) (-1) rfl rfl rfl rfl (by repeat (first | apply OSeg.cons | exact OSeg.here | exact OSeg.last | exact OSeg.at (by assumption) | apply OSeg.app)) (by assumption) (fun _ => rfl) (by assumption) (by decide) (by rfl) (by rfl)) ?_
    rintro v L' R' ⟨rfl, rfl⟩
    refine qa4 ?_
    have hlg2 : (l1.set i (-1))[i]? = some (-1) := by rw [List.getElem?_set_self (by omega)]
    refine qay ?_
    refine qaa ?_
    refine qaa ?_
    refine qda ?_
    refine qdg ?_
    refine LJ_q (yv_shrU rfl rfl (by rw [IntKind.wrap_u64]; omega)) rfl ?_
    refine LJ_q (yv_andU rfl rfl) rfl ?_
    refine qbn ?_
    refine qaf ?_
    refine q_c (fun hc4 => ?_) (fun hc4 => ?_)
    ·
     refine qay ?_
     refine qbm ?_
     refine qaa ?_
     refine LJ_q (yv_index_ow tb ((⟨p.o, l1.set i (-1)⟩ : OwL Int)) _ rfl rfl ((show _ = Value.slice _ _ _ from rfl).trans (by simp only [OwL.val, List.length_set, hl1])) rfl (by assumption) (i := i) (by first | rfl | omega | (simp; omega)) (by first | omega | (dsimp only; omega) | (dsimp only; rw [List.length_set]; omega) | (dsimp only; simp only [List.length_set]; omega))) rfl ?_
     refine LJ_g0 (gives_store1_ow tb ((⟨p.o, l1.set i (-1)⟩ : OwL Int)) (1) rfl rfl rfl rfl (by repeat (first | apply OSeg.cons | exact OSeg.here | exact OSeg.last | exact OSeg.at (by assumption) | apply OSeg.app)) (by assumption) (fun _ => rfl) (by assumption) (by decide) (by rfl) (by rfl)) ?_
     rintro v L' R' ⟨rfl, rfl⟩
     refine qcs ?_
     refine qar ?_
     refine qaa ?_
     refine qav ?_
     exact q_k ⟨(i + 1, (l1.set i (-1)).set i 1), by dsimp only; omega, by dsimp only; rw [List.set_set]; exact hTs hc3 1 (by decide)⟩
    refine qbj ?_
    refine qar ?_
    refine qaa ?_
    refine qav ?_
    exact q_k ⟨(i + 1, l1.set i (-1)), by dsimp only; omega, hTs hc3 (-1) (by decide)⟩
   refine qbj ?_
   refine qar ?_
   refine qaa ?_
   refine qav ?_
   exact q_k ⟨(i + 1, l1), by dsimp only; omega, hT⟩
  refine qcf ?_
  refine qab ?_
  refine qac ?_
  refine qag ?_
  refine qaa ?_
  refine qa2 ?_
  refine CJ_forget [(15, Value.slice _ _ _), (18, Value.slice _ _ _), (20, Value.slice _ _ _), (21, Value.slice _ _ _), (128, Value.slice _ _ _), (129, Value.int _ _), (130, Value.int _ _)] (by repeat' (first | exact trivial | refine And.intro rfl ?_)) fun tq2 => ?_
  refine q_s [6, 24, 25, 130, 131, 132, 133, 134, 135, 136, 137, 138, 139, 140, 141, 142, 143, 144, 145, 146, 147, 148, 149, 150, 151, 152, 153, 154, 155, 156, 157, 158, 159, 160, 161, 162, 163, 164, 165, 166, 167, 168, 169, 170, 171, 172, 173, 174, 175, 176, 177, 178, 179, 180, 181, 182] (fun g : {i : Nat // i ≤ s.zones.l.length} => [(130, .int .i64 ((g.1 : Nat) : Int))]) (fun g => s.zones.l.length - g.1) (⟨0, by omega⟩) ?_
  rintro ⟨e, he⟩ junk
  try dsimp only
  refine qae ?_
  refine qaj ?_
  refine qa4 ?_
  refine q_c (fun hc5 => ?_) (fun hc5 => ?_)
  ·
   have hzg := get_D (l := s.zones.l) (k := e) default (by omega)
   have hqg := get_D (l := q) (k := e) default (by omega)
   have hwg := get_D (l := yy.l) (k := e) default (by omega)
   have hwv : yy.l.getD e default = cutV (evalS (s.zones.l.getD e default).rule.l p.l) (q.getD e default) (20 + t) := by
     rw [hyl, List.getD_eq_getElem?_getD, List.getElem?_map, List.getElem?_range (by omega)]; rfl
   have hFa := safe_facts (l := (s.zones.l.getD e default).rule.l) (t := 20 + t) (c := q.getD e default) (b := decide ((e : Int) ∈ nw.l)) hT (by
     rw [decide_eq_true_iff, hnl, nowTo_mem]
     constructor
     · rintro ⟨k, k0, k1, k2⟩
       obtain rfl : e = k := by omega
       exact k2
     · exact fun h => ⟨e, by omega, rfl, h⟩)
   rw [← hwv] at hFa
   obtain ⟨f1, f2, f3⟩ := hFa
   generalize yy.l.getD e default = cw at *
   generalize q.getD e default = cq at *
   generalize hzz : s.zones.l.getD e default = zz at *
   have hpk3 : (⟨p.o, l1⟩ : OwL Int).ok 1 icell := OwL.len_ok icell_len hpk hl1.symm
   refine qbb ?_
   refine qaa ?_
   refine LJ_q (by first | exact yv_index_ro tb rfl rfl rfl rfl (by first | assumption | exact zr (by simp)) (i := e) (by first | rfl | omega | (simp; omega)) (by omega) | exact yv_index tb rfl rfl rfl rfl (i := e) (by first | rfl | omega | (simp; omega)) (by omega)) rfl ?_
   refine qdr ?_
   refine qaq ?_
   intro b25
   refine qad ?_
   refine qak ?_
   refine qa4 ?_
   refine CJ_drawn tb [0, 1, 2, 3, 4, 5, 6, 7, 8, 9, 10, 11, 12, 13, 14, 15, 16, 17, 18, 19, 20, 21, 22, 23, 24, 25, 26, 27, 28, 29, 30, 32, 33, 34, 35, 36, 31, 37, 38, 39, 40, 41, 42, 43, 44, 45, 46] ([Blk.mk b25 _ _]) mixed (by kernel_rfl) (by repeat (first | exact zs0 _ | exact zs1 _ | apply zs2 | apply zs3 | apply zs4 | apply zs5)) ?_
   refine yckaa ?_
   refine qao ?_
   refine yckab ?_
   refine qce ?_
   refine qbl ?_
   refine DJ_q (yv_not rfl) rfl rfl rfl ?_
   refine qb2 ?_
   refine DJ_case (k := 141) (show _ = Value.bool _ from rfl) (fun hg6 => ?_) (fun hg6 => ?_)
   ·
    replace hg6 := qb hg6
    refine qal ?_
    refine qat ?_
    refine yckaa ?_
    refine q_d rfl (Tri.cast (eval_own (p := (⟨p.o, l1⟩ : OwL Int)) (InR.rule hzR3 hzg) (by repeat (first | exact inB_here | apply inB_cons | apply inB_app)) hpk3) (by simp only [OwL.val, hl1]; rfl)) ?_
    refine DJ_q (yv_neq rfl rfl) rfl rfl rfl ?_
    refine qbp ?_
    refine qb2 ?_
    refine DJ_case (k := 148) (show _ = Value.bool _ from rfl) (fun hg13 => ?_) (fun hg13 => ?_)
    ·
     replace hg13 := qb hg13
     (exfalso; first | cases hg13 | exact hg13 (f1 hg6))
    replace hg13 := qb hg13
    refine yckaa ?_
    refine qao ?_
    refine yckab ?_
    refine qce ?_
    refine qbl ?_
    refine qb2 ?_
    refine DJ_case (k := 154) (show _ = Value.bool _ from rfl) (fun hg19 => ?_) (fun hg19 => ?_)
    ·
     replace hg19 := qb hg19
     refine yckaa ?_
     refine qao ?_
     refine yckab ?_
     refine qce ?_
     refine qbl ?_
     refine DJ_q (yv_not rfl) rfl rfl rfl ?_
     refine qbp ?_
     refine qbp ?_
     refine qb2 ?_
     refine DJ_case (k := 163) (show _ = Value.bool _ from rfl) (fun hg28 => ?_) (fun hg28 => ?_)
     ·
      replace hg28 := qb hg28
      (exfalso; first | (cases hg28; done) | (rw [f2 hg19] at hg28; cases hg28))
     replace hg28 := qb hg28
     refine yckaa ?_
     refine qao ?_
     refine yckaa ?_
     refine qao ?_
     refine yckab ?_
     refine qce ?_
     refine qbl ?_
     refine q_d rfl (has01_tri nw.arr (e : Int) _ _ hnR) ?_
     refine qb2 ?_
     refine DJ_case (k := 172) (show _ = Value.bool _ from rfl) (fun hg37 => ?_) (fun hg37 => ?_)
     ·
      replace hg37 := qb hg37
      refine yckaa ?_
      refine qao ?_
      refine yckab ?_
      refine qce ?_
      refine qbl ?_
      refine DJ_q (yv_not rfl) rfl rfl rfl ?_
      refine qbp ?_
      refine DJ_q (yv_neq_bool tb rfl rfl rfl) rfl rfl rfl ?_
      refine qbp ?_
      refine qbu ?_
      refine q_c (fun hc6 => ?_) (fun hc6 => ?_)
      ·
       (exfalso; first | exact hc6 (f3.trans (by rw [hg37, Bool.true_and])) | exact hc6 (of_decide_eq_false (f3.trans (by rw [hg37, Bool.false_and]))))
      refine qbj ?_
      refine qar ?_
      refine qaa ?_
      refine qav ?_
      exact q_k (⟨e + 1, by omega⟩)
     replace hg37 := qb hg37
     iterate 6 refine qap ?_
     refine qbp ?_
     refine DJ_q (yv_neq_bool tb rfl rfl rfl) rfl rfl rfl ?_
     refine qbp ?_
     refine qbu ?_
     refine q_c (fun hc6 => ?_) (fun hc6 => ?_)
     ·
      (exfalso; first | exact hc6 (f3.trans (by rw [hg37, Bool.true_and])) | exact hc6 (of_decide_eq_false (f3.trans (by rw [hg37, Bool.false_and]))))
     refine qbj ?_
     refine qar ?_
     refine qaa ?_
     refine qav ?_
     exact q_k (⟨e + 1, by omega⟩)
    replace hg19 := qb hg19
    iterate 6 refine qap ?_
    refine qbp ?_
    refine qbp ?_
    refine qb2 ?_
    refine DJ_case (k := 163) (show _ = Value.bool _ from rfl) (fun hg28 => ?_) (fun hg28 => ?_)
    ·
     replace hg28 := qb hg28
     (exfalso; first | (cases hg28; done) | (rw [f2 hg19] at hg28; cases hg28))
    replace hg28 := qb hg28
    refine yckaa ?_
    refine qao ?_
    refine yckaa ?_
    refine qao ?_
    refine yckab ?_
    refine qce ?_
    refine qbl ?_
    refine q_d rfl (has01_tri nw.arr (e : Int) _ _ hnR) ?_
    refine qb2 ?_
    refine DJ_case (k := 172) (show _ = Value.bool _ from rfl) (fun hg37 => ?_) (fun hg37 => ?_)
    ·
     replace hg37 := qb hg37
     refine yckaa ?_
     refine qao ?_
     refine yckab ?_
     refine qce ?_
     refine qbl ?_
     refine DJ_q (yv_not rfl) rfl rfl rfl ?_
     refine qbp ?_
     refine DJ_q (yv_neq_bool tb rfl rfl rfl) rfl rfl rfl ?_
     refine qbp ?_
     refine qbu ?_
     refine q_c (fun hc6 => ?_) (fun hc6 => ?_)
     ·
      (exfalso; first | exact hc6 (f3.trans (by rw [hg37, Bool.true_and])) | exact hc6 (of_decide_eq_false (f3.trans (by rw [hg37, Bool.false_and]))))
     refine qbj ?_
     refine qar ?_
     refine qaa ?_
     refine qav ?_
     exact q_k (⟨e + 1, by omega⟩)
    replace hg37 := qb hg37
    iterate 6 refine qap ?_
    refine qbp ?_
    refine DJ_q (yv_neq_bool tb rfl rfl rfl) rfl rfl rfl ?_
    refine qbp ?_
    refine qbu ?_
    refine q_c (fun hc6 => ?_) (fun hc6 => ?_)
    ·
     (exfalso; first | exact hc6 (f3.trans (by rw [hg37, Bool.true_and])) | exact hc6 (of_decide_eq_false (f3.trans (by rw [hg37, Bool.false_and]))))
    refine qbj ?_
    refine qar ?_
    refine qaa ?_
    refine qav ?_
    exact q_k (⟨e + 1, by omega⟩)
   replace hg6 := qb hg6
   iterate 5 refine qap ?_
   refine qbp ?_
   refine qb2 ?_
   refine DJ_case (k := 148) (show _ = Value.bool _ from rfl) (fun hg13 => ?_) (fun hg13 => ?_)
   ·
    replace hg13 := qb hg13
    (exfalso; first | cases hg13 | exact hg13 (f1 hg6))
   replace hg13 := qb hg13
   refine yckaa ?_
   refine qao ?_
   refine yckab ?_
   refine qce ?_
   refine qbl ?_
   refine qb2 ?_
   refine DJ_case (k := 154) (show _ = Value.bool _ from rfl) (fun hg19 => ?_) (fun hg19 => ?_)
   ·
    replace hg19 := qb hg19
    refine yckaa ?_
    refine qao ?_
    refine yckab ?_
    refine qce ?_
    refine qbl ?_
    refine DJ_q (yv_not rfl) rfl rfl rfl ?_
    refine qbp ?_
    refine qbp ?_
    refine qb2 ?_
    refine DJ_case (k := 163) (show _ = Value.bool _ from rfl) (fun hg28 => ?_) (fun hg28 => ?_)
    ·
     replace hg28 := qb hg28
     (exfalso; first | (cases hg28; done) | (rw [f2 hg19] at hg28; cases hg28))
    replace hg28 := qb hg28
    refine yckaa ?_
    refine qao ?_
    refine yckaa ?_
    refine qao ?_
    refine yckab ?_
    refine qce ?_
    refine qbl ?_
    refine q_d rfl (has01_tri nw.arr (e : Int) _ _ hnR) ?_
    refine qb2 ?_
    refine DJ_case (k := 172) (show _ = Value.bool _ from rfl) (fun hg37 => ?_) (fun hg37 => ?_)
    ·
     replace hg37 := qb hg37
     refine yckaa ?_
     refine qao ?_
     refine yckab ?_
     refine qce ?_
     refine qbl ?_
     refine DJ_q (yv_not rfl) rfl rfl rfl ?_
     refine qbp ?_
     refine DJ_q (yv_neq_bool tb rfl rfl rfl) rfl rfl rfl ?_
     refine qbp ?_
     refine qbu ?_
     refine q_c (fun hc6 => ?_) (fun hc6 => ?_)
     ·
      (exfalso; first | exact hc6 (f3.trans (by rw [hg37, Bool.true_and])) | exact hc6 (of_decide_eq_false (f3.trans (by rw [hg37, Bool.false_and]))))
     refine qbj ?_
     refine qar ?_
     refine qaa ?_
     refine qav ?_
     exact q_k (⟨e + 1, by omega⟩)
    replace hg37 := qb hg37
    iterate 6 refine qap ?_
    refine qbp ?_
    refine DJ_q (yv_neq_bool tb rfl rfl rfl) rfl rfl rfl ?_
    refine qbp ?_
    refine qbu ?_
    refine q_c (fun hc6 => ?_) (fun hc6 => ?_)
    ·
     (exfalso; first | exact hc6 (f3.trans (by rw [hg37, Bool.true_and])) | exact hc6 (of_decide_eq_false (f3.trans (by rw [hg37, Bool.false_and]))))
    refine qbj ?_
    refine qar ?_
    refine qaa ?_
    refine qav ?_
    exact q_k (⟨e + 1, by omega⟩)
   replace hg19 := qb hg19
   iterate 6 refine qap ?_
   refine qbp ?_
   refine qbp ?_
   refine qb2 ?_
   refine DJ_case (k := 163) (show _ = Value.bool _ from rfl) (fun hg28 => ?_) (fun hg28 => ?_)
   ·
    replace hg28 := qb hg28
    (exfalso; first | (cases hg28; done) | (rw [f2 hg19] at hg28; cases hg28))
   replace hg28 := qb hg28
   refine yckaa ?_
   refine qao ?_
   refine yckaa ?_
   refine qao ?_
   refine yckab ?_
   refine qce ?_
   refine qbl ?_
   refine q_d rfl (has01_tri nw.arr (e : Int) _ _ hnR) ?_
   refine qb2 ?_
   refine DJ_case (k := 172) (show _ = Value.bool _ from rfl) (fun hg37 => ?_) (fun hg37 => ?_)
   ·
    replace hg37 := qb hg37
    refine yckaa ?_
    refine qao ?_
    refine yckab ?_
    refine qce ?_
    refine qbl ?_
    refine DJ_q (yv_not rfl) rfl rfl rfl ?_
    refine qbp ?_
    refine DJ_q (yv_neq_bool tb rfl rfl rfl) rfl rfl rfl ?_
    refine qbp ?_
    refine qbu ?_
    refine q_c (fun hc6 => ?_) (fun hc6 => ?_)
    ·
     (exfalso; first | exact hc6 (f3.trans (by rw [hg37, Bool.true_and])) | exact hc6 (of_decide_eq_false (f3.trans (by rw [hg37, Bool.false_and]))))
    refine qbj ?_
    refine qar ?_
    refine qaa ?_
    refine qav ?_
    exact q_k (⟨e + 1, by omega⟩)
   replace hg37 := qb hg37
   iterate 6 refine qap ?_
   refine qbp ?_
   refine DJ_q (yv_neq_bool tb rfl rfl rfl) rfl rfl rfl ?_
   refine qbp ?_
   refine qbu ?_
   refine q_c (fun hc6 => ?_) (fun hc6 => ?_)
   ·
    (exfalso; first | exact hc6 (f3.trans (by rw [hg37, Bool.true_and])) | exact hc6 (of_decide_eq_false (f3.trans (by rw [hg37, Bool.false_and]))))
   refine qbj ?_
   refine qar ?_
   refine qaa ?_
   refine qav ?_
   exact q_k (⟨e + 1, by omega⟩)
  refine qbk ?_
  refine q_l rfl (awake20_tri _ _) ?_
  refine qaz ?_
  refine qa0 ?_
  refine retK_ret (L' := []) (R' := R) (res1 rfl (rv_tmp (show _ = Value.bool _ from rfl))) ?hp ?hL ?hR
  case hp => exact ⟨rfl, rfl, rfl⟩
  case hL => exact List.nil_sublist _
  case hR => exact fin
end Go.Proofs.Ytlgjgigciapkfaa
