/-
  Statements about chapter 12: raising ends at the least pressures. By an AI agent; no person has read it.
-/
import Derived.Test.YtjjfpglgonpciaaLaw12a
set_option linter.unusedSimpArgs false
set_option linter.unusedVariables false
namespace Go.Proofs.Ytjjfpglgonpciaa
open Go.Aw Go
set_option maxRecDepth 20000
attribute [local irreducible] CJ LJ DJ Tri YV Gives seqK blockK loopK retK RV mergeK OwL.L

theorem netS_ok {a : XAir} {s : XSetting} {ps : List Int} {v : Int} (h : rightB a s = true) (hl : ps.length = a.mine.places.l.length) (hp : PresOk ps) (hv : 0 ≤ v ∧ v < ps.length) : netS a s ps v = ⟨lowN a s ps v, highN a s ps v⟩ := by
  rw [netS, if_pos (rightN_iff.2 ⟨h, hl, hv.1, hv.2, presOk_none hp⟩)]
/-- one own list, one that lies in memory -/
theorem ints_lendA {A : List Blk} {R : List Sl} {p : OwL Int} {y : Arr Int} (hp : InB (p.L 3 icell) A) (okp : p.ok 1 icell) (hy : InR (isl y) R) (he : p.l = y.l) :
    Tri Try.prog 28 [p.val, y.val].toArray A R (fun v L' R' => v = .bool true ∧ A = L' ∧ R = R') :=
  Tri.lendU (S := [isl p.arr]) (fun w G hh s hs => by
    rw [List.mem_singleton.1 hs]
    exact lend_rep hh hp okp (fun _ => rfl) (by decide) (fun s hs => by cases hs)) (ints_tri p.arr y [] _ (inR_self (.head _)) (hy.mono fun r h => inR_self (.tail _ h)) he)
/-- between the start and the end, up to place i -/
structure MidTo (l p : List Int) (i : Nat) (m : List Int) : Prop where
  len : m.length = l.length
  lo : ∀ j : Nat, l.getD j 0 ≤ m.getD j 0
  hi : ∀ j : Nat, m.getD j 0 ≤ p.getD j 0
  rest : ∀ j : Nat, i ≤ j → m.getD j 0 = l.getD j 0
theorem MidTo.next {l p m : List Int} {i : Nat} (h : MidTo l p i m) (hi : i < m.length) {r : Int} (hr : 0 ≤ r ∧ r < p.getD i 0 - l.getD i 0 + 1) : MidTo l p (i + 1) (m.set i (m.getD i 0 + r)) := by
  have e := h.rest i (Nat.le_refl _)
  refine ⟨by simp [h.len], fun j => ?_, fun j => ?_, fun j hj => ?_⟩
  · rw [getD_setK hi]; split
    · rename_i ej; subst ej; omega
    · exact h.lo j
  · rw [getD_setK hi]; split
    · rename_i ej; subst ej; omega
    · exact h.hi j
  · rw [getD_setK hi, if_neg (by omega)]; exact h.rest j (by omega)
theorem MidTo.pres {l p m : List Int} {i : Nat} (h : MidTo l p i m) (h1 : PresOk l) (h2 : PresOk p) : PresOk m := fun x hx => by
  obtain ⟨j, hj⟩ := List.mem_iff_getElem?.1 hx
  have e : m.getD j 0 = x := getD_some hj
  have a1 := h.lo j
  have a2 := h.hi j
  have b1 := h1.get j
  have b2 := h2.get j
  omega

theorem relaxLeast_law (y : Arr Int) (by_ : Int) (R : List Sl) (hy : CodesR y R) (hby : 0 ≤ by_ ∧ by_ ≤ 65535) :
    Tri Try.prog 9 [y.val, .int .u16 by_].toArray [] R (fun v L' R' => v = .bool true ∧ [] = L' ∧ R = R') := by
  refine tri_enter 158 Try.call9 Try.func9 rfl rfl rfl ?_
  refine qae ?_
  refine qaz ?_
  refine qam ?_
  refine qbm ?_
  refine LJ_call rfl (new_tri y _ _ hy) rfl ?_
  rintro v L' R' ⟨c, rfl, hx, rfl, rfl⟩
  refine qc1 ?_
  refine qam ?_
  refine qa6 ?_
  refine LJ_call rfl (made1 (.consL .nil) hx (Nat.zero_le _)) rfl ?_
  rintro v L' R' ⟨m, k1, S, rfl, hm, hMA, hif, hid, hk1, rfl, rfl⟩
  simp only [List.append_assoc, List.cons_append, List.nil_append]
  refine LJ_q (yv_move rfl) rfl ?_
  refine qbs ?_
  refine qbs ?_
  refine qbs ?_
  refine qaq ?_
  intro b6
  refine qaq ?_
  intro b7
  refine qaq ?_
  intro b8
  refine qak ?_
  refine qak ?_
  refine qak ?_
  refine qa4 ?_
  refine CJ_made (A := []) hm hMA (fun f hf => (hif f hf).mono fun r hr => inR_self (by simp [hr])) (fun f hf => (hid f hf).mono fun r hr => inR_self (by simp [hr])) fun a s x R1 hMA hA hT hX hR1 => ?_
  refine qb1 ?_
  obtain ⟨_, hae, hF, hri, hfo⟩ := hMA.b
  have hx1 : CodesR (codes300 y) R1 := hx.mono fun r hr => hR1 r (by simp [hr])
  have hR0 : ∀ r ∈ R, InR r R1 := fun r hr => hR1 r (by simp [hr])
  have hnp := hMA.nplaces
  have hnr := hMA.nroads
  have hnf := hMA.nfans
  have hnd := hMA.ndoors
  have hpn := hF.plen
  have hfn := hF.flen
  obtain ⟨A, hAA⟩ := airy_ex a.mine
  have hAl := hAA.length
  refine qay ?_
  refine qa6 ?_
  refine qa8 ?_
  refine qbe ?_
  refine LJ_call rfl (start1 (.consB (.consB (.consB (.consL .nil)))) hx1 hk1 hA hX hMA hAA) rfl ?_
  rintro v L' R' ⟨l, k2, rfl, hl, hst, hk2, rfl, rfl⟩
  simp only [List.append_assoc, List.cons_append, List.nil_append]
  refine qc4 ?_
  refine qa4 ?_
  refine CJ_frz1 (A := [_, _, _]) (wd := 1) [] (fun _ => rfl) (by decide) hl (fun s hs => by cases hs) ?_
  refine qb1 ?_
  have hR2 : ∀ r ∈ R1, InR r (isl l.arr :: R1) := fun r hr => inR_self (.tail _ hr)
  have hso := hst.start (s := s) hMA.err hMA.fit
  have hln := hso.hl
  have hll0 : l.arr.l.length = a.mine.places.l.length := hln
  have hlR : InR (isl l.arr) (isl l.arr :: R1) := inR_self (.head _)
  refine qay ?_
  refine qa8 ?_
  refine qbe ?_
  refine qbm ?_
  refine LJ_call rfl (relRise0 a s l.arr A _ _ (airR_mono hA hR2) (setR_mono hT hR2) hlR (fun _ => hAA)) rfl ?_
  rintro v L' R' ⟨p, rfl, o1, e1, rfl, rfl⟩
  replace e1 : p.l = (relaxS a s A true l.l).2 := e1
  have hcs : (relaxS a s A true l.arr.l).1 = 0 ∨ (relaxS a s A true l.arr.l).1 = 2 := relaxS_cases hso
  obtain ⟨er, her⟩ : ∃ er, er = (relaxS a s A true l.arr.l).1 := ⟨_, rfl⟩
  rw [← her] at hcs ⊢
  refine LJ_q (yv_move rfl) rfl ?_
  refine qbs ?_
  refine qbs ?_
  refine qc4 ?_
  refine qad ?_
  refine qaw ?_
  refine qaa ?_
  refine qbq ?_
  refine qaf ?_
  refine q_c (fun hc0 => ?_) (fun hc0 => ?_)
  ·
   obtain rfl : er = 2 := by omega
   refine qae ?_
   refine qaa ?_
   refine qbn ?_
   refine qah ?_
   apply LJ_and (G := [_]) (j := 2) (cj := 44) rfl rfl (by rfl) rfl (show _ = Value.bool _ from rfl) rfl
   ·
    intro hg3
    replace hg3 := qb hg3
    refine q_l rfl (awake12_tri _ _) ?_
    exact qai
   intro junk3
   refine qaz ?_
   refine qbh ?_
   refine retK_ret (L' := []) (R' := R) (res1 rfl (rv_tmp (show _ = Value.bool _ from rfl))) ?hp ?hL ?hR
   case hp => exact ⟨rfl, rfl, rfl⟩
   case hL => exact List.nil_sublist _
   case hR => exact fun r hr => (hR0 r hr).mono hR2
  ·
   have hr0 : (relaxS a s A true l.l).1 = 0 := by rw [show (relaxS a s A true l.l).1 = er from her.symm]; omega
   obtain ⟨_, hrr⟩ := relaxS_ok hr0
   rw [← e1] at hrr
   have hps := hso.moved hrr
   have hpn2 := hps.hl
   have hmv := rounds_moved hso.hp hso.hl hrr
   have hle : ∀ j : Nat, l.l.getD j 0 ≤ p.l.getD j 0 := fun j => by have := hmv.le j; simpa using this
   have hnet : ∀ k : Nat, k < a.mine.places.l.length → ¬ fixB a A k = true → 0 ≤ lowN a s p.l (k : Int) := fun k hk hf => by have := rounds_net hso.hp hso.hl hrr hk hf; simpa using this
   have hpp : relaxS a s A true p.l = (0, p.l) := by rw [relaxS, if_neg (by rw [startErr_iff.2 hps]; decide), rise_again hso.hp hrr]
   refine CJ_skip (seqK_normal (CJ_seq (CJ_seq ?_)))
   refine CJ_frz1 (A := []) (wd := 1) [] (fun _ => rfl) (by decide) o1 (fun s hs => by cases hs) ?_
   refine CJ_L (by simp only [List.nil_append]; rfl) ?_
   obtain ⟨R3, hR3e⟩ : ∃ R3, R3 = isl p.arr :: isl l.arr :: R1 := ⟨_, rfl⟩
   have hR3 : ∀ r ∈ R1, InR r R3 := fun r hr => inR_self (by rw [hR3e]; exact .tail _ (.tail _ hr))
   have hpR : InR (isl p.arr) R3 := inR_self (by rw [hR3e]; exact .head _)
   have hlR3 : InR (isl l.arr) R3 := inR_self (by rw [hR3e]; exact .tail _ (.head _))
   rw [← hR3e]
   have hA3 := airR_mono hA hR3
   have hT3 := setR_mono hT hR3
   have hmp := hA3.places
   have eN : ∀ k : Nat, k < a.mine.places.l.length → netS a s p.l (k : Int) = ⟨lowN a s p.l (k : Int), highN a s p.l (k : Int)⟩ := fun k hk => netS_ok hri hpn2 hps.hp (by omega)
   refine qay ?_
   refine qbm ?_
   refine qag ?_
   refine qbm ?_
   refine qag ?_
   refine qbq ?_
   refine qaf ?_
   refine q_c (fun hc1 => ?_) (fun hc1 => ?_)
   ·
    exact absurd hc1 (by show ¬ ¬ ((p.l.length : Int) = (l.l.length : Int)); omega)
   ·
    refine qbv ?_
    refine qab ?_
    refine qbe ?_
    refine LJ_call rfl (airy_tri a.mine _ _ hA3.mineR hae.mine) rfl ?_
    rintro v L' R' ⟨q, rfl, hqk, hqA, rfl, rfl⟩
    have hql : q.l = A := hqA.unique hAA
    have hql2 : q.l.length = a.mine.places.l.length := by rw [hql]; exact hAl
    refine qc4 ?_
    refine qco ?_
    refine CJ_turn fun cc w hst => ⟨_, _, hst.perm List.perm_append_comm, ?_⟩
    refine qay ?_
    refine qab ?_
    refine qab ?_
    refine qac ?_
    refine qag ?_
    refine qaa ?_
    refine qa2 ?_
    refine CJ_forget [(1, Value.int _ _), (6, Value.pointer _), (7, Value.pointer _), (9, Value.slice _ _ _), (10, Value.slice _ _ _), (12, Value.slice _ _ _), (57, Value.slice _ _ _), (58, Value.int _ _), (59, Value.int _ _)] (by repeat' (first | exact trivial | refine And.intro rfl ?_)) fun tq0 => ?_
    refine q_s [4, 13, 14, 59, 60, 61, 62, 63, 64, 65, 66, 67, 68, 69, 70, 71, 72, 73, 74, 75, 76, 77, 78, 79, 80, 81, 82, 83, 84, 85, 86, 87, 88, 89, 90, 91, 92, 93] (fun g : {k : Nat // k ≤ a.mine.places.l.length} => [(59, .int .i64 ((g.1 : Nat) : Int))]) (fun g => a.mine.places.l.length - g.1) (⟨0, by omega⟩) ?_
    rintro ⟨k, hk⟩ junk
    try dsimp only
    refine qae ?_
    refine qaj ?_
    refine qa4 ?_
    refine q_c (fun hc2 => ?_) (fun hc2 => ?_)
    ·
     have g0 := get_D (l := a.mine.places.l) (k := k) default (by omega)
     have g1 := get_D (l := l.l) (k := k) 0 (by omega)
     have g2 := get_D (l := p.l) (k := k) 0 (by omega)
     have g3 : q.l[k]? = some (A.getD k false) := by rw [hql]; exact get_D false (by omega)
     have g4 := hle k
     refine qbb ?_
     refine qaa ?_
     refine LJ_q (by first | exact yv_index_ro tb rfl rfl rfl rfl (by first | assumption | exact zr (by simp)) (i := k) (by first | rfl | omega | (simp; omega)) (by omega) | exact yv_index tb rfl rfl rfl rfl (i := k) (by first | rfl | omega | (simp; omega)) (by omega)) rfl ?_
     refine qdl ?_
     refine qaq ?_
     intro b14
     refine qad ?_
     refine qak ?_
     refine qa4 ?_
     refine CJ_drawn tb [0, 1, 2, 3, 4, 5, 6, 7, 8, 9, 10, 11, 12, 13, 14, 15, 16, 17, 18, 19, 20, 21, 22, 23, 24, 25, 26, 27, 28] ((Blk.mk b14 _ _ :: (q.L 4 blc ++ (Blk.mk b7 _ _ :: Blk.mk b6 _ _ :: [])))) mixed (by kernel_rfl) (by repeat (first | exact zs0 _ | exact zs1 _ | apply zs2 | apply zs3 | apply zs4 | apply zs5)) ?_
     refine DJ_q (yv_move (show _ = Value.slice _ _ _ from rfl)) rfl rfl rfl ?_
     refine qao ?_
     refine qds ?_
     refine qbl ?_
     refine DJ_q (yv_move (show _ = Value.slice _ _ _ from rfl)) rfl rfl rfl ?_
     refine qao ?_
     refine qds ?_
     refine qbl ?_
     refine DJ_q (yv_lss rfl rfl) rfl rfl rfl ?_
     refine qb2 ?_
     refine DJ_case (k := 73) (show _ = Value.bool _ from rfl) (fun hg9 => ?_) (fun hg9 => ?_)
     ·
      replace hg9 := qb hg9
      exact absurd hg9 (by show ¬ p.l.getD k 0 < l.l.getD k 0; omega)
     ·
      replace hg9 := qb hg9
      refine qal ?_
      refine qat ?_
      refine DJ_q (yv_not rfl) rfl rfl rfl ?_
      refine qb2 ?_
      refine DJ_case (k := 77) (show _ = Value.bool _ from rfl) (fun hg13 => ?_) (fun hg13 => ?_)
      ·
       replace hg13 := qb hg13
       refine DJ_q (yv_move (show _ = Value.slice _ _ _ from rfl)) rfl rfl rfl ?_
       refine qao ?_
       refine DJ_q (yv_index_ow tb (q) _ rfl rfl rfl rfl (by assumption) (i := k) (by first | rfl | omega | (simp; omega)) (by first | omega | (dsimp only; omega) | (dsimp only; rw [List.length_set]; omega))) rfl rfl rfl ?_
       refine DJ_q (yv_load1_ow tb (q) rfl rfl rfl (by repeat (first | apply OSeg.cons | exact OSeg.here | exact OSeg.last | exact OSeg.at (by assumption) | apply OSeg.app)) (by assumption) (fun _ => rfl) (by assumption) (by rfl)) rfl rfl rfl ?_
       refine qbp ?_
       refine qb2 ?_
       refine DJ_case (k := 83) (show _ = Value.bool _ from rfl) (fun hg19 => ?_) (fun hg19 => ?_)
       ·
        replace hg19 := qb hg19
        have hn := hnet k (by omega) (by rw [fixB, hg19, hg13]; decide)
        refine qbc ?_
        refine qbd ?_
        refine DJ_q (yv_move (show _ = Value.slice _ _ _ from rfl)) rfl rfl rfl ?_
        refine qao ?_
        refine q_d rfl (balNet_tri a s p.arr (k : Int) _ _ hA3 hT3 hpR) ?_
        rw [eN k (by omega)]
        refine DJ_q (yv_fieldv (e := 3) tb rfl (by kernel_rfl) rfl rfl rfl rfl rfl) rfl rfl rfl ?_
        refine DJ_q (yv_lss rfl rfl) rfl rfl rfl ?_
        refine qbp ?_
        refine qbp ?_
        refine qbu ?_
        refine q_c (fun hc3 => ?_) (fun hc3 => ?_)
        ·
         (exfalso; first | omega | simp at hc3)
        ·
         refine qbj ?_
         refine qar ?_
         refine qaa ?_
         refine qav ?_
         exact q_k (⟨k + 1, by omega⟩)
       ·
        replace hg19 := qb hg19
        refine qap ?_
        refine qap ?_
        refine qap ?_
        refine qap ?_
        refine qap ?_
        refine qap ?_
        refine qap ?_
        refine qbp ?_
        refine qbp ?_
        refine qbu ?_
        refine CJ_cond_false rfl ?_
        refine qbj ?_
        refine qar ?_
        refine qaa ?_
        refine qav ?_
        exact q_k (⟨k + 1, by omega⟩)
      ·
       replace hg13 := qb hg13
       refine qap ?_
       refine qap ?_
       refine qap ?_
       refine qap ?_
       refine qbp ?_
       refine qb2 ?_
       refine qap ?_
       refine qap ?_
       refine qap ?_
       refine qap ?_
       refine qap ?_
       refine qap ?_
       refine qap ?_
       refine qbp ?_
       refine qbp ?_
       refine qbu ?_
       refine CJ_cond_false rfl ?_
       refine qbj ?_
       refine qar ?_
       refine qaa ?_
       refine qav ?_
       exact q_k (⟨k + 1, by omega⟩)
    ·
     refine qbk ?_
     refine qbm ?_
     refine LJ_g (gives_copy (f := icell) (xs := l.arr) tb rfl rfl rfl (by decide) rfl rfl (hlR3) (fun _ => rfl) (by omega)) rfl ?_
     rintro v L' R' ⟨o95, rfl, hok95, rfl, rfl⟩
     refine qc4 ?_
     refine qaw ?_
     refine qbm ?_
     refine qag ?_
     refine qaa ?_
     refine qa2 ?_
     refine CJ_forget [(1, Value.int _ _), (6, Value.pointer _), (7, Value.pointer _), (9, Value.slice _ _ _), (10, Value.slice _ _ _), (15, Value.slice _ _ _), (97, Value.int _ _), (98, Value.int _ _)] (by repeat' (first | exact trivial | refine And.intro rfl ?_)) fun tq1 => ?_
     refine q_p [16, 98, 99, 100, 101, 102, 103, 104, 105, 106, 107, 108, 109, 110, 111, 112, 113, 114, 115, 116, 117, 118, 119, 120] ((⟨fun g => [(98, .int .i64 ((g.1.1 : Nat) : Int))], fun g => (⟨o95, g.1.2⟩ : OwL Int).L 3 icell ++ (⟨b7, s.cells, 35⟩ :: ⟨b6, a.cells, 32⟩ :: []), fun _ => R3, fun g => l.l.length - g.1.1⟩ : Head {g : Nat × List Int // g.1 ≤ l.l.length ∧ (⟨o95, g.2⟩ : OwL Int).ok 1 icell ∧ MidTo l.l p.l g.1 g.2})) (⟨(0, l.l), by dsimp only; omega, hok95, ⟨rfl, fun _ => Int.le_refl _, hle, fun _ _ => rfl⟩⟩) ?_
     rintro ⟨⟨i, m⟩, w1, w2, w3⟩ junk
     try dsimp only
     dsimp only at w1 w2 w3
     have hml := w3.len
     have hll : l.arr.l.length = l.l.length := rfl
     refine qae ?_
     refine qaj ?_
     refine qa4 ?_
     refine q_c (fun hc4 => ?_) (fun hc4 => ?_)
     ·
      have g1 := get_D (l := l.l) (k := i) 0 (by omega)
      have g2 := get_D (l := p.l) (k := i) 0 (by omega)
      have g3 := get_D (l := m) (k := i) 0 (by omega)
      have g4 := hle i
      have g5 := hso.hp.get i
      have g6 := hps.hp.get i
      have g7 := w3.lo i
      have g8 := w3.hi i
      have hmb := modS_bounds (k := by_) (n := p.l.getD i 0 - l.l.getD i 0 + 1) (by omega)
      refine qbb ?_
      refine qaa ?_
      refine qad ?_
      refine qaf ?_
      refine CJ_drawn2 tb [] [0, 1, 2, 3, 4, 5, 6, 7, 8, 9, 10, 11, 12, 13, 14, 15, 16, 17, 18] [19] (((⟨o95, m⟩ : OwL Int).L 3 icell ++ [])) _ mixed (by kernel_rfl) (by repeat (first | exact zs0 _ | exact zs1 _ | apply zs2 | apply zs3 | apply zs4 | apply zs5)) (List.nil_sublist _) ?_
      refine qct ?_
      refine qbf ?_
      refine DJ3_q (yv_index_ow tb ((⟨o95, m⟩ : OwL Int)) _ rfl rfl ((show _ = Value.slice _ _ _ from rfl).trans (by simp only [OwL.val, hml])) rfl (by assumption) (i := i) (by first | rfl | omega | (simp; omega)) (by first | omega | (dsimp only; omega) | (dsimp only; rw [List.length_set]; omega))) rfl rfl rfl rfl ?_
      refine DJ3_q (yv_load1_ow tb ((⟨o95, m⟩ : OwL Int)) rfl rfl rfl (by repeat (first | apply OSeg.cons | exact OSeg.here | exact OSeg.last | exact OSeg.at (by assumption) | apply OSeg.app)) (by assumption) (fun _ => rfl) (by assumption) (by rfl)) rfl rfl rfl rfl ?_
      refine qbf ?_
      refine DJ3_q (by first | exact yv_convert64 tb rfl rfl rfl (by omega) (by omega) | exact yv_convertU tb rfl rfl rfl (by omega) (by omega) | exact yv_convert tb rfl rfl rfl) rfl rfl rfl rfl ?_
      refine qct ?_
      refine qbf ?_
      refine DJ3_q (by first | exact yv_index_ro tb rfl rfl rfl rfl (by first | assumption | exact zr (by simp)) (i := i) (by first | rfl | omega | (simp; omega)) (by omega) | exact yv_index tb rfl rfl rfl rfl (i := i) (by first | rfl | omega | (simp; omega)) (by omega)) rfl rfl rfl rfl ?_
      refine qci ?_
      refine qct ?_
      refine qbf ?_
      refine DJ3_q (by first | exact yv_index_ro tb rfl rfl rfl rfl (by first | assumption | exact zr (by simp)) (i := i) (by first | rfl | omega | (simp; omega)) (by omega) | exact yv_index tb rfl rfl rfl rfl (i := i) (by first | rfl | omega | (simp; omega)) (by omega)) rfl rfl rfl rfl ?_
      refine qci ?_
      refine qcc ?_
      refine qcj ?_
      refine DJ3_call rfl (mod_tri by_ (p.l.getD i 0 - l.l.getD i 0 + 1) _ _ (by show _ ∧ _; omega) (by omega)) rfl rfl ?_
      rintro v L' R' ⟨rfl, rfl, rfl⟩
      refine qas ?_
      refine qcj ?_
      refine DJ3_q (yv_index_ow tb ((⟨o95, m⟩ : OwL Int)) _ rfl rfl ((show _ = Value.slice _ _ _ from rfl).trans (by simp only [OwL.val, hml])) rfl (by assumption) (i := i) (by first | rfl | omega | (simp; omega)) (by first | omega | (dsimp only; omega) | (dsimp only; rw [List.length_set]; omega))) rfl rfl rfl rfl ?_
      refine qba ?_
      refine DJ_g0 (gives_store1_ow tb ((⟨o95, m⟩ : OwL Int)) (m.getD i 0 + modS by_ (p.l.getD i 0 - l.l.getD i 0 + 1)) rfl rfl rfl rfl (by repeat (first | apply OSeg.cons | exact OSeg.here | exact OSeg.last | exact OSeg.at (by assumption) | apply OSeg.app)) (by assumption) (fun _ => rfl) (by assumption) (by decide) (by rfl) (by rfl)) rfl rfl ?_
      rintro v L' R' ⟨rfl, rfl⟩
      refine qa1 ?_
      refine qby ?_
      refine qar ?_
      refine qaa ?_
      refine qav ?_
      exact q_k ⟨(i + 1, m.set i (m.getD i 0 + modS by_ (p.l.getD i 0 - l.l.getD i 0 + 1))), by dsimp only; omega, OwL.len_ok icell_len w2 (by simp), w3.next (by omega) hmb⟩
     ·
      obtain rfl : i = l.l.length := by omega
      have hms : StartOk a s m A := ⟨hMA.err, hMA.fit, by omega, w3.pres hso.hp hps.hp, fun j hj hf => by
        have a1 := w3.lo j
        have a2 := w3.hi j
        have a3 := hso.fix j hj hf
        have a4 := hps.fix j hj hf
        omega⟩
      refine qbk ?_
      refine qa8 ?_
      refine qbe ?_
      refine qbm ?_
      refine LJ_call rfl (relRiseL (q := (⟨o95, m⟩ : OwL Int)) ((show _ = Value.slice _ _ _ from rfl).trans (by simp only [OwL.val, hml])) hA3 hT3 (fun _ => hAA) (by repeat (first | exact inB_here | apply inB_cons | apply inB_app)) w2) rfl ?_
      rintro v L' R' ⟨q1, rfl, o2, e2, rfl, rfl⟩
      have hc2s : (relaxS a s A true m).1 = 2 ∨ ((relaxS a s A true m).1 = 0 ∧ q1.l = p.l) := by
        rcases relaxS_cases (up := true) hms with h | h
        · right
          refine ⟨h, ?_⟩
          obtain ⟨_, h2⟩ := relaxS_ok h
          rw [e2]
          exact rise_mid hae hso.hp hso.hl hrr (by omega) hms.hp w3.lo w3.hi h2
        · exact .inl h
      refine LJ_q (yv_move rfl) rfl ?_
      refine qbs ?_
      refine qbs ?_
      refine qc4 ?_
      refine qad ?_
      refine qam ?_
      refine qa8 ?_
      refine qbe ?_
      refine qbm ?_
      refine LJ_call rfl (relRise0 a s p.arr A _ _ hA3 hT3 hpR (fun _ => hAA)) rfl ?_
      rintro v L' R' ⟨q2, rfl, o3, e3, rfl, rfl⟩
      have e3' : q2.l = p.l := by rw [e3, show relaxS a s A true p.arr.l = (0, p.l) from hpp]
      rw [show (relaxS a s A true p.arr.l).1 = 0 by rw [show relaxS a s A true p.arr.l = (0, p.l) from hpp]]
      refine LJ_q (yv_move rfl) rfl ?_
      refine qbs ?_
      refine qbs ?_
      refine qc4 ?_
      refine qad ?_
      refine qam ?_
      refine qaa ?_
      refine qbn ?_
      refine qah ?_
      apply LJ_or (G := [_, _, _, _, _, _, _]) (j := 2) (cj := 137) rfl rfl (by rfl) rfl (show _ = Value.bool _ from rfl) rfl
      ·
       intro hg3
       replace hg3 := qb hg3
       refine qaa ?_
       refine qbn ?_
       refine qah ?_
       apply LJ_and (G := [_, _, _]) (j := 5) (cj := 140) rfl rfl (by rfl) rfl (show _ = Value.bool _ from rfl) rfl
       ·
        intro hg6
        replace hg6 := qb hg6
        refine qbm ?_
        refine qbm ?_
        refine q_l rfl (ints_lendA (by repeat (first | exact inB_here | apply inB_cons | apply inB_app)) o2 hpR (by rcases hc2s with h | h; exact absurd h hg3; exact h.2)) ?_
        exact qai
       intro junk6
       exact qai
      intro junk3
      refine qah ?_
      apply LJ_and (G := [_, _]) (j := 11) (cj := 146) rfl rfl (by rfl) rfl (show _ = Value.bool _ from rfl) rfl
      ·
       intro hg12
       replace hg12 := qb hg12
       refine qaa ?_
       refine qbn ?_
       exact qai
      intro junk12
      refine qah ?_
      apply LJ_and (G := [_, _, _]) (j := 15) (cj := 150) rfl rfl (by rfl) rfl (show _ = Value.bool _ from rfl) rfl
      ·
       intro hg16
       replace hg16 := qb hg16
       refine qbm ?_
       refine qbm ?_
       refine q_l rfl (ints_lendA (by repeat (first | exact inB_here | apply inB_cons | apply inB_app)) o3 hpR e3') ?_
       exact qai
      intro junk16
      refine qah ?_
      apply LJ_and (G := [_]) (j := 20) (cj := 155) rfl rfl (by rfl) rfl (show _ = Value.bool _ from rfl) rfl
      ·
       intro hg21
       replace hg21 := qb hg21
       refine q_l rfl (awake12_tri _ _) ?_
       exact qai
      intro junk21
      refine qaz ?_
      refine qa0 ?_
      refine retK_ret (L' := []) (R' := R) (res1 rfl (rv_tmp (show _ = Value.bool _ from rfl))) ?hp ?hL ?hR
      case hp => exact ⟨by rcases hc2s with h | h <;> simp [h], rfl, rfl⟩
      case hL => exact List.nil_sublist _
      case hR => exact fun r hr => (hR0 r hr).mono hR3
end Go.Proofs.Ytjjfpglgonpciaa
