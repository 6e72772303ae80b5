/-
  Statements about chapter 12: what they share. By an AI agent; no person has read it.
-/
import Derived.Test.YtjjfpglgonpciaaRelS
import Derived.Test.YtjjfpglgonpciaaLaw11c
import Derived.Test.YtjjfpglgonpciaaAw12
set_option linter.unusedSimpArgs false
set_option linter.unusedVariables false
namespace Go.Proofs.Ytjjfpglgonpciaa
open Go.Aw Go
set_option maxRecDepth 20000
attribute [local irreducible] CJ LJ DJ Tri YV Gives seqK blockK loopK retK RV mergeK OwL.L

theorem ints_tri (x y : Arr Int) (L : List Blk) (R : List Sl) (hx : InR (isl x) R) (hy : InR (isl y) R) (he : x.l = y.l) :
    Tri Try.prog 28 [x.val, y.val].toArray L R (fun v L' R' => v = .bool true ∧ L = L' ∧ R = R') := by
  have hle : x.l.length = y.l.length := by rw [he]
  refine Tri_len Try.call28 hx fun hxn => ?_
  refine tri_enter 26 Try.call28 Try.func28 rfl rfl rfl ?_
  refine qae ?_
  refine qaz ?_
  refine qaw ?_
  refine qbm ?_
  refine qag ?_
  refine qbm ?_
  refine qag ?_
  refine qbq ?_
  refine qaf ?_
  refine q_c (fun hc0 => ?_) (fun hc0 => ?_)
  ·
   refine qae ?_
   refine qaz ?_
   refine qbh ?_
   refine q_b (L' := L) (R' := R) ?_
   exact absurd hc0 (by omega)
  ·
   refine qbo ?_
   refine qad ?_
   refine qa2 ?_
   refine CJ_forget [(0, Value.slice _ _ _), (1, Value.slice _ _ _), (5, Value.int _ _)] (by repeat' (first | exact trivial | refine And.intro rfl ?_)) fun tq0 => ?_
   refine q_s [4, 5, 11, 12, 13, 14, 15, 16, 17, 18, 19, 20, 21, 22, 23, 24, 25] (fun g : {k : Nat // k ≤ x.l.length} => [(5, .int .i64 ((g.1 : Nat) : Int))]) (fun g => x.l.length - g.1) (⟨0, by omega⟩) ?_
   rintro ⟨k, hk⟩ junk
   try dsimp only
   refine qbi ?_
   refine qaa ?_
   refine qbm ?_
   refine qag ?_
   refine qaj ?_
   refine qaf ?_
   refine q_c (fun hc1 => ?_) (fun hc1 => ?_)
   ·
    have h1 := get_D (l := x.l) (k := k) 0 (by omega)
    have h2 := get_D (l := y.l) (k := k) 0 (by omega)
    rw [← he] at h2
    rw [he] at h2
    refine CJ_skip (seqK_normal (CJ_seq (CJ_block (CJ_seq ?_))))
    refine CJ_drawn tb [0, 1, 2, 3, 4, 5, 6, 7, 8] _ mixed (by kernel_rfl) (List.Sublist.refl _) ?_
    refine DJ_q (yv_move (show _ = Value.slice _ _ _ from rfl)) rfl rfl rfl ?_
    refine qao ?_
    refine qds ?_
    refine qbl ?_
    refine DJ_q (yv_move (show _ = Value.slice _ _ _ from rfl)) rfl rfl rfl ?_
    refine qao ?_
    refine qds ?_
    refine qbl ?_
    refine DJ_q (yv_neq rfl rfl) rfl rfl rfl ?_
    refine qbu ?_
    refine q_c (fun hc2 => ?_) (fun hc2 => ?_)
    ·
     refine qae ?_
     refine qaz ?_
     refine qbt ?_
     refine q_b (L' := L) (R' := R) ?_
     exact absurd (show x.l.getD k 0 = y.l.getD k 0 by rw [he]) hc2
    ·
     refine qbj ?_
     refine qaa ?_
     refine qar ?_
     refine qad ?_
     refine qav ?_
     exact q_k (⟨k + 1, by omega⟩)
   ·
    refine qbk ?_
    refine qaz ?_
    refine qa0 ?_
    refine q_b (L' := L) (R' := R) ?_
    exact ⟨rfl, rfl, rfl⟩
theorem ints_own {A : List Blk} {R : List Sl} {p q : OwL Int} (hp : InB (p.L 3 icell) A) (hq : InB (q.L 3 icell) A) (okp : p.ok 1 icell) (okq : q.ok 1 icell) (he : p.l = q.l) :
    Tri Try.prog 28 [p.val, q.val].toArray A R (fun v L' R' => v = .bool true ∧ A = L' ∧ R = R') :=
  Tri.lendU (S := [isl p.arr, isl q.arr]) (fun w G hh s hs => by
    simp only [List.mem_cons, List.not_mem_nil, or_false] at hs
    rcases hs with rfl | rfl
    · exact lend_rep hh hp okp (fun _ => rfl) (by decide) (fun s hs => by cases hs)
    · exact lend_rep hh hq okq (fun _ => rfl) (by decide) (fun s hs => by cases hs)) (ints_tri p.arr q.arr [] _ (inR_self (.head _)) (inR_self (.tail _ (.head _))) he)

theorem awake12_tri (L : List Blk) (R : List Sl) : Tri Try.prog 29 ([] : List Value).toArray L R (fun v L' R' => v = .bool true ∧ L = L' ∧ R = R') := by
  refine tri_enter 33 Try.call29 Try.func29 rfl rfl rfl ?_
  refine qae ?_
  refine qaz ?_
  refine qam ?_
  refine LJ_q (yv_build (qs := [(1, (Value.bool _).cells.toList)]) (out := [_, _]) tb rfl rfl rfl rfl) rfl ?_
  refine qck ?_
  refine LJ_g (gives_buildSlice (qs := [(0, (Value.agg _).cells.toList), (1, (Value.agg _).cells.toList)]) (out := [_, _, _, _]) tb rfl rfl rfl rfl rfl rfl rfl) rfl ?_
  rintro v L' R' ⟨b6, rfl, rfl, hR6⟩
  replace hR6 := hR6.symm; subst hR6
  refine qcd ?_
  refine qcd ?_
  refine LJ_q (yv_build (qs := [(0, (Value.int _ _).cells.toList), (1, (Value.int _ _).cells.toList), (2, (Value.int _ _).cells.toList), (3, (Value.int _ _).cells.toList), (6, (Value.agg _).cells.toList), (7, (Value.agg _).cells.toList)]) (out := [_, _, _, _, _, _, _, _, _, _]) tb rfl rfl rfl rfl) rfl ?_
  refine LJ_g (gives_buildSlice (qs := [(0, (Value.agg _).cells.toList)]) (out := [_, _, _, _, _, _, _, _, _, _]) tb rfl rfl rfl rfl rfl rfl rfl) rfl ?_
  rintro v L' R' ⟨b10, rfl, rfl, hR10⟩
  replace hR10 := hR10.symm; subst hR10
  refine LJ_q (yv_build (qs := [(0, (Value.slice _ _ _).cells.toList), (1, (Value.slice _ _ _).cells.toList)]) (out := [_, _]) tb rfl rfl rfl rfl) rfl ?_
  refine qaq ?_
  intro b1
  refine qak ?_
  refine qa4 ?_
  refine CJ_frzB (A := [_]) (wd := 10) (len := 1) (cap := 1) (rows := [awake10Road.cells]) (subs := []) rfl (by decide) (by decide) (fun r hr => by rw [List.mem_singleton.1 hr]; rfl) (by decide) rfl (fun s hs => by cases hs) ?_
  refine qb1 ?_
  refine CJ_frzB (A := [_]) (wd := 2) (len := 2) (cap := 2) (rows := [XPlace.cells ⟨0, true⟩, XPlace.cells ⟨0, false⟩]) (subs := []) rfl (by decide) (by decide) (fun r hr => by simp only [List.mem_cons, List.not_mem_nil, or_false] at hr; rcases hr with rfl | rfl <;> rfl) (by decide) rfl (fun s hs => by cases hs) ?_
  refine qb1 ?_
  refine CJ_nil 4 (CJ_nil 3 (CJ_nil 1 ?_))
  obtain ⟨R1, hR1⟩ : ∃ R1, R1 = isl ⟨none, 0, []⟩ :: dsl ⟨none, 0, []⟩ :: fsl ⟨none, 0, []⟩ :: psl (awake10 b6 b10).mine.places :: rsl (awake10 b6 b10).mine.roads :: R := ⟨_, rfl⟩
  have hA : AirR (awake10 b6 b10) R1 := by rw [hR1]; exact ⟨inR_self (.tail _ (.tail _ (.tail _ (.head _)))), inR_self (.tail _ (.tail _ (.tail _ (.tail _ (.head _))))), inR_self (.tail _ (.tail _ (.head _))), inR_self (.tail _ (.head _))⟩
  have hS : SetR noSet10 R1 := by rw [hR1]; exact ⟨inR_self (.head _), inR_self (.head _)⟩
  refine CJ_weak (R' := R1) (List.Sublist.refl _) (fun r hr => inR_self (by rw [hR1] at hr; exact hr)) ?_
  refine qay ?_
  refine qbe ?_
  refine LJ_q (yv_build (qs := [(0, (Value.agg _).cells.toList)]) (out := [_, _, _, _]) tb rfl rfl rfl rfl) rfl ?_
  refine qck ?_
  refine LJ_call rfl (relSolve_tri (awake10 b6 b10) noSet10 [true, true] _ _ hA hS (fun _ => awake11_airy _ _) (show 2 ≤ 64 by decide)) rfl ?_
  rintro v L' R' ⟨lo, hi, rfl, h1, h2, h3, h4, rfl, rfl⟩
  rw [awake12_solve] at h3 h4 ⊢
  refine LJ_q (yv_move rfl) rfl ?_
  refine qbs ?_
  refine qbs ?_
  refine qaq ?_
  intro b2
  refine qak ?_
  refine qad ?_
  refine qa4 ?_
  refine CJ_frz1 (A := [_]) (wd := 1) [] (fun _ => rfl) (by decide) h1 (fun s hs => by cases hs) ?_
  refine qb1 ?_
  refine CJ_frz1 (A := [_]) (wd := 1) [] (fun _ => rfl) (by decide) h2 (fun s hs => by cases hs) ?_
  refine qb1 ?_
  have hl2 : InR (isl lo.arr) (isl hi.arr :: isl lo.arr :: R1) := inR_self (.tail _ (.head _))
  have hh2 : InR (isl hi.arr) (isl hi.arr :: isl lo.arr :: R1) := inR_self (.head _)
  refine qay ?_
  refine qaa ?_
  refine qbn ?_
  refine qah ?_
  apply LJ_and (G := [_, _, _, _]) (j := 2) (cj := 21) rfl rfl (by rfl) rfl (show _ = Value.bool _ from rfl) rfl
  ·
   intro hg3
   replace hg3 := qb hg3
   refine qab ?_
   refine qac ?_
   refine LJ_g (gives_buildSlice (qs := [(0, (Value.int _ _).cells.toList), (1, (Value.int _ _).cells.toList)]) (out := [_, _]) tb rfl rfl rfl rfl rfl rfl rfl) rfl ?_
   rintro v L' R' ⟨b24, rfl, rfl, hR24⟩
   replace hR24 := hR24.symm; subst hR24
   refine LJ_frz (wd := 1) (len := 2) (cap := 2) (rows := [icell 0, icell 100]) (subs := []) rfl (by decide) (by decide) (fun r hr => by simp only [List.mem_cons, List.not_mem_nil, or_false] at hr; rcases hr with rfl | rfl <;> rfl) (by decide) rfl (fun s hs => by cases hs) ?_
   refine q_l rfl (ints_tri lo.arr ⟨some ⟨b24, 0, none⟩, 2, [0, 100]⟩ _ _ (hl2.mono fun r h => inR_self (.tail _ h)) (inR_self (.head _)) h3) ?_
   exact qai
  intro junk3
  refine qah ?_
  apply LJ_and (G := [_, _, _, _]) (j := 8) (cj := 27) rfl rfl (by rfl) rfl (show _ = Value.bool _ from rfl) rfl
  ·
   intro hg9
   replace hg9 := qb hg9
   refine qab ?_
   refine qac ?_
   refine LJ_g (gives_buildSlice (qs := [(0, (Value.int _ _).cells.toList), (1, (Value.int _ _).cells.toList)]) (out := [_, _]) tb rfl rfl rfl rfl rfl rfl rfl) rfl ?_
   rintro v L' R' ⟨b30, rfl, rfl, hR30⟩
   replace hR30 := hR30.symm; subst hR30
   refine LJ_frz (wd := 1) (len := 2) (cap := 2) (rows := [icell 0, icell 100]) (subs := []) rfl (by decide) (by decide) (fun r hr => by simp only [List.mem_cons, List.not_mem_nil, or_false] at hr; rcases hr with rfl | rfl <;> rfl) (by decide) rfl (fun s hs => by cases hs) ?_
   refine q_l rfl (ints_tri hi.arr ⟨some ⟨b30, 0, none⟩, 2, [0, 100]⟩ _ _ (hh2.mono fun r h => inR_self (.tail _ h)) (inR_self (.head _)) h4) ?_
   exact qai
  intro junk9
  refine qaz ?_
  refine qa0 ?_
  refine retK_ret (L' := L) (R' := R) (res1 rfl (rv_tmp (show _ = Value.bool _ from rfl))) ?hp ?hL ?hR
  case hp => exact ⟨rfl, rfl, rfl⟩
  case hL => exact (by repeat (first | exact zs0 _ | exact zs1 _ | apply zs2 | apply zs3 | apply zs4 | apply zs5))
  case hR => exact fun r h => inR_self (by simp [hR1, h])

/-- pressures from which one can begin -/
structure StTo (a : XAir) (A : List Bool) (i : Nat) (l : List Int) : Prop where
  len : l.length = a.mine.places.l.length
  val : ∀ (j : Nat) (p : Int), l[j]? = some p → (-10000 ≤ p ∧ p ≤ 10000) ∧ (i ≤ j → -4000 ≤ p ∧ p ≤ 4000)
  fix : ∀ j : Nat, j < i → fixB a A j = true → l.getD j 0 = 0
theorem StTo.next {a : XAir} {A : List Bool} {i : Nat} {l : List Int} (h : StTo a A i l) (hi : i < l.length) {v : Int} (hv : -10000 ≤ v ∧ v ≤ 10000) (hz : fixB a A i = true → v = 0) : StTo a A (i + 1) (l.set i v) := by
  refine ⟨by simp [h.len], fun j q hq => ?_, fun j hj hf => ?_⟩
  · rw [List.getElem?_set] at hq
    split at hq
    · rename_i e
      cases hq; exact ⟨hv, fun hj => by omega⟩
    · exact ⟨(h.val j q hq).1, fun hj => (h.val j q hq).2 (by omega)⟩
  · rw [getD_setK hi]
    split
    · rename_i e; subst e; exact hz hf
    · exact h.fix j (by omega) hf
theorem StTo.pres {a : XAir} {A : List Bool} {i : Nat} {l : List Int} (h : StTo a A i l) : PresOk l := fun p hp => by
  obtain ⟨j, hj⟩ := List.mem_iff_getElem?.1 hp
  have := (h.val j p hj).1
  omega
theorem StTo.start {a : XAir} {s : XSetting} {A : List Bool} {l : List Int} (h : StTo a A a.mine.places.l.length l) (h0 : airErr a = 0) (hf : fitB a s = true) : StartOk a s l A := ⟨h0, hf, h.len, h.pres, h.fix⟩
theorem start_tri (c : Nat) (x : Arr Int) (k : Nat) (a : XAir) (st : XState) (A : List Bool) (R : List Sl) (hx : CodesR x R) (hk : k ≤ x.l.length) (hm : AirR a R) (hX : StateR st R) (hok : AirOk a) (hl : st.pres.l.length = a.mine.places.l.length) (hb : ∀ p ∈ st.pres.l, -4000 ≤ p ∧ p ≤ 4000) (hAA : AiryIs a.mine A) :
    Tri Try.prog 23 [.pointer (some ⟨c, 0, none⟩), a.val, st.val].toArray [cblk c x k] R
      (fun w L' R' => ∃ (p : OwL Int) (k' : Nat), w = p.val ∧ p.ok 1 icell ∧ StTo a A a.mine.places.l.length p.l ∧ k' ≤ x.l.length ∧ p.L 3 icell ++ (cblk c x k' :: []) = L' ∧ R = R') := by
  have hpl := hm.places
  have hxp := hX.pres
  have hnp := hok.mine.places
  have hAl := hAA.length
  refine tri_enter 48 Try.call23 Try.func23 rfl rfl rfl ?_
  refine qae ?_
  refine qax ?_
  intro b4
  refine qax ?_
  intro b5
  refine qc4 ?_
  refine qam ?_
  refine qab ?_
  refine qac ?_
  refine LJ_g (gives_copy (f := icell) (xs := st.pres) tb rfl rfl rfl (by decide) rfl rfl (hxp) (fun _ => rfl) (by omega)) rfl ?_
  rintro v L' R' ⟨o13, rfl, hok13, rfl, rfl⟩
  refine qc4 ?_
  refine qam ?_
  refine qab ?_
  refine qbe ?_
  refine LJ_call rfl (airy_tri a.mine _ _ hm.mineR hok.mine) rfl ?_
  rintro v L' R' ⟨p, rfl, hpk, hpA, rfl, rfl⟩
  have hpe : p.l = A := hpA.unique hAA
  have hpl2 : p.l.length = a.mine.places.l.length := by rw [hpe]; exact hAl
  refine qc4 ?_
  refine qco ?_
  refine CJ_turn fun cc w hst => ⟨_, _, hst.perm List.perm_append_comm, ?_⟩
  refine qay ?_
  refine qab ?_
  refine qab ?_
  refine qac ?_
  refine qag ?_
  refine qaa ?_
  refine qa2 ?_
  refine CJ_forget [(0, Value.pointer _), (7, Value.slice _ _ _), (8, Value.slice _ _ _), (19, Value.slice _ _ _), (20, Value.int _ _), (21, Value.int _ _)] (by repeat' (first | exact trivial | refine And.intro rfl ?_)) fun tq0 => ?_
  refine q_p [9, 10, 21, 22, 23, 24, 25, 26, 27, 28, 29, 30, 31, 32, 33, 34, 35, 36, 37, 38, 39, 40, 41, 42, 43, 44, 45, 46] ((⟨fun q => [(21, .int .i64 ((q.1.1 : Nat) : Int))], fun q => p.L 4 blc ++ ((⟨o13, q.1.2.2⟩ : OwL Int).L 3 icell ++ (⟨b5, st.cells, 37⟩ :: ⟨b4, a.cells, 32⟩ :: cblk c x q.1.2.1 :: [])), fun _ => R, fun q => a.mine.places.l.length - q.1.1⟩ : Head {q : Nat × Nat × List Int // q.1 ≤ a.mine.places.l.length ∧ q.2.1 ≤ x.l.length ∧ (⟨o13, q.2.2⟩ : OwL Int).ok 1 icell ∧ StTo a A q.1 q.2.2})) (⟨(0, k, st.pres.l), by dsimp only; omega, hk, hok13, ⟨hl, fun j p hj => by have := hb p (List.mem_of_getElem? hj); omega, fun j hj => by omega⟩⟩) ?_
  rintro ⟨⟨i, kk, l⟩, q1, q2, q3, q4⟩ junk
  try dsimp only
  dsimp only at q1 q2 q3 q4
  have hll := q4.len
  refine qae ?_
  refine qaj ?_
  refine qa4 ?_
  refine q_c (fun hc0 => ?_) (fun hc0 => ?_)
  ·
   have hgg := get_D (l := a.mine.places.l) (k := i) default (by omega)
   obtain ⟨fb, hfb⟩ : ∃ fb, fb = A.getD i false := ⟨_, rfl⟩
   have hpg : p.l[i]? = some fb := by rw [hpe, hfb]; exact get_D false (by omega)
   have hlg := get_D (l := l) (k := i) 0 (by omega)
   have hlb := (q4.val i _ hlg).2 (Nat.le_refl _)
   refine qbb ?_
   refine qaa ?_
   refine LJ_q (by first | exact yv_index_ro tb rfl rfl rfl rfl (by first | assumption | exact zr (by simp)) (i := i) (by first | rfl | omega | (simp; omega)) (by omega) | exact yv_index tb rfl rfl rfl rfl (i := i) (by first | rfl | omega | (simp; omega)) (by omega)) rfl ?_
   refine qdl ?_
   refine qaq ?_
   intro b10
   refine qad ?_
   refine qak ?_
   refine qam ?_
   refine qab ?_
   refine qac ?_
   refine qah ?_
   apply LJ_or (G := [_, _, _, _, _]) (j := 2) (cj := 28) rfl rfl (by rfl) rfl (show _ = Value.bool _ from rfl) rfl
   ·
    intro hg3
    replace hg3 := qb hg3
    refine qbm ?_
    refine qaa ?_
    refine LJ_q (yv_index_ow tb (p) _ rfl rfl rfl rfl (by assumption) (i := i) (by first | rfl | omega | (simp; omega)) (by first | omega | (dsimp only; omega) | (dsimp only; rw [List.length_set]; omega))) rfl ?_
    refine LJ_q (yv_load1_ow tb (p) rfl rfl rfl (by repeat (first | apply OSeg.cons | exact OSeg.here | exact OSeg.last | exact OSeg.at (by assumption) | apply OSeg.app)) (by assumption) (fun _ => rfl) (by assumption) (by rfl)) rfl ?_
    refine qb4 ?_
    exact qai
   intro junk3
   refine qaf ?_
   refine q_c (fun hc1 => ?_) (fun hc1 => ?_)
   ·
    refine qay ?_
    refine qbm ?_
    refine qaa ?_
    refine LJ_q (yv_index_ow tb ((⟨o13, l⟩ : OwL Int)) _ rfl rfl ((show _ = Value.slice _ _ _ from rfl).trans (by simp only [OwL.val, hll, hl])) rfl (by assumption) (i := i) (by first | rfl | omega | (simp; omega)) (by first | omega | (dsimp only; omega) | (dsimp only; rw [List.length_set]; omega))) rfl ?_
    refine LJ_g0 (gives_store1_ow tb ((⟨o13, l⟩ : OwL Int)) (0) rfl rfl rfl rfl (by repeat (first | apply OSeg.cons | exact OSeg.here | exact OSeg.last | exact OSeg.at (by assumption) | apply OSeg.app)) (by assumption) (fun _ => rfl) (by assumption) (by decide) (by rfl) (by rfl)) ?_
    rintro v L' R' ⟨rfl, rfl⟩
    refine qcs ?_
    refine qar ?_
    refine qaa ?_
    refine qav ?_
    exact q_k ⟨(i + 1, kk, l.set i 0), by dsimp only; omega, q2, OwL.len_ok icell_len q3 (by simp), q4.next (by omega) (by omega) (fun _ => rfl)⟩
   ·
    have hfi : ¬ fixB a A i = true := by rw [fixB, ← hfb, hc1.1, hc1.2]; decide
    refine CJ_drawn2 tb [] [0, 1, 2, 3, 4, 5, 6, 7] [8] (((⟨o13, l⟩ : OwL Int).L 3 icell ++ [])) _ mixed (by kernel_rfl) (by repeat (first | exact zs0 _ | exact zs1 _ | apply zs2 | apply zs3 | apply zs4 | apply zs5)) (List.nil_sublist _) ?_
    refine qct ?_
    refine qbf ?_
    refine DJ3_q (yv_index_ow tb ((⟨o13, l⟩ : OwL Int)) _ rfl rfl ((show _ = Value.slice _ _ _ from rfl).trans (by simp only [OwL.val, hll, hl])) rfl (by assumption) (i := i) (by first | rfl | omega | (simp; omega)) (by first | omega | (dsimp only; omega) | (dsimp only; rw [List.length_set]; omega))) rfl rfl rfl rfl ?_
    refine DJ3_q (yv_load1_ow tb ((⟨o13, l⟩ : OwL Int)) rfl rfl rfl (by repeat (first | apply OSeg.cons | exact OSeg.here | exact OSeg.last | exact OSeg.at (by assumption) | apply OSeg.app)) (by assumption) (fun _ => rfl) (by assumption) (by rfl)) rfl rfl rfl rfl ?_
    refine qb3 ?_
    refine DJ3_call rfl (range1 (by repeat (first | apply USeg.here | apply USeg.cons | apply USeg.app)) hx q2 (by omega)) rfl rfl ?_
    rintro v L' R' ⟨r1, k2, rfl, g1, g1', hk2, rfl, rfl⟩
    refine qas ?_
    refine qcj ?_
    refine DJ3_q (yv_index_ow tb ((⟨o13, l⟩ : OwL Int)) _ rfl rfl ((show _ = Value.slice _ _ _ from rfl).trans (by simp only [OwL.val, hll, hl])) rfl (by assumption) (i := i) (by first | rfl | omega | (simp; omega)) (by first | omega | (dsimp only; omega) | (dsimp only; rw [List.length_set]; omega))) rfl rfl rfl rfl ?_
    refine qba ?_
    refine DJ_g0 (gives_store1_ow tb ((⟨o13, l⟩ : OwL Int)) (l.getD i 0 + r1) rfl rfl rfl rfl (by repeat (first | apply OSeg.cons | exact OSeg.here | exact OSeg.last | exact OSeg.at (by assumption) | apply OSeg.app)) (by assumption) (fun _ => rfl) (by assumption) (by decide) (by rfl) (by rfl)) rfl rfl ?_
    rintro v L' R' ⟨rfl, rfl⟩
    refine qa1 ?_
    refine qby ?_
    refine qar ?_
    refine qaa ?_
    refine qav ?_
    exact q_k ⟨(i + 1, k2, l.set i (l.getD i 0 + r1)), by dsimp only; omega, hk2, OwL.len_ok icell_len q3 (by simp), q4.next (by omega) (by omega) (fun h => absurd h hfi)⟩
  ·
   obtain rfl : i = a.mine.places.l.length := by omega
   refine qbk ?_
   refine qbm ?_
   refine qc4 ?_
   refine qa0 ?_
   refine q_r (L' := (⟨o13, l⟩ : OwL Int).L 3 icell ++ (cblk c x kk :: [])) (R' := R) (res1 rfl (rv_tmp (show _ = Value.slice _ _ _ from rfl))) ?_
   exact ⟨(⟨o13, l⟩ : OwL Int), kk, by simp only [OwL.val, hll, hl], q3, q4, q2, rfl, rfl⟩
theorem start1 {c : Nat} {x : Arr Int} {k : Nat} {a : XAir} {s : XSetting} {st : XState} {A : List Bool} {L B : List Blk} {R : List Sl} (hu : Spl L B [cblk c x k]) (hx : CodesR x R) (hk : k ≤ x.l.length) (hm : AirR a R) (hX : StateR st R) (hM : MadeA a s st) (hA : AiryIs a.mine A) :
    Tri Try.prog 23 [.pointer (some ⟨c, 0, none⟩), a.val, st.val].toArray L R
      (fun w L' R' => ∃ (p : OwL Int) (k' : Nat), w = p.val ∧ p.ok 1 icell ∧ StTo a A a.mine.places.l.length p.l ∧ k' ≤ x.l.length ∧ B ++ (p.L 3 icell ++ (cblk c x k' :: [])) = L' ∧ R = R') :=
  (Tri.spl hu (start_tri c x k a st A R hx hk hm hX hM.b.ok hM.b.fits.plen hM.press hA)).mono fun v L'' R' ⟨L', e, p, k', a1, a2, a3, a4, a5, a6⟩ => ⟨p, k', a1, a2, a3, a4, by rw [a5]; exact e, a6⟩
end Go.Proofs.Ytjjfpglgonpciaa
