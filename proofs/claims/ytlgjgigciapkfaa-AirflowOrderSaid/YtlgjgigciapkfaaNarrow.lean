/-
  Flows and measurements: airflow.Narrow, airflow.Tighten. By an AI agent; no person has read it.
-/
import Derived.Test.YtlgjgigciapkfaaWin
import Derived.Test.YtlgjgigciapkfaaLaw11b
set_option linter.unusedSimpArgs false
set_option linter.unusedVariables false
namespace Go.Proofs.Ytlgjgigciapkfaa
open Go.Aw Go
theorem two_ok {b : Nat} {x y : XSpan} : (⟨.own b 2 [], [x, y]⟩ : OwL XSpan).ok 2 XSpan.cells := ⟨by simp [XSpan.cells], by simp, by simp [maxLen], by simp [XSpan.cells]⟩
theorem meet_own {A : List Blk} {R : List Sl} {b : Nat} {x y : XSpan} {T : TypeId} (hin : (⟨b, [.int .i64 x.low, .int .i64 x.high, .int .i64 y.low, .int .i64 y.high], T⟩ : Blk) ∈ A) :
    Tri Try.prog 142 [.slice (some ⟨b, 0, none⟩) 2 2].toArray A R (fun v L' R' => v = .tuple #[(meetS x y).val, .bool (decide ((meet2 x y).low ≤ (meet2 x y).high))] ∧ A = L' ∧ R = R') :=
  Tri.lendU (S := [spsl (⟨.own b 2 [], [x, y]⟩ : OwL XSpan).arr]) (fun w G hh s hs => by
    rw [List.mem_singleton.1 hs]
    exact lend_rep (T := T) hh (fun e he => by
      have he' : e ∈ [(⟨b, [.int .i64 x.low, .int .i64 x.high, .int .i64 y.low, .int .i64 y.high], T⟩ : Blk)] := he
      rw [List.mem_singleton.1 he']; exact hin) two_ok (fun _ => rfl) (by decide) (fun s hs => by cases hs)) (meet_tri x y (⟨.own b 2 [], [x, y]⟩ : OwL XSpan).arr [] _ (inR_self (.head _)) rfl)
set_option maxRecDepth 20000
attribute [local irreducible] CJ LJ DJ Tri YV Gives seqK blockK loopK retK RV mergeK OwL.L

/-- flows, which of them are lost, which sensors contradict -/
structure NarSt where
  out : List XSpan
  gone : List Bool
  bad : List Bool
def narAt (st : NarSt) (l : List XSens) (t : Int) (x : XMeas) : XSpan := meet2 (st.out.getD (l.getD x.sensor.toNat default).target.toNat default) (atS (l.getD x.sensor.toNat default) x t)
def narFor (n : Nat) (kind : Int) (l : List XSens) (x : XMeas) : Prop := (0 ≤ x.sensor ∧ x.sensor < l.length) ∧ (l.getD x.sensor.toNat default).kind = kind ∧ 0 ≤ (l.getD x.sensor.toNat default).target ∧ (l.getD x.sensor.toNat default).target < n
instance (n : Nat) (kind : Int) (l : List XSens) (x : XMeas) : Decidable (narFor n kind l x) := by unfold narFor; infer_instance
def narStep (n : Nat) (kind : Int) (lost : XSpan) (t : Int) (l : List XSens) (st : NarSt) (x : XMeas) : NarSt :=
  if ¬ (narFor n kind l x ∧ st.gone.getD (l.getD x.sensor.toNat default).target.toNat false = false) then st
  else if (narAt st l t x).low ≤ (narAt st l t x).high then ⟨st.out.set (l.getD x.sensor.toNat default).target.toNat (narAt st l t x), st.gone, st.bad⟩
  else ⟨st.out.set (l.getD x.sensor.toNat default).target.toNat lost, st.gone.set (l.getD x.sensor.toNat default).target.toNat true, st.bad.set x.sensor.toNat true⟩
def narTo (fl : List XSpan) (lost : XSpan) (kind : Int) (l : List XSens) (m : List XMeas) (t : Int) (k : Nat) : NarSt :=
  (m.take k).foldl (narStep fl.length kind lost t l) ⟨fl, List.replicate fl.length false, List.replicate l.length false⟩
theorem narStep_len {n : Nat} {kind : Int} {lost : XSpan} {t : Int} {l : List XSens} {st : NarSt} {x : XMeas} :
    (narStep n kind lost t l st x).out.length = st.out.length ∧ (narStep n kind lost t l st x).gone.length = st.gone.length ∧ (narStep n kind lost t l st x).bad.length = st.bad.length := by
  rw [narStep]
  split
  · exact ⟨rfl, rfl, rfl⟩
  split <;> simp
theorem narTo_len {fl : List XSpan} {lost : XSpan} {kind : Int} {l : List XSens} {m : List XMeas} {t : Int} {k : Nat} :
    (narTo fl lost kind l m t k).out.length = fl.length ∧ (narTo fl lost kind l m t k).gone.length = fl.length ∧ (narTo fl lost kind l m t k).bad.length = l.length := by
  rw [narTo]
  generalize m.take k = ms
  have : ∀ (ms : List XMeas) (st : NarSt), (st.out.length = fl.length ∧ st.gone.length = fl.length ∧ st.bad.length = l.length) →
      ((ms.foldl (narStep fl.length kind lost t l) st).out.length = fl.length ∧ (ms.foldl (narStep fl.length kind lost t l) st).gone.length = fl.length ∧ (ms.foldl (narStep fl.length kind lost t l) st).bad.length = l.length) := by
    intro ms
    induction ms with
    | nil => intro st h; exact h
    | cons x ms ih => intro st h; exact ih _ (by have := narStep_len (n := fl.length) (kind := kind) (lost := lost) (t := t) (l := l) (st := st) (x := x); omega)
  exact this ms _ (by simp)
theorem narTo_succ {fl : List XSpan} {lost : XSpan} {kind : Int} {l : List XSens} {m : List XMeas} {t : Int} {k : Nat} {x : XMeas} (h : m[k]? = some x) :
    narTo fl lost kind l m t (k + 1) = narStep fl.length kind lost t l (narTo fl lost kind l m t k) x := by
  rw [narTo, List.take_add_one, h]; simp [narTo]
def wrongS (b : List Bool) (k : Nat) : List Int := ((List.range k).filter fun i => b.getD i false).map Int.ofNat
theorem wrongS_succ {b : List Bool} {k : Nat} : wrongS b (k + 1) = if b.getD k false = true then wrongS b k ++ [(k : Int)] else wrongS b k := by
  rw [wrongS, List.range_succ, List.filter_append, List.map_append]
  split
  · rename_i h; simp only [wrongS, List.filter_cons, List.filter_nil]; rw [if_pos h]; rfl
  · rename_i h; simp only [wrongS, List.filter_cons, List.filter_nil]; rw [if_neg h]; simp
def narS (fl : List XSpan) (lost : XSpan) (kind : Int) (l : List XSens) (m : List XMeas) (t : Int) : NarSt := narTo fl lost kind l m t m.length

theorem narrow_tri (fl : Arr XSpan) (lost : XSpan) (kind t : Int) (l : Arr XSens) (m : Arr XMeas) (L : List Blk) (R : List Sl) (hfl : InR (spsl fl) R) (hl : InR (sesl l) R) (hm : InR (mesl m) R)
    (hfn : fl.l.length ≤ 1000) (hln : l.l.length ≤ 1000) (hmn : m.l.length ≤ 1000) (hok : ∀ x ∈ m.l, MeasOk x) (ht : 0 ≤ t ∧ t ≤ 2147483648) :
    Tri Try.prog 95 [fl.val, lost.val, .int .i64 kind, l.val, m.val, .int .i64 t].toArray L R
      (fun w L' R' => ∃ (p : OwL XSpan) (q : OwL Int), w = .tuple #[p.val, q.val] ∧ (p.ok 2 XSpan.cells ∧ q.ok 1 icell) ∧ p.l = (narS fl.l lost kind l.l m.l t).out ∧ q.l = wrongS (narS fl.l lost kind l.l m.l t).bad l.l.length ∧ q.L 3 icell ++ (p.L 59 XSpan.cells ++ L) = L' ∧ R = R') := by
  refine tri_enter 123 Try.call95 Try.func95 rfl rfl rfl ?_
  refine qae ?_
  refine qax ?_
  intro b7
  refine qc4 ?_
  refine qc4 ?_
  refine qam ?_
  refine qbm ?_
  refine LJ_g (gives_copy (f := XSpan.cells) (xs := fl) tb rfl rfl rfl (by decide) rfl rfl (hfl) (fun _ => rfl) (by omega)) rfl ?_
  rintro v L' R' ⟨o26, rfl, hok26, rfl, rfl⟩
  refine qc4 ?_
  refine qa4 ?_
  have hfn2 : (⟨o26, fl.l⟩ : OwL XSpan).l.length ≤ 1000 := hfn
  refine qay ?_
  refine qbm ?_
  refine qag ?_
  refine qc7 ?_
  rintro v L' R' ⟨b29, rfl, rfl, hR29⟩
  replace hR29 := hR29.symm; subst hR29
  refine qc4 ?_
  refine qa4 ?_
  refine CJ_L (made_ow (f := blc) (x := false) rfl _) ?_
  refine qay ?_
  refine qbm ?_
  refine qag ?_
  refine qc7 ?_
  rintro v L' R' ⟨b32, rfl, rfl, hR32⟩
  replace hR32 := hR32.symm; subst hR32
  refine qc4 ?_
  refine qco ?_
  refine CJ_L (made_ow (f := blc) (x := false) rfl _) ?_
  refine qay ?_
  refine qbm ?_
  refine qag ?_
  refine qaa ?_
  refine qa2 ?_
  refine CJ_forget [(2, Value.int _ _), (3, Value.slice _ _ _), (5, Value.int _ _), (7, Value.pointer _), (14, Value.slice _ _ _), (15, Value.slice _ _ _), (16, Value.slice _ _ _), (33, Value.slice _ _ _), (34, Value.int _ _), (35, Value.int _ _)] (by repeat' (first | exact trivial | refine And.intro rfl ?_)) fun tq0 => ?_
  refine q_p [18, 19, 20, 21, 35, 36, 37, 38, 39, 40, 41, 42, 43, 44, 45, 46, 47, 48, 49, 50, 51, 52, 53, 54, 55, 56, 57, 58, 59, 60, 61, 62, 63, 64, 65, 66, 67, 68, 69, 70, 71, 72, 73, 74, 75, 76, 77, 78, 79, 80, 81, 82, 83, 84, 85, 86, 87, 88, 89, 90, 91, 92, 93, 94, 95, 96, 97, 98, 99, 100, 101, 102, 103, 104, 105, 106, 107] ((⟨fun g => [(35, .int .i64 ((g.1.1 : Nat) : Int))], fun g => (⟨.own b32 l.l.length [], g.1.2.bad⟩ : OwL Bool).L 4 blc ++ ((⟨.own b29 fl.l.length [], g.1.2.gone⟩ : OwL Bool).L 4 blc ++ ((⟨o26, g.1.2.out⟩ : OwL XSpan).L 59 XSpan.cells ++ (⟨b7, lost.cells, 59⟩ :: L))), fun _ => R, fun g => m.l.length - g.1.1⟩ : Head {g : Nat × NarSt // g.1 ≤ m.l.length ∧ g.2 = narTo fl.l lost kind l.l m.l t g.1})) (⟨(0, ⟨fl.l, List.replicate fl.l.length false, List.replicate l.l.length false⟩), by dsimp only; omega, rfl⟩) ?_
  rintro ⟨⟨k, ⟨O, G, B⟩⟩, w1, w2⟩ junk
  try dsimp only
  dsimp only at w1 w2
  obtain ⟨z1, z2, z3⟩ := narTo_len (fl := fl.l) (lost := lost) (kind := kind) (l := l.l) (m := m.l) (t := t) (k := k)
  rw [← w2] at z1 z2 z3
  dsimp only at z1 z2 z3
  have hkO : (⟨o26, O⟩ : OwL XSpan).ok 2 XSpan.cells := OwL.len_ok (fun _ => rfl) hok26 z1
  have hkG : (⟨.own b29 fl.l.length [], G⟩ : OwL Bool).ok 1 blc := by have := made_ok (f := blc) (wd := 1) (b := b29) (n := fl.l.length) (x := false) blc_len (by simp only [maxLen]; omega); exact OwL.len_ok blc_len this (by simp; exact z2)
  have hkB : (⟨.own b32 l.l.length [], B⟩ : OwL Bool).ok 1 blc := by have := made_ok (f := blc) (wd := 1) (b := b32) (n := l.l.length) (x := false) blc_len (by simp only [maxLen]; omega); exact OwL.len_ok blc_len this (by simp; exact z3)
  refine qae ?_
  refine qaj ?_
  refine qa4 ?_
  refine q_c (fun hc0 => ?_) (fun hc0 => ?_)
  ·
   have hmg := get_D (l := m.l) (k := k) default (by omega)
   have hxo := hok _ (List.mem_of_getElem? hmg)
   have hsu := narTo_succ (fl := fl.l) (lost := lost) (kind := kind) (l := l.l) (t := t) hmg
   rw [← w2] at hsu
   obtain ⟨x, hx⟩ : ∃ x, x = m.l.getD k default := ⟨_, rfl⟩
   rw [← hx] at hmg hxo hsu
   refine qbb ?_
   refine LJ_q (by first | exact yv_index_ro tb rfl rfl rfl rfl (by first | assumption | exact zr (by simp)) (i := k) (by first | rfl | omega | (simp; omega)) (by omega) | exact yv_index tb rfl rfl rfl rfl (i := k) (by first | rfl | omega | (simp; omega)) (by omega)) rfl ?_
   refine qdr ?_
   refine qaq ?_
   intro b18
   refine qak ?_
   refine qaw ?_
   refine qab ?_
   refine qac ?_
   refine qaj ?_
   refine qah ?_
   apply LJ_or (G := [_, _, _, _, _]) (j := 3) (cj := 42) rfl rfl (by rfl) rfl (show _ = Value.bool _ from rfl) rfl
   ·
    intro hg4
    replace hg4 := qb hg4
    refine qab ?_
    refine qac ?_
    refine qbm ?_
    refine qag ?_
    refine qbz ?_
    exact qai
   intro junk4
   refine qaf ?_
   refine q_c (fun hc1 => ?_) (fun hc1 => ?_)
   ·
    refine CJ_exit (seqK_exit (blockK_exit (seqK_normal (CJ_region ?_))))
    refine qar ?_
    refine qaa ?_
    refine qav ?_
    exact q_k ⟨(k + 1, ⟨O, G, B⟩), by dsimp only; omega, by rw [hsu, narStep, if_pos (fun h => by have := h.1.1; omega)]⟩
   ·
    have hlg := get_D (l := l.l) (k := x.sensor.toNat) default (by omega)
    obtain ⟨s, hs⟩ : ∃ s, s = l.l.getD x.sensor.toNat default := ⟨_, rfl⟩
    rw [← hs] at hlg
    have hnf : narFor fl.l.length kind l.l x ↔ ((0 ≤ x.sensor ∧ x.sensor < l.l.length) ∧ s.kind = kind ∧ 0 ≤ s.target ∧ s.target < fl.l.length) := by rw [hs]; exact Iff.rfl
    rw [narStep, narAt, ← hs] at hsu
    dsimp only at hsu
    refine qbv ?_
    refine qbm ?_
    refine qab ?_
    refine qac ?_
    refine LJ_q (by first | exact yv_index_ro tb rfl rfl rfl rfl (by first | assumption | exact zr (by simp)) (i := x.sensor.toNat) (by first | rfl | omega | (simp; omega)) (by omega) | exact yv_index tb rfl rfl rfl rfl (i := x.sensor.toNat) (by first | rfl | omega | (simp; omega)) (by omega)) rfl ?_
    refine LJ_q (by first | exact yv_loadN_ro (row := [_, _, _, _, _, _, _, _]) tb rfl rfl rfl (by first | assumption | exact zr (by simp)) (by assumption) (by rfl) (by rfl) | exact yv_loadN (row := [_, _, _, _, _, _, _, _]) tb rfl rfl rfl (by repeat (first | exact zi0 | apply zi1 | apply zi2)) (by rfl) (by rfl)) rfl ?_
    refine qaq ?_
    intro b19
    refine qak ?_
    refine qaw ?_
    refine qab ?_
    refine qac ?_
    refine qaa ?_
    refine qbq ?_
    refine qah ?_
    apply LJ_or (G := [_, _, _]) (j := 4) (cj := 58) rfl rfl (by rfl) rfl (show _ = Value.bool _ from rfl) rfl
    ·
     intro hg5
     replace hg5 := qb hg5
     refine qab ?_
     refine qac ?_
     refine qaj ?_
     exact qai
    intro junk5
    refine qah ?_
    apply LJ_or (G := [_, _, _, _, _]) (j := 9) (cj := 63) rfl rfl (by rfl) rfl (show _ = Value.bool _ from rfl) rfl
    ·
     intro hg10
     replace hg10 := qb hg10
     refine qab ?_
     refine qac ?_
     refine qbm ?_
     refine qag ?_
     refine qbz ?_
     exact qai
    intro junk10
    refine qah ?_
    apply LJ_or (G := [_, _, _, _, _]) (j := 16) (cj := 70) rfl rfl (by rfl) rfl (show _ = Value.bool _ from rfl) rfl
    ·
     intro hg17
     replace hg17 := qb hg17
     have hGg := get_D (l := G) (k := s.target.toNat) false (by omega)
     refine qbm ?_
     refine qab ?_
     refine qac ?_
     refine LJ_q (yv_index_ow tb ((⟨.own b29 fl.l.length [], G⟩ : OwL Bool)) _ rfl rfl ((show _ = Value.slice _ _ _ from rfl).trans (own_val z2)) rfl (by assumption) (i := s.target.toNat) (by first | rfl | omega | (simp; omega)) (by first | omega | (dsimp only; omega) | (dsimp only; rw [List.length_set]; omega))) rfl ?_
     refine LJ_q (yv_load1_ow tb ((⟨.own b29 fl.l.length [], G⟩ : OwL Bool)) rfl rfl rfl (by repeat (first | apply OSeg.cons | exact OSeg.here | exact OSeg.last | exact OSeg.at (by assumption) | apply OSeg.app)) (by assumption) (fun _ => rfl) (by assumption) (by rfl)) rfl ?_
     exact qai
    intro junk17
    refine qaf ?_
    refine q_c (fun hc2 => ?_) (fun hc2 => ?_)
    ·
     refine CJ_exit (seqK_exit (blockK_exit (seqK_normal (CJ_region ?_))))
     refine qar ?_
     refine qaa ?_
     refine qav ?_
     exact q_k ⟨(k + 1, ⟨O, G, B⟩), by dsimp only; omega, by rw [hsu, if_pos (fun h => by have h1 := hnf.1 h.1; have h2 := h.2; simp only [h2] at hc2; simp at hc2; omega)]⟩
    ·
     have hOg := get_D (l := O) (k := s.target.toNat) default (by omega)
     have hgo : G.getD s.target.toNat false = false := by simpa using hc2.2
     rw [if_neg (fun h => h ⟨hnf.2 (by omega), hgo⟩)] at hsu
     refine qcl ?_
     refine CJ_drawn tb [0, 1, 2, 3, 4, 5, 6, 7, 8, 9, 10, 11, 12, 13, 14, 15, 16] _ mixed (by kernel_rfl) (List.Sublist.refl _) ?_
     refine DJ_q (yv_move (show _ = Value.slice _ _ _ from rfl)) rfl rfl rfl ?_
     refine qal ?_
     refine qat ?_
     refine DJ_q (yv_index_ow tb ((⟨o26, O⟩ : OwL XSpan)) _ rfl rfl ((show _ = Value.slice _ _ _ from rfl).trans (by simp only [OwL.val, z1])) rfl (by assumption) (i := s.target.toNat) (by first | rfl | omega | (simp; omega)) (by first | omega | (dsimp only; omega) | (dsimp only; rw [List.length_set]; omega))) rfl rfl rfl ?_
     refine DJ_q (yv_loadN_ow (row := [_, _]) tb ((⟨o26, O⟩ : OwL XSpan)) rfl rfl rfl (by repeat (first | apply OSeg.cons | exact OSeg.here | exact OSeg.last | exact OSeg.at (by assumption) | apply OSeg.app)) (by assumption) (fun _ => rfl) (by assumption) (by rfl) (by rfl)) rfl rfl rfl ?_
     refine DJ_q (yv_loadN (row := [_, _, _, _, _, _, _, _]) tb rfl rfl rfl (by repeat (first | exact zi0 | apply zi1 | apply zi2)) (by rfl) (by rfl)) rfl rfl rfl ?_
     refine qbc ?_
     refine qao ?_
     refine q_d rfl (at_tri s x t _ _ hxo ht) ?_
     refine DJ_g (gives_buildSlice (qs := [(0, (Value.agg _).cells.toList), (1, (Value.agg _).cells.toList)]) (out := [_, _, _, _]) tb rfl rfl rfl rfl rfl rfl rfl) rfl rfl rfl ?_
     rintro v L' R' ⟨b87, rfl, rfl, hR87⟩
     replace hR87 := hR87.symm; subst hR87
     refine qa1 ?_
     refine q_d rfl (meet_own (x := O.getD s.target.toNat default) (y := atS s x t) (.head _)) ?_
     refine DJ_q (yv_move rfl) rfl rfl rfl ?_
     refine DJ_q (yv_extract rfl rfl) rfl rfl rfl ?_
     refine DJ_q (yv_extract rfl rfl) rfl rfl rfl ?_
     refine qbr ?_
     intro b20
     refine qbg ?_
     refine DJ_q (yv_assign (show _ = Value.bool _ from rfl)) rfl rfl rfl ?_
     refine qc6 ?_
     refine qah ?_
     refine qb4 ?_
     refine qaf ?_
     refine q_c (fun hc3 => ?_) (fun hc3 => ?_)
     ·
      have hGg := get_D (l := G) (k := s.target.toNat) false (by omega)
      have hBg := get_D (l := B) (k := x.sensor.toNat) false (by omega)
      refine CJ_drawn2 tb [93, 94, 95, 96, 97, 98] [0, 1, 2, 3, 4, 5, 6] [7, 8, 9, 10, 11] ([Blk.mk b19 _ _, Blk.mk b18 _ _, Blk.mk b7 _ _]) _ mixed (by kernel_rfl) (by repeat (first | exact zs0 _ | exact zs1 _ | apply zs2 | apply zs3 | apply zs4 | apply zs5)) (by (repeat (first | apply List.Sublist.cons (a := Blk.mk b20 _ _) | apply List.Sublist.cons (a := Blk.mk b15 _ _) | apply List.Sublist.cons (a := Blk.mk b16 _ _) | apply List.Sublist.cons_cons)); exact List.Sublist.refl _) ?_
      refine DJ3_ql (yv_move (show _ = Value.slice _ _ _ from rfl)) rfl rfl rfl rfl ?_
      refine qcp ?_
      refine qcu ?_
      refine DJ3_ql (yv_move (show _ = Value.slice _ _ _ from rfl)) rfl rfl rfl rfl ?_
      refine qcp ?_
      refine qcu ?_
      refine DJ3_q (yv_loadN (row := [_, _]) tb rfl rfl rfl (by repeat (first | exact zi0 | apply zi1 | apply zi2)) (by rfl) (by rfl)) rfl rfl rfl rfl ?_
      refine qba ?_
      refine qbg ?_
      refine DJ_q (yv_index_ow tb ((⟨.own b29 fl.l.length [], G⟩ : OwL Bool)) _ rfl rfl ((show _ = Value.slice _ _ _ from rfl).trans (own_val z2)) rfl (by assumption) (i := s.target.toNat) (by first | rfl | omega | (simp; omega)) (by first | omega | (dsimp only; omega) | (dsimp only; rw [List.length_set]; omega))) rfl rfl rfl ?_
      refine DJ_g0 (gives_store1_ow tb ((⟨.own b29 fl.l.length [], G⟩ : OwL Bool)) (true) rfl rfl rfl rfl (by repeat (first | apply OSeg.cons | exact OSeg.here | exact OSeg.last | exact OSeg.at (by assumption) | apply OSeg.app)) (by assumption) (fun _ => rfl) (by assumption) (by decide) (by rfl) (by rfl)) rfl rfl ?_
      rintro v L' R' ⟨rfl, rfl⟩
      refine qa1 ?_
      refine DJ_q (yv_index_ow tb ((⟨.own b32 l.l.length [], B⟩ : OwL Bool)) _ rfl rfl ((show _ = Value.slice _ _ _ from rfl).trans (own_val z3)) rfl (by assumption) (i := x.sensor.toNat) (by first | rfl | omega | (simp; omega)) (by first | omega | (dsimp only; omega) | (dsimp only; rw [List.length_set]; omega))) rfl rfl rfl ?_
      refine DJ_g0 (gives_store1_ow tb ((⟨.own b32 l.l.length [], B⟩ : OwL Bool)) (true) rfl rfl rfl rfl (by repeat (first | apply OSeg.cons | exact OSeg.here | exact OSeg.last | exact OSeg.at (by assumption) | apply OSeg.app)) (by assumption) (fun _ => rfl) (by assumption) (by decide) (by rfl) (by rfl)) rfl rfl ?_
      rintro v L' R' ⟨rfl, rfl⟩
      refine qa1 ?_
      refine DJ_nil (seqK_normal (CJ_region ?_))
      refine qbm ?_
      refine qab ?_
      refine qac ?_
      refine qbe ?_
      refine LJ_q (yv_index_ow tb ((⟨o26, O⟩ : OwL XSpan)) _ rfl rfl ((show _ = Value.slice _ _ _ from rfl).trans (by simp only [OwL.val, z1])) rfl (by assumption) (i := s.target.toNat) (by first | rfl | omega | (simp; omega)) (by first | omega | (dsimp only; omega) | (dsimp only; rw [List.length_set]; omega))) rfl ?_
      refine LJ_g0 (gives_storeN_ow tb ((⟨o26, O⟩ : OwL XSpan)) (lost) rfl rfl rfl rfl (by repeat (first | apply OSeg.cons | exact OSeg.here | exact OSeg.last | exact OSeg.at (by assumption) | apply OSeg.app)) (by assumption) (fun _ => rfl) (by assumption) (Nat.le_of_ble_eq_true rfl) (by rfl) (by rfl)) ?_
      rintro v L' R' ⟨rfl, rfl⟩
      refine qcs ?_
      refine qar ?_
      refine qaa ?_
      refine qav ?_
      exact q_k ⟨(k + 1, ⟨O.set s.target.toNat lost, G.set s.target.toNat true, B.set x.sensor.toNat true⟩), by dsimp only; omega, by rw [hsu, if_neg (by simpa using hc3)]⟩
     ·
      refine CJ_skip (seqK_normal (CJ_region ?_))
      refine qbm ?_
      refine qab ?_
      refine qac ?_
      refine qbe ?_
      refine LJ_q (yv_index_ow tb ((⟨o26, O⟩ : OwL XSpan)) _ rfl rfl ((show _ = Value.slice _ _ _ from rfl).trans (by simp only [OwL.val, z1])) rfl (by assumption) (i := s.target.toNat) (by first | rfl | omega | (simp; omega)) (by first | omega | (dsimp only; omega) | (dsimp only; rw [List.length_set]; omega))) rfl ?_
      refine LJ_g0 (gives_storeN_ow tb ((⟨o26, O⟩ : OwL XSpan)) (meetS (O.getD s.target.toNat default) (atS s x t)) rfl rfl rfl rfl (by repeat (first | apply OSeg.cons | exact OSeg.here | exact OSeg.last | exact OSeg.at (by assumption) | apply OSeg.app)) (by assumption) (fun _ => rfl) (by assumption) (Nat.le_of_ble_eq_true rfl) (by rfl) (by rfl)) ?_
      rintro v L' R' ⟨rfl, rfl⟩
      refine qcs ?_
      refine qar ?_
      refine qaa ?_
      refine qav ?_
      exact q_k ⟨(k + 1, ⟨O.set s.target.toNat (meetS (O.getD s.target.toNat default) (atS s x t)), G, B⟩), by dsimp only; omega, by rw [hsu, if_pos (by simpa using hc3), meetS, if_neg (Int.not_lt.2 (by simpa using hc3))]⟩
  ·
   obtain rfl : k = m.l.length := by omega
   refine qbk ?_
   refine qc4 ?_
   refine qaw ?_
   refine qbm ?_
   refine qag ?_
   refine qaa ?_
   refine qa2 ?_
   refine CJ_forget [(14, Value.slice _ _ _), (22, Value.slice _ _ _), (108, Value.slice _ _ _), (109, Value.int _ _), (110, Value.int _ _)] (by repeat' (first | exact trivial | refine And.intro rfl ?_)) fun tq1 => ?_
   refine CJ_loop [22, 23, 24, 110, 111, 112, 113, 114, 115, 116, 117, 118, 119, 120] ((⟨fun g => [(110, .int .i64 ((g.1.1 : Nat) : Int)), (22, g.1.2.val)], fun g => g.1.2.L 3 icell ++ ((⟨.own b32 l.l.length [], B⟩ : OwL Bool).L 4 blc ++ ((⟨.own b29 fl.l.length [], G⟩ : OwL Bool).L 4 blc ++ ((⟨o26, O⟩ : OwL XSpan).L 59 XSpan.cells ++ (⟨b7, lost.cells, 59⟩ :: L)))), fun _ => R, fun g => l.l.length - g.1.1⟩ : Head {g : Nat × OwL Int // g.1 ≤ l.l.length ∧ g.2.ok 1 icell ∧ g.2.l = wrongS B g.1})) (⟨(0, OwL.nil), by dsimp only; omega, OwL.nil_ok, rfl⟩) (by repeat' (first | exact trivial | refine And.intro rfl ?_)) (by dsimp only; rw [nil_L, List.nil_append]; exact List.Sublist.refl _) (allR_self _) ?_
   rintro ⟨⟨i, q⟩, q1, q2, q3⟩ junk
   try dsimp only
   dsimp only at q1 q2 q3
   refine qae ?_
   refine qaj ?_
   refine qa4 ?_
   refine q_c (fun hc4 => ?_) (fun hc4 => ?_)
   ·
    have hBg := get_D (l := B) (k := i) false (by omega)
    have hws := wrongS_succ (b := B) (k := i)
    have hql : q.l.length ≤ 1000 := by rw [q3, wrongS, List.length_map]; exact Nat.le_trans (List.length_filter_le _ _) (by simp; omega)
    refine qbb ?_
    refine qaa ?_
    refine LJ_q (yv_index_ow tb ((⟨.own b32 l.l.length [], B⟩ : OwL Bool)) _ rfl rfl ((show _ = Value.slice _ _ _ from rfl).trans (own_val z3)) rfl (by assumption) (i := i) (by first | rfl | omega | (simp; omega)) (by first | omega | (dsimp only; omega) | (dsimp only; rw [List.length_set]; omega))) rfl ?_
    refine LJ_q (yv_load1_ow tb ((⟨.own b32 l.l.length [], B⟩ : OwL Bool)) rfl rfl rfl (by repeat (first | apply OSeg.cons | exact OSeg.here | exact OSeg.last | exact OSeg.at (by assumption) | apply OSeg.app)) (by assumption) (fun _ => rfl) (by assumption) (by rfl)) rfl ?_
    refine qad ?_
    refine qaz ?_
    refine qam ?_
    refine qah ?_
    refine qaf ?_
    refine q_c (fun hc5 => ?_) (fun hc5 => ?_)
    ·
     refine qay ?_
     refine qbm ?_
     refine qaa ?_
     refine qcx ?_
     rintro v L' R' ⟨b118, rfl, rfl, hR118⟩
     replace hR118 := hR118.symm; subst hR118
     refine LJ_g (gives_append1 (f := icell) (a := _) tb rfl rfl rfl rfl (q2) (by repeat (first | apply OSeg.cons | exact OSeg.here | exact OSeg.last | exact OSeg.at (by assumption) | apply OSeg.app)) (shown_own (by repeat (first | exact zi0 | apply zi1 | apply zi2)) rfl rfl) rfl (by first | omega | (simp only [List.length_cons, List.length_nil, List.length_append]; omega))) rfl ?_
     rintro v L' R' ⟨o119, rfl, hok119, rfl, rfl⟩
     refine qc4 ?_
     refine qcs ?_
     refine qar ?_
     refine qaa ?_
     refine qav ?_
     exact q_k ⟨(i + 1, (⟨o119, _⟩ : OwL Int)), by dsimp only; omega, hok119, by dsimp only; rw [hws, if_pos (by simpa using hc5), q3]⟩
    ·
     refine qbj ?_
     refine qar ?_
     refine qaa ?_
     refine qav ?_
     exact q_k ⟨(i + 1, q), by dsimp only; omega, q2, by dsimp only; rw [hws, if_neg (by simpa using hc5), q3]⟩
   ·
    obtain rfl : i = l.l.length := by omega
    refine qbk ?_
    refine qbm ?_
    refine qbm ?_
    refine qc4 ?_
    refine qc4 ?_
    refine qa0 ?_
    refine q_r (L' := q.L 3 icell ++ ((⟨o26, O⟩ : OwL XSpan).L 59 XSpan.cells ++ L)) (R' := R) (res2 rfl (rv_tmp (show _ = Value.slice _ _ _ from rfl)) (rv_tmp (show _ = Value.slice _ _ _ from rfl))) ?_
    exact ⟨(⟨o26, O⟩ : OwL XSpan), q, by rw [OwL.val, OwL.val, z1]; try rfl, ⟨hkO, q2⟩, by rw [narS, ← w2], by rw [narS, ← w2]; exact q3, rfl, rfl⟩

theorem tighten_tri (fl : Arr XSpan) (l : Arr XSens) (m : Arr XMeas) (t : Int) (L : List Blk) (R : List Sl) (hfl : InR (spsl fl) R) (hl : InR (sesl l) R) (hm : InR (mesl m) R)
    (hfn : fl.l.length ≤ 1000) (hln : l.l.length ≤ 1000) (hmn : m.l.length ≤ 1000) (hok : ∀ x ∈ m.l, MeasOk x) (ht : 0 ≤ t ∧ t ≤ 2147483648) :
    Tri Try.prog 45 [fl.val, l.val, m.val, .int .i64 t].toArray L R
      (fun w L' R' => ∃ (p : OwL XSpan) (q : OwL Int), w = .tuple #[p.val, q.val] ∧ (p.ok 2 XSpan.cells ∧ q.ok 1 icell) ∧ p.l = (narS fl.l nothingS 3 l.l m.l t).out ∧ q.l = wrongS (narS fl.l nothingS 3 l.l m.l t).bad l.l.length ∧ q.L 3 icell ++ (p.L 59 XSpan.cells ++ L) = L' ∧ R = R') := by
  refine tri_enter 18 Try.call45 Try.func45 rfl rfl rfl ?_
  refine qae ?_
  refine qc4 ?_
  refine qc4 ?_
  refine qam ?_
  refine qbm ?_
  refine q_l rfl (sensNothing_tri _ _) ?_
  refine qbm ?_
  refine qbm ?_
  refine qaa ?_
  refine LJ_call rfl (narrow_tri fl nothingS 3 t l m _ _ hfl hl hm hfn hln hmn hok ht) rfl ?_
  rintro v L' R' ⟨p, q, rfl, ⟨h1, h2⟩, h3, h4, rfl, rfl⟩
  refine qbs ?_
  refine qbs ?_
  refine qc4 ?_
  refine qc4 ?_
  refine qa0 ?_
  refine q_r (L' := q.L 3 icell ++ (p.L 59 XSpan.cells ++ L)) (R' := R) (res2 rfl (rv_tmp (show _ = Value.slice _ _ _ from rfl)) (rv_tmp (show _ = Value.slice _ _ _ from rfl))) ?_
  exact ⟨p, q, rfl, ⟨h1, h2⟩, h3, h4, rfl, rfl⟩
end Go.Proofs.Ytlgjgigciapkfaa
