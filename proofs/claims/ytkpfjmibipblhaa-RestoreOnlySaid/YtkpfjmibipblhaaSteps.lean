import Derived.Test.YtkpfjmibipblhaaLaw21b
import Derived.Test.YtkpfjmibipblhaaFeedD
section
/-
  Statements about chapter 21: closing gives no power to others. By an AI agent; no person has read it.
-/
set_option linter.unusedSimpArgs false
set_option linter.unusedVariables false
namespace Go.Proofs.Ytkpfjmibipblhaa
open Go.Aw Go
section
variable {A9 B9 : Prop}
theorem ycoaa (a : A9) (h : A9 → B9 := by exact DJ_q (yv_assign (show _ = Value.bool _ from rfl)) rfl rfl rfl) : B9 := h a
theorem ycoab (a : A9) (h : A9 → B9 := by exact LJ_q (by first | exact yv_index_ro tb rfl rfl rfl rfl (by first | assumption | exact zr (by simp)) (i := (q.l.getD j 0).toNat) (by first | rfl | omega | (simp; omega)) (by omega) | exact yv_index tb rfl rfl rfl rfl (i := (q.l.getD j 0).toNat) (by first | rfl | omega | (simp; omega)) (by omega)) rfl) : B9 := h a
theorem ycoac (a : A9) (h : A9 → B9 := by exact DJ_q (by first | exact yv_index_ro tb rfl rfl rfl rfl (by first | assumption | exact zr (by simp)) (i := (q.l.getD j 0).toNat) (by first | rfl | omega | (simp; omega)) (by omega) | exact yv_index tb rfl rfl rfl rfl (i := (q.l.getD j 0).toNat) (by first | rfl | omega | (simp; omega)) (by omega)) rfl rfl rfl) : B9 := h a
theorem ycoad (a : A9) (h : A9 → B9 := by exact DJ_q (by first | exact yv_loadN_ro (row := [_, _, _, _, _]) tb rfl rfl rfl (by first | assumption | exact zr (by simp)) (by assumption) (by rfl) (by rfl) | exact yv_loadN (row := [_, _, _, _, _]) tb rfl rfl rfl (by repeat (first | exact zi0 | apply zi1 | apply zi2)) (by rfl) (by rfl)) rfl rfl rfl) : B9 := h a
theorem ycoae (a : A9) (h : A9 → B9 := by exact LJ_q (by first | exact yv_index_ro tb rfl rfl rfl rfl (by first | assumption | exact zr (by simp)) (i := k) (by first | rfl | omega | (simp; omega)) (by omega) | exact yv_index tb rfl rfl rfl rfl (i := k) (by first | rfl | omega | (simp; omega)) (by omega)) rfl) : B9 := h a
theorem ycoaf (a : A9) (h : A9 → B9 := by exact CJ_drawn tb [0, 1, 2, 3, 4, 5, 8, 6, 7] ([Blk.mk b6 _ _]) mixed (by kernel_rfl) (by repeat (first | exact zs0 _ | exact zs1 _ | apply zs2 | apply zs3 | apply zs4 | apply zs5))) : B9 := h a
theorem ycoag (a : A9) (h : A9 → B9 := by exact DJ_q (yv_loadN (row := [_, _, _]) tb rfl rfl rfl (by repeat (first | exact zi0 | apply zi1 | apply zi2)) (by rfl) (by rfl)) rfl rfl rfl) : B9 := h a
theorem ycoah (a : A9) (h : A9 → B9 := by exact LJ_q (by first | exact yv_index_ro tb rfl rfl rfl rfl (by first | assumption | exact zr (by simp)) (i := j) (by first | rfl | omega | (simp; omega)) (by omega) | exact yv_index tb rfl rfl rfl rfl (i := j) (by first | rfl | omega | (simp; omega)) (by omega)) rfl) : B9 := h a
theorem ycoai (a : A9) (h : A9 → B9 := by exact CJ_drawn tb [0, 1, 2, 3, 4, 5, 6, 7, 8, 9, 10, 11, 12, 13, 14, 15] ([Blk.mk b6 _ _, Blk.mk b4 _ _]) mixed (by kernel_rfl) (by repeat (first | exact zs0 _ | exact zs1 _ | apply zs2 | apply zs3 | apply zs4 | apply zs5))) : B9 := h a
end
structure Spared (c c2 : List XCut) (f f2 : XFeeder) (zone : Int) : Prop where
  clen : c2.length = c.length
  slen : f2.switches.l.length = f.switches.l.length
  zlen : f2.zones.l.length = c.length
  cut : ∀ k : Nat, k < c.length → (k : Int) ≠ zone → c.getD k default = c2.getD k default
  held : ∀ k : Nat, k < c.length → (k : Int) ≠ zone → (c2.getD k default).off = true → (∃ x ∈ pathL f2.switches.l f2.zones.l f2.reply (f2.zones.l.getD k 0), f2.switches.l.getD x.toNat default ≠ f.switches.l.getD x.toNat default) →
    ∃ x ∈ pathL f2.switches.l f2.zones.l f2.reply (f2.zones.l.getD k 0), (f2.switches.l.getD x.toNat default).shown = -1
theorem not_t {b : Bool} (h : (!b) = true) : b = false := by cases b <;> simp_all
theorem sw_eq {x y : XSwitch} (h : cellsEq x.cells y.cells = false) : x ≠ y := by
  rintro rfl
  simp [cellsEq, cellEq, XSwitch.cells] at h
theorem closes_no {q : List Int} {sw sw0 : List XSwitch} {k zone : Int} {off he : Bool} (h : k ≠ zone → off = true → (∃ x ∈ q, sw.getD x.toNat default ≠ sw0.getD x.toNat default) → ∃ x ∈ q, (sw.getD x.toNat default).shown = -1) (hc : ¬ k = zone ∧ off = true)
    (hf : ∃ x ∈ q, sw.getD x.toNat default ≠ sw0.getD x.toNat default) (hh : ∀ j : Nat, j < q.length → (sw.getD (q.getD j 0).toNat default).shown = -1 → he = true) (hn : he = false) : False := by
  obtain ⟨x, hx, hxs⟩ := h hc.1 hc.2 hf
  obtain ⟨m, hm, rfl⟩ := List.getElem_of_mem hx
  have h2 := hh m hm (by rw [show q.getD m 0 = q[m] by rw [List.getD_eq_getElem?_getD, List.getElem?_eq_getElem hm]; rfl]; exact hxs)
  rw [hn] at h2
  cases h2
set_option maxRecDepth 20000
attribute [local irreducible] CJ LJ DJ Tri YV Gives seqK blockK loopK retK RV mergeK OwL.L
theorem closes_tri (s : XSite) (c : Arr XCut) (fl : Arr XSpan) (f : XFeeder) (c2 : Arr XCut) (f2 : XFeeder) (zone : Int) (L : List Blk) (R : List Sl) (hcR : InR (cusl c) R) (hfR : FeederR f R) (hc2R : InR (cusl c2) R) (hf2R : FeederR f2 R) (h : Spared c.l c2.l f f2 zone) :
    Tri Try.prog 36 [sceneV s c fl f, c2.val, f2.val, .int .i64 zone].toArray L R (fun v L' R' => v = .bool true ∧ L = L' ∧ R = R') := by
  have h1 := h.clen
  have h2 := h.slen
  have h3 := h.zlen
  have hsR := hfR.sw
  have hs2R := hf2R.sw
  have hz2R := hf2R.zn
  refine Tri_cap Try.call36 hc2R fun hcap => ?_
  refine tri_enter 105 Try.call36 Try.func36 rfl rfl rfl ?_
  refine qae ?_
  refine qax ?_
  intro b4
  refine qax ?_
  intro b6
  refine qaz ?_
  refine qaw ?_
  refine qbm ?_
  refine qag ?_
  refine qab ?_
  refine qac ?_
  refine qag ?_
  refine qbq ?_
  refine qah ?_
  apply LJ_or (G := [_, _, _, _, _, _, _, _]) (j := 6) (cj := 20) rfl rfl (by rfl) rfl (show _ = Value.bool _ from rfl) rfl
  ·
   intro hg7
   replace hg7 := qb hg7
   refine qab ?_
   refine qac ?_
   refine qag ?_
   refine qab ?_
   refine qab ?_
   refine qac ?_
   refine qag ?_
   refine qbq ?_
   exact qai
  intro junk7
  refine qaf ?_
  refine q_c (fun hc0 => ?_) (fun hc0 => ?_)
  ·
   refine qae ?_
   refine qaz ?_
   refine qbh ?_
   refine q_b (L' := L) (R' := R) ?_
   exact absurd h1 (by omega)
  refine qbo ?_
  refine qbm ?_
  refine qag ?_
  refine qaa ?_
  refine qa2 ?_
  refine CJ_forget [(1, Value.slice _ _ _), (3, Value.int _ _), (4, Value.pointer _), (6, Value.pointer _), (31, Value.int _ _), (32, Value.int _ _)] (by repeat' (first | exact trivial | refine And.intro rfl ?_)) fun tq0 => ?_
  refine q_s [8, 9, 10, 11, 13, 32, 33, 34, 35, 36, 37, 38, 39, 40, 41, 42, 43, 44, 45, 46, 47, 48, 49, 50, 51, 52, 53, 54, 55, 56, 57, 58, 59, 60, 61, 62, 63, 64, 65, 66, 67, 68, 69, 70, 71, 72, 73, 74, 75, 76, 77, 78, 79, 80, 81, 82, 83, 84, 85, 86, 87, 88, 89, 90, 91, 92, 93, 94, 95, 96, 97, 98, 99, 100, 101, 102, 103, 104] (fun g : {k : Nat // k ≤ c2.l.length} => [(32, .int .i64 ((g.1 : Nat) : Int))]) (fun g => c2.l.length - g.1) (⟨0, by omega⟩) ?_
  rintro ⟨k, hk⟩ junk
  try dsimp only
  refine qae ?_
  refine qaj ?_
  refine qa4 ?_
  refine q_c (fun hc1 => ?_) (fun hc1 => ?_)
  ·
   have hcg := get_D (l := c.l) (k := k) default (by omega)
   have hc2g := get_D (l := c2.l) (k := k) default (by omega)
   have hzg := get_D (l := f2.zones.l) (k := k) 0 (by omega)
   have hcut := h.cut k (by omega)
   have hheld := h.held k (by omega)
   obtain ⟨y1, hy1⟩ : ∃ y1, y1 = c.l.getD k default := ⟨_, rfl⟩
   obtain ⟨y2, hy2⟩ : ∃ y2, y2 = c2.l.getD k default := ⟨_, rfl⟩
   rw [← hy1] at hcg hcut
   rw [← hy2] at hc2g hcut hheld
   refine qbb ?_
   refine qaa ?_
   refine qad ?_
   refine qco ?_
   refine CJ_drawn tb [0, 1, 2, 3, 4, 5, 6, 7, 8, 9, 10, 11, 12, 13, 14] ([Blk.mk b4 _ _]) mixed (by kernel_rfl) (by repeat (first | exact zs0 _ | exact zs1 _ | apply zs2 | apply zs3 | apply zs4 | apply zs5)) ?_
   refine qao ?_
   refine qao ?_
   refine DJ_q (yv_neq rfl rfl) rfl rfl rfl ?_
   refine qb2 ?_
   refine DJ_case (k := 38) (show _ = Value.bool _ from rfl) (fun hg3 => ?_) (fun hg3 => ?_)
   ·
    replace hg3 := qb hg3
    obtain rfl : y1 = y2 := hcut (by omega)
    refine DJ_q (yv_move (show _ = Value.slice _ _ _ from rfl)) rfl rfl rfl ?_
    refine qao ?_
    refine qds ?_
    refine qdv ?_
    refine qal ?_
    refine qat ?_
    refine qao ?_
    refine qds ?_
    refine qdv ?_
    refine DJ_q (yv_neq_str cutEq rfl rfl (by repeat (first | exact trivial | refine ⟨trivial, ?_⟩)) (by repeat (first | exact trivial | refine ⟨trivial, ?_⟩)) rfl) rfl rfl rfl ?_
    refine qbp ?_
    refine qbu ?_
    refine q_c (fun hc2 => ?_) (fun hc2 => ?_)
    ·
     (exfalso; simp [cellsEq, cellEq] at hc2)
    refine qbo ?_
    refine qaa ?_
    refine qaa ?_
    refine qbn ?_
    refine qah ?_
    apply LJ_or (G := [_, _, _, _, _, _]) (j := 3) (cj := 53) rfl rfl (by rfl) rfl (show _ = Value.bool _ from rfl) rfl
    ·
     intro hg4
     replace hg4 := qb hg4
     refine qbm ?_
     refine qaa ?_
     refine ycoae ?_
     refine qb0 ?_
     refine qa7 ?_
     refine qb4 ?_
     exact qai
    intro junk4
    refine qaf ?_
    refine q_c (fun hc3 => ?_) (fun hc3 => ?_)
    ·
     refine CJ_exit (seqK_exit (blockK_exit (seqK_normal (CJ_region ?_))))
     refine qar ?_
     refine qaa ?_
     refine qav ?_
     exact q_k ⟨k + 1, by omega⟩
    refine qbv ?_
    refine qaz ?_
    refine qaz ?_
    refine qco ?_
    refine ycoaf ?_
    refine ycoag ?_
    refine qal ?_
    refine qat ?_
    refine qao ?_
    refine qds ?_
    refine qbl ?_
    refine qao ?_
    refine DJ_call rfl (ref18Path_tri f2 (f2.zones.l.getD k 0) _ _ hf2R) rfl rfl ?_
    rintro v L' R' ⟨q, rfl, hqk, hql, rfl, rfl⟩
    refine qas ?_
    refine DJ_q (yv_len tb rfl rfl rfl) rfl rfl rfl ?_
    refine DJ_nil (seqK_normal (CJ_block ?_))
    refine CJ_forgetW [8, 9, 10, 11, 13, 32, 33, 34, 35, 36, 37, 38, 39, 40, 41, 42, 43, 44, 45, 46, 47, 48, 49, 50, 51, 52, 53, 54, 55, 56, 57, 58, 59, 60, 61, 62, 63, 64, 65, 66, 67, 68, 69, 70, 71, 72, 73, 74, 75, 76, 77, 78, 79, 80, 81, 82, 83, 84, 85, 86, 87, 88, 89, 90, 91, 92, 93, 94, 95, 96, 97, 98, 99, 100, 101, 102, 103, 104] (by repeat (first | apply Off.upd rfl | apply Off.havoc rfl | refine Off.updL (t' := havoc _ _ _) rfl ?_ | exact Off.refl)) [(10, Value.bool _), (11, Value.bool _), (32, Value.int _ _), (39, Value.slice _ _ _), (40, Value.int _ _), (41, Value.pointer _), (42, Value.agg _), (43, Value.pointer _), (44, Value.slice _ _ _), (45, Value.int _ _), (46, Value.pointer _), (47, Value.agg _), (48, Value.bool _), (67, Value.slice _ _ _), (68, Value.int _ _), (69, Value.int _ _)] (by repeat' (first | exact trivial | refine And.intro rfl ?_)) fun tq1 => ?_
    refine CJ_frz1 (A := []) (p := q) (wd := 1) [] (fun _ => rfl) (by decide) hqk (fun s hs => by cases hs) ?_
    refine CJ_L (by first | (simp only [List.nil_append]; done) | (simp only [List.nil_append]; rfl)) ?_
    obtain ⟨R2, hR2e⟩ : ∃ R2, R2 = isl q.arr :: R := ⟨_, rfl⟩
    have hR2 : ∀ r ∈ R, InR r R2 := fun r hr => inR_self (by rw [hR2e]; exact .tail _ hr)
    have hqR : InR (isl q.arr) R2 := inR_self (by rw [hR2e]; exact .head _)
    have hsR2 := hsR.mono hR2
    have hs2R2 := hs2R.mono hR2
    have hqn := pathL_len (sw := f2.switches.l) (zn := f2.zones.l) (rp := f2.reply) (s := f2.zones.l.getD k 0)
    rw [← hql] at hqn hheld
    refine CJ_R (show _ = R2 by rw [hR2e]) ?_
    refine q_p [10, 11, 13, 69, 70, 71, 72, 73, 74, 75, 76, 77, 78, 79, 80, 81, 82, 83, 84, 85, 86, 87, 88, 89, 90, 91, 92, 93, 94, 95, 96, 97, 98] ((⟨fun g => [(69, .int .i64 ((g.1.1 : Nat) : Int)), (10, .bool g.1.2.1), (11, .bool g.1.2.2)], fun _ => ⟨b6, f2.cells, 71⟩ :: ⟨b4, sceneC s c.val fl.val f.switches.val f.zones.val f.reply, 73⟩ :: L, fun _ => R2, fun g => q.l.length - g.1.1⟩ : Head {g : Nat × Bool × Bool // g.1 ≤ q.l.length ∧ (g.2.1 = true → ∃ x ∈ q.l, f2.switches.l.getD x.toNat default ≠ f.switches.l.getD x.toNat default) ∧ ∀ j : Nat, j < g.1 → (f2.switches.l.getD (q.l.getD j 0).toNat default).shown = -1 → g.2.2 = true})) (⟨(0, false, false), by dsimp only; omega, fun h => (by cases h), fun j hj => by dsimp only at hj; omega⟩) ?_
    rintro ⟨⟨j, fr, he⟩, hj, hfr, hhe⟩ junk
    try dsimp only
    dsimp only at hj hfr hhe
    refine qae ?_
    refine qaj ?_
    refine qa4 ?_
    refine q_c (fun hc4 => ?_) (fun hc4 => ?_)
    ·
     have hqg := get_D (l := q.l) (k := j) 0 (by omega)
     have hm := pathL_mem (sw := f2.switches.l) (zn := f2.zones.l) (rp := f2.reply) (s := f2.zones.l.getD k 0) (x := q.l.getD j 0) (by rw [← hql]; exact List.mem_of_getElem? hqg)
     have hsg := get_D (l := f.switches.l) (k := (q.l.getD j 0).toNat) default (by omega)
     have hs2g := get_D (l := f2.switches.l) (k := (q.l.getD j 0).toNat) default (by omega)
     obtain ⟨u1, hu1⟩ : ∃ u1, u1 = f.switches.l.getD (q.l.getD j 0).toNat default := ⟨_, rfl⟩
     obtain ⟨u2, hu2⟩ : ∃ u2, u2 = f2.switches.l.getD (q.l.getD j 0).toNat default := ⟨_, rfl⟩
     rw [← hu1] at hsg
     rw [← hu2] at hs2g
     refine qbb ?_
     refine ycoah ?_
     refine qa7 ?_
     refine qad ?_
     refine qa4 ?_
     refine ycoai ?_
     refine qb2 ?_
     refine qb2 ?_
     refine DJ_case (k := 74) (show _ = Value.bool _ from rfl) (fun hg1 => ?_) (fun hg1 => ?_)
     ·
      replace hg1 := qb hg1
      iterate 12 refine qap ?_
      refine qbp ?_
      refine ycoaa ?_
      refine DJ_nil (seqK_normal (CJ_region ?_))
      refine qah ?_
      refine qah ?_
      apply LJ_or (G := [_, _, _, _, _, _, _]) (j := 1) (cj := 89) rfl rfl (by rfl) rfl (show _ = Value.bool _ from rfl) rfl
      ·
       intro hg2
       replace hg2 := qb hg2
       refine qab ?_
       refine qac ?_
       refine qaa ?_
       refine ycoab ?_
       refine qb0 ?_
       refine qa7 ?_
       refine qbn ?_
       exact qai
      intro junk2
      refine qaz ?_
      refine qcs ?_
      refine qar ?_
      refine qaa ?_
      refine qav ?_
      refine q_k ⟨(j + 1, _, _), by dsimp only; omega, ?_, ?_⟩
      · first
          | exact fun _ => hfr hg1
          | (intro hn; exact ⟨_, List.mem_of_getElem? hqg, by rw [← hu1, ← hu2]; exact sw_eq (not_t (b := cellsEq u2.cells u1.cells) hn)⟩)
      · intro m hm hs
        rcases Nat.lt_or_ge m j with h | h
        · have := hhe m h hs; simp [this]
        · obtain rfl : m = j := by dsimp only at hm; omega
          rw [← hu2] at hs; cases he <;> simp [hs]
     replace hg1 := qb hg1
     refine qal ?_
     refine qat ?_
     refine qao ?_
     refine ycoac ?_
     refine ycoad ?_
     refine qal ?_
     refine qal ?_
     refine qat ?_
     refine qao ?_
     refine ycoac ?_
     refine ycoad ?_
     refine DJ_q (yv_neq_str switchEq rfl rfl (by repeat (first | exact trivial | refine ⟨trivial, ?_⟩)) (by repeat (first | exact trivial | refine ⟨trivial, ?_⟩)) rfl) rfl rfl rfl ?_
     refine qbp ?_
     refine ycoaa ?_
     refine DJ_nil (seqK_normal (CJ_region ?_))
     refine qah ?_
     refine qah ?_
     apply LJ_or (G := [_, _, _, _, _, _, _]) (j := 1) (cj := 89) rfl rfl (by rfl) rfl (show _ = Value.bool _ from rfl) rfl
     ·
      intro hg2
      replace hg2 := qb hg2
      refine qab ?_
      refine qac ?_
      refine qaa ?_
      refine ycoab ?_
      refine qb0 ?_
      refine qa7 ?_
      refine qbn ?_
      exact qai
     intro junk2
     refine qaz ?_
     refine qcs ?_
     refine qar ?_
     refine qaa ?_
     refine qav ?_
     refine q_k ⟨(j + 1, _, _), by dsimp only; omega, ?_, ?_⟩
     · first
         | exact fun _ => hfr hg1
         | (intro hn; exact ⟨_, List.mem_of_getElem? hqg, by rw [← hu1, ← hu2]; exact sw_eq (not_t (b := cellsEq u2.cells u1.cells) hn)⟩)
     · intro m hm hs
       rcases Nat.lt_or_ge m j with h | h
       · have := hhe m h hs; simp [this]
       · obtain rfl : m = j := by dsimp only at hm; omega
         rw [← hu2] at hs; cases he <;> simp [hs]
    refine qbk ?_
    refine qah ?_
    refine qah ?_
    apply LJ_and (G := [_, _]) (j := 1) (cj := 100) rfl rfl (by rfl) rfl (show _ = Value.bool _ from rfl) rfl
    ·
     intro hg2
     replace hg2 := qb hg2
     refine qah ?_
     refine qb4 ?_
     exact qai
    intro junk2
    refine qaf ?_
    refine q_c (fun hc5 => ?_) (fun hc5 => ?_)
    ·
     (exfalso; exact closes_no hheld hc3 (hfr hc5.1) (fun m hm => hhe m (by omega)) hc5.2)
    refine qbj ?_
    refine qar ?_
    refine qaa ?_
    refine qav ?_
    exact loopK_mk ⟨k + 1, by omega⟩ (by repeat (first | exact Off.refl | apply Off.upd rfl | apply Off.havoc rfl | apply Off.updL rfl | apply Off.left rfl)) (by repeat' (first | exact trivial | refine And.intro rfl ?_)) (by repeat (first | exact zs0 _ | exact zs1 _ | apply zs2 | apply zs3 | apply zs4 | apply zs5)) hR2 (by dsimp only; omega)
   replace hg3 := qb hg3
   iterate 10 refine qap ?_
   refine qbp ?_
   refine qbu ?_
   refine CJ_cond_false rfl ?_
   refine qbo ?_
   refine qaa ?_
   refine qaa ?_
   refine qbn ?_
   refine qah ?_
   apply LJ_or (G := [_, _, _, _, _, _]) (j := 3) (cj := 53) rfl rfl (by rfl) rfl (show _ = Value.bool _ from rfl) rfl
   ·
    intro hg4
    replace hg4 := qb hg4
    refine qbm ?_
    refine qaa ?_
    refine ycoae ?_
    refine qb0 ?_
    refine qa7 ?_
    refine qb4 ?_
    exact qai
   intro junk4
   refine qaf ?_
   refine q_c (fun hc3 => ?_) (fun hc3 => ?_)
   ·
    refine CJ_exit (seqK_exit (blockK_exit (seqK_normal (CJ_region ?_))))
    refine qar ?_
    refine qaa ?_
    refine qav ?_
    exact q_k ⟨k + 1, by omega⟩
   refine qbv ?_
   refine qaz ?_
   refine qaz ?_
   refine qco ?_
   refine ycoaf ?_
   refine ycoag ?_
   refine qal ?_
   refine qat ?_
   refine qao ?_
   refine qds ?_
   refine qbl ?_
   refine qao ?_
   refine DJ_call rfl (ref18Path_tri f2 (f2.zones.l.getD k 0) _ _ hf2R) rfl rfl ?_
   rintro v L' R' ⟨q, rfl, hqk, hql, rfl, rfl⟩
   refine qas ?_
   refine DJ_q (yv_len tb rfl rfl rfl) rfl rfl rfl ?_
   refine DJ_nil (seqK_normal (CJ_block ?_))
   refine CJ_forgetW [8, 9, 10, 11, 13, 32, 33, 34, 35, 36, 37, 38, 39, 40, 41, 42, 43, 44, 45, 46, 47, 48, 49, 50, 51, 52, 53, 54, 55, 56, 57, 58, 59, 60, 61, 62, 63, 64, 65, 66, 67, 68, 69, 70, 71, 72, 73, 74, 75, 76, 77, 78, 79, 80, 81, 82, 83, 84, 85, 86, 87, 88, 89, 90, 91, 92, 93, 94, 95, 96, 97, 98, 99, 100, 101, 102, 103, 104] (by repeat (first | apply Off.upd rfl | apply Off.havoc rfl | refine Off.updL (t' := havoc _ _ _) rfl ?_ | exact Off.refl)) [(10, Value.bool _), (11, Value.bool _), (32, Value.int _ _), (67, Value.slice _ _ _), (68, Value.int _ _), (69, Value.int _ _)] (by repeat' (first | exact trivial | refine And.intro rfl ?_)) fun tq1 => ?_
   refine CJ_frz1 (A := []) (p := q) (wd := 1) [] (fun _ => rfl) (by decide) hqk (fun s hs => by cases hs) ?_
   refine CJ_L (by first | (simp only [List.nil_append]; done) | (simp only [List.nil_append]; rfl)) ?_
   obtain ⟨R2, hR2e⟩ : ∃ R2, R2 = isl q.arr :: R := ⟨_, rfl⟩
   have hR2 : ∀ r ∈ R, InR r R2 := fun r hr => inR_self (by rw [hR2e]; exact .tail _ hr)
   have hqR : InR (isl q.arr) R2 := inR_self (by rw [hR2e]; exact .head _)
   have hsR2 := hsR.mono hR2
   have hs2R2 := hs2R.mono hR2
   have hqn := pathL_len (sw := f2.switches.l) (zn := f2.zones.l) (rp := f2.reply) (s := f2.zones.l.getD k 0)
   rw [← hql] at hqn hheld
   refine CJ_R (show _ = R2 by rw [hR2e]) ?_
   refine q_p [10, 11, 13, 69, 70, 71, 72, 73, 74, 75, 76, 77, 78, 79, 80, 81, 82, 83, 84, 85, 86, 87, 88, 89, 90, 91, 92, 93, 94, 95, 96, 97, 98] ((⟨fun g => [(69, .int .i64 ((g.1.1 : Nat) : Int)), (10, .bool g.1.2.1), (11, .bool g.1.2.2)], fun _ => ⟨b6, f2.cells, 71⟩ :: ⟨b4, sceneC s c.val fl.val f.switches.val f.zones.val f.reply, 73⟩ :: L, fun _ => R2, fun g => q.l.length - g.1.1⟩ : Head {g : Nat × Bool × Bool // g.1 ≤ q.l.length ∧ (g.2.1 = true → ∃ x ∈ q.l, f2.switches.l.getD x.toNat default ≠ f.switches.l.getD x.toNat default) ∧ ∀ j : Nat, j < g.1 → (f2.switches.l.getD (q.l.getD j 0).toNat default).shown = -1 → g.2.2 = true})) (⟨(0, false, false), by dsimp only; omega, fun h => (by cases h), fun j hj => by dsimp only at hj; omega⟩) ?_
   rintro ⟨⟨j, fr, he⟩, hj, hfr, hhe⟩ junk
   try dsimp only
   dsimp only at hj hfr hhe
   refine qae ?_
   refine qaj ?_
   refine qa4 ?_
   refine q_c (fun hc4 => ?_) (fun hc4 => ?_)
   ·
    have hqg := get_D (l := q.l) (k := j) 0 (by omega)
    have hm := pathL_mem (sw := f2.switches.l) (zn := f2.zones.l) (rp := f2.reply) (s := f2.zones.l.getD k 0) (x := q.l.getD j 0) (by rw [← hql]; exact List.mem_of_getElem? hqg)
    have hsg := get_D (l := f.switches.l) (k := (q.l.getD j 0).toNat) default (by omega)
    have hs2g := get_D (l := f2.switches.l) (k := (q.l.getD j 0).toNat) default (by omega)
    obtain ⟨u1, hu1⟩ : ∃ u1, u1 = f.switches.l.getD (q.l.getD j 0).toNat default := ⟨_, rfl⟩
    obtain ⟨u2, hu2⟩ : ∃ u2, u2 = f2.switches.l.getD (q.l.getD j 0).toNat default := ⟨_, rfl⟩
    rw [← hu1] at hsg
    rw [← hu2] at hs2g
    refine qbb ?_
    refine ycoah ?_
    refine qa7 ?_
    refine qad ?_
    refine qa4 ?_
    refine ycoai ?_
    refine qb2 ?_
    refine qb2 ?_
    refine DJ_case (k := 74) (show _ = Value.bool _ from rfl) (fun hg1 => ?_) (fun hg1 => ?_)
    ·
     replace hg1 := qb hg1
     iterate 12 refine qap ?_
     refine qbp ?_
     refine ycoaa ?_
     refine DJ_nil (seqK_normal (CJ_region ?_))
     refine qah ?_
     refine qah ?_
     apply LJ_or (G := [_, _, _, _, _, _, _]) (j := 1) (cj := 89) rfl rfl (by rfl) rfl (show _ = Value.bool _ from rfl) rfl
     ·
      intro hg2
      replace hg2 := qb hg2
      refine qab ?_
      refine qac ?_
      refine qaa ?_
      refine ycoab ?_
      refine qb0 ?_
      refine qa7 ?_
      refine qbn ?_
      exact qai
     intro junk2
     refine qaz ?_
     refine qcs ?_
     refine qar ?_
     refine qaa ?_
     refine qav ?_
     refine q_k ⟨(j + 1, _, _), by dsimp only; omega, ?_, ?_⟩
     · first
         | exact fun _ => hfr hg1
         | (intro hn; exact ⟨_, List.mem_of_getElem? hqg, by rw [← hu1, ← hu2]; exact sw_eq (not_t (b := cellsEq u2.cells u1.cells) hn)⟩)
     · intro m hm hs
       rcases Nat.lt_or_ge m j with h | h
       · have := hhe m h hs; simp [this]
       · obtain rfl : m = j := by dsimp only at hm; omega
         rw [← hu2] at hs; cases he <;> simp [hs]
    replace hg1 := qb hg1
    refine qal ?_
    refine qat ?_
    refine qao ?_
    refine ycoac ?_
    refine ycoad ?_
    refine qal ?_
    refine qal ?_
    refine qat ?_
    refine qao ?_
    refine ycoac ?_
    refine ycoad ?_
    refine DJ_q (yv_neq_str switchEq rfl rfl (by repeat (first | exact trivial | refine ⟨trivial, ?_⟩)) (by repeat (first | exact trivial | refine ⟨trivial, ?_⟩)) rfl) rfl rfl rfl ?_
    refine qbp ?_
    refine ycoaa ?_
    refine DJ_nil (seqK_normal (CJ_region ?_))
    refine qah ?_
    refine qah ?_
    apply LJ_or (G := [_, _, _, _, _, _, _]) (j := 1) (cj := 89) rfl rfl (by rfl) rfl (show _ = Value.bool _ from rfl) rfl
    ·
     intro hg2
     replace hg2 := qb hg2
     refine qab ?_
     refine qac ?_
     refine qaa ?_
     refine ycoab ?_
     refine qb0 ?_
     refine qa7 ?_
     refine qbn ?_
     exact qai
    intro junk2
    refine qaz ?_
    refine qcs ?_
    refine qar ?_
    refine qaa ?_
    refine qav ?_
    refine q_k ⟨(j + 1, _, _), by dsimp only; omega, ?_, ?_⟩
    · first
        | exact fun _ => hfr hg1
        | (intro hn; exact ⟨_, List.mem_of_getElem? hqg, by rw [← hu1, ← hu2]; exact sw_eq (not_t (b := cellsEq u2.cells u1.cells) hn)⟩)
    · intro m hm hs
      rcases Nat.lt_or_ge m j with h | h
      · have := hhe m h hs; simp [this]
      · obtain rfl : m = j := by dsimp only at hm; omega
        rw [← hu2] at hs; cases he <;> simp [hs]
   refine qbk ?_
   refine qah ?_
   refine qah ?_
   apply LJ_and (G := [_, _]) (j := 1) (cj := 100) rfl rfl (by rfl) rfl (show _ = Value.bool _ from rfl) rfl
   ·
    intro hg2
    replace hg2 := qb hg2
    refine qah ?_
    refine qb4 ?_
    exact qai
   intro junk2
   refine qaf ?_
   refine q_c (fun hc5 => ?_) (fun hc5 => ?_)
   ·
    (exfalso; exact closes_no hheld hc3 (hfr hc5.1) (fun m hm => hhe m (by omega)) hc5.2)
   refine qbj ?_
   refine qar ?_
   refine qaa ?_
   refine qav ?_
   exact loopK_mk ⟨k + 1, by omega⟩ (by repeat (first | exact Off.refl | apply Off.upd rfl | apply Off.havoc rfl | apply Off.updL rfl | apply Off.left rfl)) (by repeat' (first | exact trivial | refine And.intro rfl ?_)) (by repeat (first | exact zs0 _ | exact zs1 _ | apply zs2 | apply zs3 | apply zs4 | apply zs5)) hR2 (by dsimp only; omega)
  refine qbk ?_
  refine qaz ?_
  refine qa0 ?_
  refine q_b (L' := L) (R' := R) ?_
  exact ⟨rfl, rfl, rfl⟩
end Go.Proofs.Ytkpfjmibipblhaa
end
section
/-
  Statements about chapter 21: closing the next switch gives no power to others. Plain. By an AI agent; no person has read it.
-/
set_option linter.unusedSimpArgs false
set_option linter.unusedVariables false
namespace Go.Proofs.Ytkpfjmibipblhaa
open Go.Aw Go
theorem upF_congr {sw sw2 : List XSwitch} (h : ∀ i : Nat, (sw2.getD i default).above = (sw.getD i default).above) : ∀ (n : Nat) (s : Int), upF sw2 n s = upF sw n s := by
  intro n
  induction n with
  | zero => intro s; rfl
  | succ n ih => intro s; rw [upF, upF, h, ih]
theorem closeSw_len {sw : List XSwitch} {a t : Int} : (closeSw sw a t).length = sw.length := List.length_set
theorem closeSw_ne {sw : List XSwitch} {a t : Int} {i : Nat} (h : i ≠ a.toNat) : (closeSw sw a t).getD i default = sw.getD i default := by
  rw [List.getD_eq_getElem?_getD, List.getD_eq_getElem?_getD, closeSw, List.getElem?_set_ne (Ne.symm h)]
theorem closeSw_above {sw : List XSwitch} {a t : Int} (i : Nat) : ((closeSw sw a t).getD i default).above = (sw.getD i default).above := by
  by_cases h : i = a.toNat
  · subst h
    rcases Nat.lt_or_ge a.toNat sw.length with h1 | h1
    · rw [List.getD_eq_getElem?_getD, closeSw, List.getElem?_set_self h1]; rfl
    · rw [List.getD_eq_getElem?_getD, List.getD_eq_getElem?_getD, closeSw, List.getElem?_eq_none (by rw [List.length_set]; exact h1), List.getElem?_eq_none h1]
  · rw [closeSw_ne h]
theorem closeE_ok {sw : List XSwitch} {zn : List Int} {rp a t : Int} (h : closeE sw zn rp a t = 0) : 0 ≤ a ∧ a < sw.length := by
  have hc : canE sw zn rp a t = 0 := by
    rw [closeE] at h
    split at h
    · omega
    · rename_i h1; exact Decidable.not_not.1 h1
  rw [canE] at hc
  split at hc
  · omega
  split at hc
  · cases hc
  · omega
theorem spared_of {s : XSite} {c : List XCut} {fl : List XSpan} {r : XRest} {f f2 : XFeeder} {t : Int} {q : XRest} {c2 : List XCut} (he : rcloseE s c fl r f t = 0) (hC : CloseIs s c fl r f t q c2 f2.switches.l f2.zones.l f2.reply) : Spared c c2 f f2 r.zone := by
  have hcan : canRE s c fl r f t = 0 := by
    rw [rcloseE] at he
    split at he
    · omega
    · rename_i h1; exact Decidable.not_not.1 h1
  have hce : closeE f.switches.l f.zones.l f.reply (atR f r.zone) t = 0 := by rw [rcloseE, if_neg (by omega)] at he; exact he
  obtain ⟨hrz, hcz, hfe⟩ := canRE_ok hcan
  have har := closeE_ok hce
  have hnp : ¬ Powers c f.switches.l f.zones.l f.reply r.zone (atR f r.zone) := fun h => by
    rw [canRE] at hcan
    repeat' (split at hcan)
    all_goals first | omega | (rename_i hh; exact hh h)
  have he0 : ¬ rcloseE s c fl r f t ≠ 0 := by omega
  have esw : f2.switches.l = closeSw f.switches.l (atR f r.zone) t := by rw [hC.sw, rcloseSw, if_neg he0]
  have ezn := hC.zn
  have erp := hC.rp
  have ec : ∀ k : Nat, (k : Int) ≠ r.zone → c2.getD k default = c.getD k default := fun k hk => by
    rw [hC.cuts, rcloseC, if_neg he0]
    split
    · rw [List.getD_eq_getElem?_getD, List.getElem?_set_ne (by omega), List.getD_eq_getElem?_getD]
    · rfl
  refine ⟨?_, by rw [esw, closeSw_len], by rw [ezn, hcz], fun k hk hne => (ec k hne).symm, fun k hk hne hoff hx => ?_⟩
  · rw [hC.cuts, rcloseC, if_neg he0]
    split
    · rw [List.length_set]
    · rfl
  · obtain ⟨x, hxm, hxd⟩ := hx
    have hxr := pathL_mem hxm
    have hxa : x = atR f r.zone := by
      by_cases h : x.toNat = (atR f r.zone).toNat
      · omega
      · exact absurd (by rw [esw, closeSw_ne h]) hxd
    have hp : pathL f2.switches.l f2.zones.l f2.reply (f2.zones.l.getD k 0) = pathL f.switches.l f.zones.l f.reply (f.zones.l.getD k 0) := by
      have hne2 : ¬ (feedE f2.switches.l f2.zones.l f2.reply ≠ 0 ∨ f2.zones.l.getD k 0 < 0 ∨ (f2.switches.l.length : Int) ≤ f2.zones.l.getD k 0) := fun h => by
        rw [pathL, if_pos h] at hxm; cases hxm
      rw [not_or, not_or] at hne2
      have h2 : f2.switches.l.length = f.switches.l.length := by rw [esw, closeSw_len]
      have h3 : f2.zones.l.getD k 0 = f.zones.l.getD k 0 := by rw [ezn]
      rw [pathL, if_neg (by omega), pathL, if_neg (by omega), h3, pathS, pathS, esw, upF_congr closeSw_above]
    have hoff2 : (c.getD k default).off = true := by rw [← ec k hne]; exact hoff
    rw [hp] at hxm ⊢
    have hna : ¬ PowersAt c f.switches.l f.zones.l f.reply r.zone (atR f r.zone) k := fun h => hnp ⟨k, by omega, h⟩
    have hh : ∃ y ∈ pathL f.switches.l f.zones.l f.reply (f.zones.l.getD k 0), holdsB f.switches.l (atR f r.zone) y = true := by
      refine Decidable.not_not.1 fun hno => hna ⟨⟨hne, hoff2⟩, by rw [← hxa]; exact hxm, hno⟩
    obtain ⟨y, hym, hyh⟩ := hh
    have hyr := pathL_mem hym
    rw [holdsB, decide_eq_true_iff] at hyh
    exact ⟨y, hym, by rw [esw, closeSw_ne (by omega)]; exact hyh.2⟩
end Go.Proofs.Ytkpfjmibipblhaa
end
section
/-
  Statements about chapter 21: what stands while somebody tries. Plain. By an AI agent; no person has read it.
-/
set_option linter.unusedSimpArgs false
set_option linter.unusedVariables false
namespace Go.Proofs.Ytkpfjmibipblhaa
open Go.Aw Go
theorem ask_ok {s : XSite} {c : List XCut} {fl : List XSpan} {r : XRest} {p k t : Int} (h : askE s c fl r p k t = 0) : r.zone = -1 ∧ (0 ≤ p ∧ p < s.persons.l.length ∧ s.persons.l.getD p.toNat 0 = 1) ∧ (0 ≤ k ∧ k < c.length) ∧ readyF s c fl k t = 0 := by
  rw [askE] at h
  split at h
  · omega
  rename_i h0
  split at h
  · cases h
  rename_i h1
  split at h
  · cases h
  refine ⟨by omega, by omega, readyE_rng h, ?_⟩
  rw [readyF, if_neg h0]; exact h
theorem confirm_ok {s : XSite} {c : List XCut} {fl : List XSpan} {r : XRest} {p t : Int} (h : confirmE s c fl r p t = 0) : (r.zone ≠ -1 ∧ r.step = 1) ∧ ¬ BadPair s r p ∧ readyF s c fl r.zone t = 0 := by
  rw [confirmE] at h
  split at h
  · omega
  rename_i h0
  split at h
  · cases h
  split at h
  · cases h
  rename_i h2
  split at h
  · cases h
  refine ⟨by omega, h2, ?_⟩
  rw [readyF, if_neg h0]; exact h
theorem rclose_ok {s : XSite} {c : List XCut} {fl : List XSpan} {r : XRest} {f : XFeeder} {t : Int} (h : rcloseE s c fl r f t = 0) : (r.zone ≠ -1 ∧ r.step = 2) ∧ (0 ≤ r.zone ∧ r.zone < c.length) ∧ (c.getD r.zone.toNat default).off = true := by
  have hc : canRE s c fl r f t = 0 := by
    rw [rcloseE] at h
    split at h
    · omega
    · rename_i h1; exact Decidable.not_not.1 h1
  have hk := (canRE_ok hc).1
  rw [canRE] at hc
  split at hc
  · omega
  split at hc
  · cases hc
  split at hc
  · cases hc
  split at hc
  · omega
  rename_i h3
  refine ⟨by omega, hk, ?_⟩
  have h4 := Decidable.not_not.1 h3
  rw [readyE, if_neg (by omega), readyZ] at h4
  split at h4
  · cases h4
  · rename_i h5
    rcases hb : (c.getD r.zone.toNat default).off with _ | _
    · exact absurd hb h5
    · rfl
def OnlyI (nz : Nat) (r : XRest) (z f g : Int) : Prop :=
  (z = -1 ∧ r = noRest) ∨ (0 ≤ z ∧ z < nz ∧ r.zone = z ∧ (0 ≤ f ∧ f < 4) ∧ r.first = f ∧ (r.step = 1 ∨ r.step = 2 ∧ 0 ≤ g))
theorem OnlyI.none {nz : Nat} {f g : Int} : OnlyI nz noRest (-1) f g := .inl ⟨rfl, rfl⟩
theorem OnlyI.free {nz : Nat} {r : XRest} {z f g : Int} (h : OnlyI nz r z f g) (hr : r.zone = -1) : z = -1 := by
  rcases h with ⟨h1, _⟩ | ⟨h1, _, h3, _⟩ <;> omega
theorem OnlyI.held {nz : Nat} {r : XRest} {z f g : Int} (h : OnlyI nz r z f g) (hr : r.zone ≠ -1) : (0 ≤ z ∧ z < nz ∧ r.zone = z) ∧ (0 ≤ f ∧ f < 4) ∧ r.first = f ∧ (r.step = 1 ∨ r.step = 2 ∧ 0 ≤ g) := by
  rcases h with ⟨h1, h2⟩ | ⟨h1, h2, h3, h4, h5, h6⟩
  · rw [h2] at hr; exact absurd rfl hr
  · exact ⟨⟨h1, h2, h3⟩, h4, h5, h6⟩
theorem OnlyI.ask {s : XSite} {c : List XCut} {fl : List XSpan} {r : XRest} {p k t : Int} {nz : Nat} (h : askE s c fl r p k t = 0) (hp : p ≤ 3) (hn : c.length = nz) : OnlyI nz (askR s c fl r p k t) k p (-1) := by
  obtain ⟨_, h2, h3, _⟩ := ask_ok h
  rw [askR, if_pos h]
  exact .inr ⟨h3.1, by omega, rfl, by omega, rfl, .inl rfl⟩
theorem OnlyI.confirm {s : XSite} {c : List XCut} {fl : List XSpan} {r : XRest} {p t z f g : Int} {nz : Nat} (hI : OnlyI nz r z f g) (h : confirmE s c fl r p t = 0) : OnlyI nz (confirmR s c fl r p t) z f p := by
  obtain ⟨h1, h2, _⟩ := confirm_ok h
  obtain ⟨h3, h4, h5, _⟩ := hI.held h1.1
  rw [confirmR, if_pos h]
  rw [BadPair] at h2
  exact .inr ⟨h3.1, h3.2.1, h3.2.2, h4, h5, .inr ⟨rfl, by omega⟩⟩
theorem close_own {s : XSite} {c : List XCut} {fl : List XSpan} {r : XRest} {f : XFeeder} {t : Int} {q : XRest} {c2 : List XCut} {sw : List XSwitch} {zn : List Int} {rp : Int} (h : rcloseE s c fl r f t = 0) (hC : CloseIs s c fl r f t q c2 sw zn rp) :
    ((c2.getD r.zone.toNat default).off = false ∧ q = noRest) ∨ ((c2.getD r.zone.toNat default).off = true ∧ q = ⟨r.zone, r.first, r.second, r.step, t⟩) := by
  obtain ⟨_, hk, ho⟩ := rclose_ok h
  have e1 := hC.rest
  have e2 := hC.cuts
  rw [rcloseR, if_neg (by omega)] at e1
  rw [rcloseC, if_neg (by omega)] at e2
  by_cases hw : ownR f r
  · rw [if_pos hw] at e1 e2
    refine .inl ⟨?_, e1⟩
    rw [e2, List.getD_eq_getElem?_getD, List.getElem?_set_self (by omega)]; rfl
  · rw [if_neg hw] at e1 e2
    exact .inr ⟨by rw [e2]; exact ho, e1⟩
theorem OnlyI.close {s : XSite} {c : List XCut} {fl : List XSpan} {r : XRest} {f : XFeeder} {t : Int} {q : XRest} {c2 : List XCut} {sw : List XSwitch} {zn : List Int} {rp : Int} {nz : Nat} {z a b : Int} (hI : OnlyI nz r z a b) (hC : CloseIs s c fl r f t q c2 sw zn rp)
    (hn : ¬ (rcloseE s c fl r f t = 0 ∧ (c2.getD z.toNat default).off = false)) : OnlyI nz q z a b := by
  by_cases h : rcloseE s c fl r f t = 0
  · obtain ⟨h1, _⟩ := rclose_ok h
    obtain ⟨h3, h4, h5, h6⟩ := hI.held h1.1
    rw [← h3.2.2] at hn
    rcases close_own h hC with ⟨ho, _⟩ | ⟨_, hq⟩
    · exact absurd ⟨h, ho⟩ hn
    · rw [hq]
      exact .inr ⟨h3.1, h3.2.1, h3.2.2, h4, h5, h6⟩
  · have e1 := hC.rest
    rw [rcloseR, if_pos h] at e1
    rw [e1]; exact hI
theorem OnlyI.closed {s : XSite} {c : List XCut} {fl : List XSpan} {r : XRest} {f : XFeeder} {t : Int} {q : XRest} {c2 : List XCut} {sw : List XSwitch} {zn : List Int} {rp : Int} {nz : Nat} {z a b : Int} (hI : OnlyI nz r z a b) (hC : CloseIs s c fl r f t q c2 sw zn rp)
    (h : rcloseE s c fl r f t = 0) (ho : (c2.getD z.toNat default).off = false) : OnlyI nz q (-1) (-1) (-1) := by
  obtain ⟨h1, _⟩ := rclose_ok h
  obtain ⟨h3, _⟩ := hI.held h1.1
  rcases close_own h hC with ⟨_, hq⟩ | ⟨hf, _⟩
  · rw [hq]; exact .none
  · rw [h3.2.2, ho] at hf; cases hf
theorem close_lens {s : XSite} {c : List XCut} {fl : List XSpan} {r : XRest} {f : XFeeder} {t : Int} {q : XRest} {c2 : List XCut} {sw : List XSwitch} {zn : List Int} {rp : Int} (hC : CloseIs s c fl r f t q c2 sw zn rp) : c2.length = c.length ∧ zn.length = f.zones.l.length ∧ sw.length = f.switches.l.length := by
  refine ⟨?_, by rw [hC.zn], ?_⟩
  · rw [hC.cuts, rcloseC]
    split
    · rfl
    split
    · exact List.length_set
    · rfl
  · rw [hC.sw, rcloseSw]
    split
    · rfl
    · exact closeSw_len
end Go.Proofs.Ytkpfjmibipblhaa
end
section
/-
  Statements about chapter 21: what somebody tries, and what closing may change. By an AI agent; no person has read it.
-/
set_option linter.unusedSimpArgs false
set_option linter.unusedVariables false
namespace Go.Proofs.Ytkpfjmibipblhaa
open Go.Aw Go
structure XStep where
  kind : Int
  person : Int
  zone : Int
  wait : Int
  deriving Inhabited
def XStep.cells (x : XStep) : List Value := [.int .i64 x.kind, .int .i64 x.person, .int .i64 x.zone, .int .i64 x.wait]
abbrev stsl (x : Arr XStep) : Sl := x.sl 4 XStep.cells []
def StepD (x : XStep) : Prop := (0 ≤ x.kind ∧ x.kind ≤ 5) ∧ (0 ≤ x.person ∧ x.person ≤ 4) ∧ (0 ≤ x.zone ∧ x.zone ≤ 2) ∧ 0 ≤ x.wait ∧ x.wait ≤ 7
set_option maxRecDepth 20000
attribute [local irreducible] CJ LJ DJ Tri YV Gives seqK blockK loopK retK RV mergeK OwL.L
theorem steps_tri (c : Nat) (x : Arr Int) (k : Nat) (R : List Sl) (hx : CodesR x R) (hk : k ≤ x.l.length) :
    Tri Try.prog 32 [.pointer (some ⟨c, 0, none⟩)].toArray [cblk c x k] R
      (fun v L' R' => ∃ (p : OwL XStep) (k' : Nat), v = p.val ∧ p.ok 4 XStep.cells ∧ (p.l.length ≤ 15 ∧ ∀ e ∈ p.l, StepD e) ∧ k' ≤ x.l.length ∧ p.L 83 XStep.cells ++ (cblk c x k' :: []) = L' ∧ R = R') := by
  refine tri_enter 24 Try.call32 Try.func32 rfl rfl rfl ?_
  refine qae ?_
  refine qc4 ?_
  refine qam ?_
  refine qc4 ?_
  refine qaw ?_
  refine qa6 ?_
  refine LJ_call rfl (next1 (by repeat (first | apply USeg.here | apply USeg.cons | apply USeg.app)) hx hk (by omega)) rfl ?_
  rintro v L' R' ⟨n0, k0, rfl, g0, g0', g0'', hk0, rfl, rfl⟩
  have g0q := g0' (by omega)
  refine qad ?_
  refine qa2 ?_
  refine CJ_forget [(0, Value.pointer _), (3, Value.slice _ _ _), (4, Value.int _ _)] (by repeat' (first | exact trivial | refine And.intro rfl ?_)) fun tq0 => ?_
  refine CJ_loop [3, 4, 7, 8, 9, 10, 11, 12, 13, 14, 15, 16, 17, 18, 19, 20, 21, 22] ((⟨fun g => [(3, g.1.2.2.val), (4, .int .i64 g.1.2.1)], fun g => g.1.2.2.L 83 XStep.cells ++ (cblk c x g.1.1 :: []), fun _ => R, fun g => g.1.2.1.toNat⟩ : Head {g : Nat × Int × OwL XStep // g.1 ≤ x.l.length ∧ (0 ≤ g.2.1 ∧ g.2.2.l.length + g.2.1 ≤ 15) ∧ g.2.2.ok 4 XStep.cells ∧ ∀ e ∈ g.2.2.l, StepD e})) (⟨(k0, n0, OwL.nil), hk0, by dsimp only [List.length_nil]; exact ⟨g0, by show ((0 : Nat) : Int) + n0 ≤ 15; omega⟩, OwL.nil_ok, fun e he => (by cases he)⟩) (by repeat' (first | exact trivial | refine And.intro rfl ?_)) (by dsimp only; rw [nil_L, List.nil_append]; exact List.Sublist.refl _) (allR_self _) ?_
  rintro ⟨⟨k1, n, p⟩, hk1, hn, hpk, hpd⟩ junk
  try dsimp only
  dsimp only at hk1 hn hpk hpd
  refine qbi ?_
  refine qaa ?_
  refine qa5 ?_
  refine qaf ?_
  refine q_c (fun hc0 => ?_) (fun hc0 => ?_)
  ·
   refine CJ_skip (seqK_normal (CJ_seq (CJ_block (CJ_region ?_))))
   refine qbm ?_
   refine qa6 ?_
   refine LJ_call rfl (next1 (by repeat (first | apply USeg.here | apply USeg.cons | apply USeg.app)) hx hk1 (by omega)) rfl ?_
   rintro v L' R' ⟨r1, k2, rfl, a1, a1', a1'', hk2, rfl, rfl⟩
   have a1q := a1' (by omega)
   refine qa6 ?_
   refine LJ_call rfl (next1 (by repeat (first | apply USeg.here | apply USeg.cons | apply USeg.app)) hx hk2 (by omega)) rfl ?_
   rintro v L' R' ⟨r2, k3, rfl, a2, a2', a2'', hk3, rfl, rfl⟩
   have a2q := a2' (by omega)
   refine qa6 ?_
   refine LJ_call rfl (next1 (by repeat (first | apply USeg.here | apply USeg.cons | apply USeg.app)) hx hk3 (by omega)) rfl ?_
   rintro v L' R' ⟨r3, k4, rfl, a3, a3', a3'', hk4, rfl, rfl⟩
   have a3q := a3' (by omega)
   refine qa6 ?_
   refine LJ_call rfl (next1 (by repeat (first | apply USeg.here | apply USeg.cons | apply USeg.app)) hx hk4 (by omega)) rfl ?_
   rintro v L' R' ⟨r4, k5, rfl, a4, a4', a4'', hk5, rfl, rfl⟩
   have a4q := a4' (by omega)
   refine LJ_q (yv_build (qs := [(0, (Value.int _ _).cells.toList), (1, (Value.int _ _).cells.toList), (2, (Value.int _ _).cells.toList), (3, (Value.int _ _).cells.toList)]) (out := [_, _, _, _]) tb rfl rfl rfl rfl) rfl ?_
   refine LJ_g (gives_buildSlice (qs := [(0, (Value.agg _).cells.toList)]) (out := [_, _, _, _]) tb rfl rfl rfl rfl rfl rfl rfl) rfl ?_
   rintro v L' R' ⟨b21, rfl, rfl, hR21⟩
   replace hR21 := hR21.symm; subst hR21
   refine LJ_g (gives_append1 (f := XStep.cells) (p := p) (a := ⟨r1, r2, r3, r4⟩) tb rfl rfl rfl rfl (hpk) (by repeat (first | apply OSeg.cons | exact OSeg.here | exact OSeg.last | exact OSeg.at (by assumption) | apply OSeg.app)) (shown_own (by repeat (first | exact zi0 | apply zi1 | apply zi2)) rfl rfl) rfl (by first | omega | (simp only [List.length_cons, List.length_nil, List.length_append]; omega))) rfl ?_
   rintro v L' R' ⟨o22, rfl, hok22, rfl, rfl⟩
   refine qc4 ?_
   refine qcs ?_
   refine qaa ?_
   refine qa9 ?_
   refine qad ?_
   refine qav ?_
   exact loopK_mk ⟨(k5, n - 1, (⟨o22, p.l ++ [⟨r1, r2, r3, r4⟩]⟩ : OwL XStep)), hk5, by dsimp only; rw [List.length_append, List.length_singleton]; omega, hok22, fun e he => by
   rcases List.mem_append.1 he with h | h
   · exact hpd e h
   · rw [List.mem_singleton.1 h, StepD]; dsimp only; omega⟩ (by repeat (first | exact Off.refl | apply Off.upd rfl | apply Off.havoc rfl | apply Off.updL rfl | apply Off.left rfl)) (by repeat' (first | exact trivial | refine And.intro rfl ?_)) (by repeat (first | exact zs0 _ | exact zs1 _ | apply zs2 | apply zs3 | apply zs4 | apply zs5)) (allR_self _) (by dsimp only; omega)
  refine qbk ?_
  refine qbm ?_
  refine qc4 ?_
  refine qa0 ?_
  refine q_r (L' := p.L 83 XStep.cells ++ (cblk c x k1 :: [])) (R' := R) (res1 rfl (rv_tmp (show _ = Value.slice _ _ _ from rfl))) ?_
  exact ⟨p, k1, rfl, hpk, ⟨by omega, hpd⟩, hk1, rfl, rfl⟩
end Go.Proofs.Ytkpfjmibipblhaa
end
