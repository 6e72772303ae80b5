/-
  Statements about chapter 11: where more states are known, bounds prove no less. By an AI agent; no person has read it.
-/
import Derived.Test.YtdnhinkamcfpkaaLaw11c
set_option linter.unusedSimpArgs false
set_option linter.unusedVariables false
namespace Go.Proofs.Ytdnhinkamcfpkaa
open Go.Aw Go
set_option maxRecDepth 20000
attribute [local irreducible] CJ LJ DJ Tri YV Gives seqK blockK loopK retK RV mergeK OwL.L

/-- where a number is not known, it may have become known -/
structure Known (s0 : List Int) (n : Nat → Int) (l : List Int) : Prop where
  len : l.length = s0.length
  get : ∀ j : Nat, j < s0.length → l.getD j 0 = s0.getD j 0 ∨ (s0.getD j 0 = -1 ∧ 0 ≤ l.getD j 0 ∧ l.getD j 0 < n j)
theorem Known.refl {s0 : List Int} {n : Nat → Int} : Known s0 n s0 := ⟨rfl, fun _ _ => .inl rfl⟩
theorem Known.set {s0 l : List Int} {n : Nat → Int} (h : Known s0 n l) {i : Nat} (hi : i < l.length) (hm : l.getD i 0 = -1) {v : Int} (hv : 0 ≤ v ∧ v < n i) : Known s0 n (l.set i v) := by
  have hl := h.len
  refine ⟨by simp [hl], fun j hj => ?_⟩
  rw [getD_setK hi]
  split
  · rename_i e
    subst e
    rcases h.get j hj with h1 | h1
    · exact .inr ⟨by omega, hv⟩
    · omega
  · exact h.get j hj
theorem fitB_of {a : XAir} {s : XSetting} (h : FitOk a s) : fitB a s = true := by
  rw [fitB_len h.lf h.ld, Bool.and_eq_true]
  refine ⟨?_, ?_⟩
  · rw [Option.isNone_iff_eq_none, List.findSome?_eq_none_iff]
    intro x hx
    obtain ⟨i, hi⟩ := List.mem_iff_getElem?.1 hx
    have := h.fan i x hi
    exact if_neg (by omega)
  · rw [Option.isNone_iff_eq_none, List.findSome?_eq_none_iff]
    intro i hi
    have hi2 := List.mem_range.1 hi
    have hd := h.ld
    have g1 := get_D (l := s.doors.l) (k := i) 0 hi2
    have g2 := get_D (l := a.doors.l) (k := i) default (by omega)
    have := h.door i _ _ g1 g2
    rw [doorStBad_at g1 g2]
    exact if_neg (by omega)
structure Better (a : XAir) (s t : XSetting) : Prop where
  fan : Known s.fans.l (fun _ => 3) t.fans.l
  door : Known s.doors.l (fun i => ((a.doors.l.getD i default).rests.l.length : Int)) t.doors.l
theorem Better.fit {a : XAir} {s t : XSetting} (h : Better a s t) (hf : FitOk a s) : FitOk a t := by
  have h1 := h.fan.len
  have h2 := h.door.len
  have h3 := hf.lf
  have h4 := hf.ld
  refine ⟨by omega, by omega, fun i x hx => ?_, fun i x d hx hd => ?_⟩
  · have hl := (List.getElem?_eq_some_iff.1 hx).1
    have e : t.fans.l.getD i 0 = x := getD_some hx
    have hs := hf.fan i _ (get_D 0 (by omega))
    have := h.fan.get i (by omega)
    rw [e] at this
    omega
  · have hl := (List.getElem?_eq_some_iff.1 hx).1
    have e : t.doors.l.getD i 0 = x := getD_some hx
    have ed : a.doors.l.getD i default = d := getD_some hd
    have hs := hf.door i _ d (get_D 0 (by omega)) hd
    have := h.door.get i (by omega)
    rw [e, ed] at this
    omega
theorem Better.within {a : XAir} {s t : XSetting} (h : Better a s t) (hf : FitOk a s) (k q : Int) : Within (innerS a t k q) (innerS a s k q) := by
  have h3 := hf.lf
  have h4 := hf.ld
  refine innerS_within rfl rfl (Within.refl _) (Within.refl _) (fun i hi => ?_) (fun i hi => ?_)
  · rcases h.door.get i (by omega) with e | ⟨e, h1⟩
    · rw [e]; exact Within.refl _
    · rw [e]; exact restS_unknown h1
  · rcases h.fan.get i (by omega) with e | ⟨e, h1⟩
    · rw [e]; exact Within.refl _
    · rw [e]; exact stateS_unknown
theorem Better.low {a : XAir} {s t : XSetting} (h : Better a s t) (ha : AirOk a) (hf : FitOk a s) {k : Nat} (hk : k < a.mine.roads.l.length) (p : Int) : flowLow (innerS a s k) p ≤ flowLow (innerS a t k) p :=
  low_within (fun q _ _ => (h.within hf k q).hi) (flowLow_is ha (by omega) p) (flowLow_is ha (by omega) p)
theorem Better.high {a : XAir} {s t : XSetting} (h : Better a s t) (ha : AirOk a) (hf : FitOk a s) {k : Nat} (hk : k < a.mine.roads.l.length) (p : Int) : flowHigh (innerS a t k) p ≤ flowHigh (innerS a s k) p :=
  high_within (fun q _ _ => (h.within hf k q).lo) (flowHigh_is ha (by omega) p) (flowHigh_is ha (by omega) p)
theorem Better.accept {a : XAir} {s t : XSetting} {b : XBounds} {A : List Bool} (h : Better a s t) (hA : Accept a s b A) : Accept a t b A := by
  have ha := airOk_of hA.ck.h0
  have hf := fitOk_of hA.ck.hf
  refine ⟨⟨hA.ck.h0, fitB_of (h.fit hf), hA.ck.hl, hA.ck.hh, hA.ck.pl, hA.ck.ph⟩, hA.fix, fun i hi hn => ?_⟩
  obtain ⟨n1, n2⟩ := hA.net i hi hn
  have l1 : lowN a s b.high.l (i : Int) ≤ lowN a t b.high.l (i : Int) := sumN_le _ (fun _ _ => ⟨rfl, rfl, rfl⟩) (fun k hk p => h.low ha hf hk p) (fun k hk p => h.high ha hf hk p) _ (Nat.le_refl _)
  have l2 : highN a t b.low.l (i : Int) ≤ highN a s b.low.l (i : Int) := sumN_le _ (fun _ _ => ⟨rfl, rfl, rfl⟩) (fun k hk p => h.high ha hf hk p) (fun k hk p => h.low ha hf hk p) _ (Nat.le_refl _)
  omega
theorem Better.flow {a : XAir} {s t : XSetting} {b : XBounds} {A : List Bool} (h : Better a s t) (ha : AirOk a) (hf : FitOk a s) {k : Nat} (hk : k < a.mine.roads.l.length) : Within (roadFlow a t b A k) (roadFlow a s b A k) := by
  rw [roadFlow, roadFlow]
  split
  · exact Within.refl _
  · split
    · exact ⟨h.low ha hf hk _, h.high ha hf hk _⟩
    · exact Within.refl _

theorem certifyUnknown_law (y : Arr Int) (fan door : Int) (R : List Sl) (hy : CodesR y R) (hfan : I64 fan) (hdoor : I64 door) :
    Tri Try.prog 11 [y.val, .int .i64 fan, .int .i64 door].toArray [] R (fun v L' R' => v = .bool true ∧ [] = L' ∧ R = R') := by
  refine tri_enter 149 Try.call11 Try.func11 rfl rfl rfl ?_
  refine qae ?_
  refine qaz ?_
  refine qam ?_
  refine qbm ?_
  refine LJ_call rfl (new_tri y _ _ hy) rfl ?_
  rintro v L' R' ⟨c, rfl, hx, rfl, rfl⟩
  refine qc1 ?_
  refine qam ?_
  refine qa6 ?_
  refine LJ_call rfl (made1 (.consL .nil) hx (Nat.zero_le _)) rfl ?_
  rintro v L' R' ⟨m, k1, S, rfl, hm, hMA, hif, hid, hk1, rfl, rfl⟩
  simp only [List.append_assoc, List.cons_append, List.nil_append]
  refine LJ_q (yv_move rfl) rfl ?_
  refine qbs ?_
  refine qbs ?_
  refine qbs ?_
  refine qaq ?_
  intro b8
  refine qaq ?_
  intro b9
  refine qaq ?_
  intro b10
  refine qak ?_
  refine qak ?_
  refine qak ?_
  refine qa4 ?_
  refine CJ_made (A := []) hm hMA (fun f hf => (hif f hf).mono fun r hr => inR_self (by simp [hr])) (fun f hf => (hid f hf).mono fun r hr => inR_self (by simp [hr])) fun a s x R1 hMA hA hT hX hR1 => ?_
  refine qb1 ?_
  obtain ⟨_, hae, hF, hri, hfo⟩ := hMA.b
  have hx1 : CodesR (codes300 y) R1 := hx.mono fun r hr => hR1 r (by simp [hr])
  have hR0 : ∀ r ∈ R, InR r R1 := fun r hr => hR1 r (by simp [hr])
  have hnp := hMA.nplaces
  have hnr := hMA.nroads
  have hnf := hMA.nfans
  have hnd := hMA.ndoors
  have hpn := hF.plen
  have hfn := hF.flen
  have hsf := hT.fans
  have hsd := hT.doors
  have had := hA.doors
  have hlf := hfo.lf
  have hld := hfo.ld
  obtain ⟨A, hAA⟩ := airy_ex a.mine
  refine CJ_drawn tb [0, 1, 3, 4, 2, 5, 6, 7, 8] ([Blk.mk b9 _ _]) mixed (by kernel_rfl) (by repeat (first | exact zs0 _ | exact zs1 _ | apply zs2 | apply zs3 | apply zs4 | apply zs5)) ?_
  refine qal ?_
  refine qat ?_
  refine qal ?_
  refine qat ?_
  refine DJ_g (gives_copy (f := icell) (xs := s.fans) tb rfl rfl rfl (by decide) rfl rfl (hsf) (fun _ => rfl) (by omega)) rfl rfl rfl ?_
  rintro v L' R' ⟨o28, rfl, hok28, rfl, rfl⟩
  refine qa1 ?_
  refine DJ_g (gives_copy (f := icell) (xs := s.doors) tb rfl rfl rfl (by decide) rfl rfl (hsd) (fun _ => rfl) (by omega)) rfl rfl rfl ?_
  rintro v L' R' ⟨o31, rfl, hok31, rfl, rfl⟩
  refine qa1 ?_
  refine qdq ?_
  refine qbr ?_
  intro b11
  refine qbg ?_
  refine qc6 ?_
  refine qab ?_
  refine qac ?_
  refine qag ?_
  refine qaa ?_
  refine qa2 ?_
  refine CJ_forget [(1, Value.int _ _), (2, Value.int _ _), (7, Value.pointer _), (8, Value.pointer _), (9, Value.pointer _), (10, Value.pointer _), (11, Value.pointer _), (35, Value.int _ _), (36, Value.int _ _)] (by repeat' (first | exact trivial | refine And.intro rfl ?_)) fun tq0 => ?_
  refine q_p [12, 36, 37, 38, 39, 40, 41, 42, 43, 44, 45, 46, 47, 48, 49, 50, 51] ((⟨fun q => [(36, .int .i64 ((q.1.1 : Nat) : Int))], fun q => ⟨b11, [(⟨o28, s.fans.l⟩ : OwL Int).val, (⟨o31, s.doors.l⟩ : OwL Int).val], 35⟩ :: ((⟨o31, s.doors.l⟩ : OwL Int).L 3 icell ++ ((⟨o28, q.1.2⟩ : OwL Int).L 3 icell ++ (⟨b10, x.cells, 37⟩ :: ⟨b9, s.cells, 35⟩ :: ⟨b8, a.cells, 33⟩ :: cblk c (codes300 y) k1 :: []))), fun _ => R1, fun q => s.fans.l.length - q.1.1⟩ : Head {q : Nat × List Int // q.1 ≤ s.fans.l.length ∧ (⟨o28, q.2⟩ : OwL Int).ok 1 icell ∧ Known s.fans.l (fun _ => 3) q.2})) (⟨(0, s.fans.l), by dsimp only; omega, hok28, .refl⟩) ?_
  rintro ⟨⟨i, l⟩, q1, q2, q3⟩ junk
  try dsimp only
  dsimp only at q1 q2 q3
  have hll := q3.len
  refine qae ?_
  refine qaj ?_
  refine qa4 ?_
  refine q_c (fun hc0 => ?_) (fun hc0 => ?_)
  ·
   have hlg := get_D (l := l) (k := i) 0 (by omega)
   refine qbb ?_
   refine qaa ?_
   refine qad ?_
   refine qam ?_
   refine qab ?_
   refine qac ?_
   refine qaa ?_
   refine LJ_q (yv_index_ow tb ((⟨o28, l⟩ : OwL Int)) _ rfl rfl ((show _ = Value.slice _ _ _ from rfl).trans (by simp only [OwL.val, hll])) rfl (by assumption) (i := i) (by first | rfl | omega | (simp; omega)) (by first | omega | (dsimp only; omega) | (dsimp only; rw [List.length_set]; omega))) rfl ?_
   refine LJ_q (yv_load1_ow tb ((⟨o28, l⟩ : OwL Int)) rfl rfl rfl (by repeat (first | apply OSeg.cons | exact OSeg.here | exact OSeg.last | exact OSeg.at (by assumption) | apply OSeg.app)) (by assumption) (fun _ => rfl) (by assumption) (by rfl)) rfl ?_
   refine qbn ?_
   refine qaf ?_
   refine q_c (fun hc1 => ?_) (fun hc1 => ?_)
   ·
    refine CJ_drawn2 tb [] [0, 1, 2, 3, 4, 5] [6] ([Blk.mk b11 _ _]) _ mixed (by kernel_rfl) (by repeat (first | exact zs0 _ | exact zs1 _ | apply zs2 | apply zs3 | apply zs4 | apply zs5)) (List.Sublist.refl _) ?_
    refine qan ?_
    refine qau ?_
    refine qbf ?_
    refine qbf ?_
    refine DJ3_call rfl (mod_tri _ _ _ _ hfan (by omega)) rfl rfl ?_
    rintro v L' R' ⟨rfl, rfl, rfl⟩
    refine qas ?_
    refine DJ3_q (yv_index_ow tb ((⟨o28, l⟩ : OwL Int)) _ rfl rfl ((show _ = Value.slice _ _ _ from rfl).trans (by simp only [OwL.val, hll])) rfl (by assumption) (i := i) (by first | rfl | omega | (simp; omega)) (by first | omega | (dsimp only; omega) | (dsimp only; rw [List.length_set]; omega))) rfl rfl rfl rfl ?_
    refine qba ?_
    refine DJ_g0 (gives_store1_ow tb ((⟨o28, l⟩ : OwL Int)) (modS fan 3) rfl rfl rfl rfl (by repeat (first | apply OSeg.cons | exact OSeg.here | exact OSeg.last | exact OSeg.at (by assumption) | apply OSeg.app)) (by assumption) (fun _ => rfl) (by assumption) (by decide) (by rfl) (by rfl)) rfl rfl ?_
    rintro v L' R' ⟨rfl, rfl⟩
    refine qa1 ?_
    refine qby ?_
    refine qar ?_
    refine qaa ?_
    refine qav ?_
    exact q_k ⟨(i + 1, l.set i (modS fan 3)), by dsimp only; omega, OwL.len_ok icell_len q2 (by simp), q3.set (by omega) hc1 (modS_bounds (by omega))⟩
   ·
    refine qbj ?_
    refine qar ?_
    refine qaa ?_
    refine qav ?_
    exact q_k ⟨(i + 1, l), by dsimp only; omega, q2, q3⟩
  ·
   refine qcf ?_
   refine qab ?_
   refine qac ?_
   refine qag ?_
   refine qaa ?_
   refine qa2 ?_
   refine CJ_forget [(2, Value.int _ _), (7, Value.pointer _), (8, Value.pointer _), (9, Value.pointer _), (10, Value.pointer _), (11, Value.pointer _), (54, Value.int _ _), (55, Value.int _ _)] (by repeat' (first | exact trivial | refine And.intro rfl ?_)) fun tq1 => ?_
   refine q_p [13, 55, 56, 57, 58, 59, 60, 61, 62, 63, 64, 65, 66, 67, 68, 69, 70, 71, 72, 73, 74, 75, 76, 77] ((⟨fun q => [(55, .int .i64 ((q.1.1 : Nat) : Int))], fun q => ⟨b11, [(⟨o28, s.fans.l⟩ : OwL Int).val, (⟨o31, s.doors.l⟩ : OwL Int).val], 35⟩ :: ((⟨o31, q.1.2⟩ : OwL Int).L 3 icell ++ ((⟨o28, l⟩ : OwL Int).L 3 icell ++ (⟨b10, x.cells, 37⟩ :: ⟨b9, s.cells, 35⟩ :: ⟨b8, a.cells, 33⟩ :: cblk c (codes300 y) k1 :: []))), fun _ => R1, fun q => s.doors.l.length - q.1.1⟩ : Head {q : Nat × List Int // q.1 ≤ s.doors.l.length ∧ (⟨o31, q.2⟩ : OwL Int).ok 1 icell ∧ Known s.doors.l (fun i => ((a.doors.l.getD i default).rests.l.length : Int)) q.2})) (⟨(0, s.doors.l), by dsimp only; omega, hok31, .refl⟩) ?_
   rintro ⟨⟨j, d⟩, u1, u2, u3⟩ junk
   try dsimp only
   dsimp only at u1 u2 u3
   have hdl := u3.len
   refine qae ?_
   refine qaj ?_
   refine qa4 ?_
   refine q_c (fun hc2 => ?_) (fun hc2 => ?_)
   ·
    have hdg := get_D (l := d) (k := j) 0 (by omega)
    have hag := get_D (l := a.doors.l) (k := j) default (by omega)
    have hdo := (hae.door j _ hag).1.len
    refine qbb ?_
    refine qaa ?_
    refine qad ?_
    refine qam ?_
    refine qab ?_
    refine qac ?_
    refine qaa ?_
    refine LJ_q (yv_index_ow tb ((⟨o31, d⟩ : OwL Int)) _ rfl rfl ((show _ = Value.slice _ _ _ from rfl).trans (by simp only [OwL.val, hdl])) rfl (by assumption) (i := j) (by first | rfl | omega | (simp; omega)) (by first | omega | (dsimp only; omega) | (dsimp only; rw [List.length_set]; omega))) rfl ?_
    refine LJ_q (yv_load1_ow tb ((⟨o31, d⟩ : OwL Int)) rfl rfl rfl (by repeat (first | apply OSeg.cons | exact OSeg.here | exact OSeg.last | exact OSeg.at (by assumption) | apply OSeg.app)) (by assumption) (fun _ => rfl) (by assumption) (by rfl)) rfl ?_
    refine qbn ?_
    refine qaf ?_
    refine q_c (fun hc3 => ?_) (fun hc3 => ?_)
    ·
     refine CJ_drawn2 tb [] [0, 1, 2, 3, 4, 5, 6, 7, 8, 9, 10, 11, 12] [13] ([Blk.mk b11 _ _, Blk.mk b8 _ _]) _ mixed (by kernel_rfl) (by repeat (first | exact zs0 _ | exact zs1 _ | apply zs2 | apply zs3 | apply zs4 | apply zs5)) (show List.Sublist (⟨b11, [(⟨o28, s.fans.l⟩ : OwL Int).val, (⟨o31, s.doors.l⟩ : OwL Int).val], 35⟩ :: []) _ from List.Sublist.cons_cons _ (List.nil_sublist _)) ?_
     refine qan ?_
     refine qau ?_
     refine qbf ?_
     refine qbf ?_
     refine qan ?_
     refine qau ?_
     refine qbf ?_
     refine DJ3_q (by first | exact yv_index_ro tb rfl rfl rfl rfl (by first | assumption | exact zr (by simp)) (i := j) (by first | rfl | omega | (simp; omega)) (by omega) | exact yv_index tb rfl rfl rfl rfl (i := j) (by first | rfl | omega | (simp; omega)) (by omega)) rfl rfl rfl rfl ?_
     refine qcv ?_
     refine qci ?_
     refine DJ3_q (yv_len tb rfl rfl rfl) rfl rfl rfl rfl ?_
     refine DJ3_call rfl (mod_tri _ _ _ _ hdoor (by omega)) rfl rfl ?_
     rintro v L' R' ⟨rfl, rfl, rfl⟩
     refine qas ?_
     refine DJ3_q (yv_index_ow tb ((⟨o31, d⟩ : OwL Int)) _ rfl rfl ((show _ = Value.slice _ _ _ from rfl).trans (by simp only [OwL.val, hdl])) rfl (by assumption) (i := j) (by first | rfl | omega | (simp; omega)) (by first | omega | (dsimp only; omega) | (dsimp only; rw [List.length_set]; omega))) rfl rfl rfl rfl ?_
     refine qba ?_
     refine DJ_g0 (gives_store1_ow tb ((⟨o31, d⟩ : OwL Int)) (modS door ((a.doors.l.getD j default).rests.l.length : Int)) rfl rfl rfl rfl (by repeat (first | apply OSeg.cons | exact OSeg.here | exact OSeg.last | exact OSeg.at (by assumption) | apply OSeg.app)) (by assumption) (fun _ => rfl) (by assumption) (by decide) (by rfl) (by rfl)) rfl rfl ?_
     rintro v L' R' ⟨rfl, rfl⟩
     refine qa1 ?_
     refine qby ?_
     refine qar ?_
     refine qaa ?_
     refine qav ?_
     exact q_k ⟨(j + 1, d.set j (modS door ((a.doors.l.getD j default).rests.l.length : Int))), by dsimp only; omega, OwL.len_ok icell_len u2 (by simp), u3.set (by omega) hc3 (modS_bounds (by omega))⟩
    ·
     refine qbj ?_
     refine qar ?_
     refine qaa ?_
     refine qav ?_
     exact q_k ⟨(j + 1, d), by dsimp only; omega, u2, u3⟩
   ·
    refine qc3 ?_
    have ev1 : (⟨o28, s.fans.l⟩ : OwL Int).val = (⟨o28, l⟩ : OwL Int).val := by simp only [OwL.val, hll]
    have ev2 : (⟨o31, s.doors.l⟩ : OwL Int).val = (⟨o31, d⟩ : OwL Int).val := by simp only [OwL.val, hdl]
    rw [ev1, ev2]
    refine CJ_frz1 (A := [_]) (wd := 1) [] (fun _ => rfl) (by decide) u2 (fun s hs => by cases hs) ?_
    refine qb1 ?_
    refine CJ_frz1 (A := [_]) (wd := 1) [] (fun _ => rfl) (by decide) q2 (fun s hs => by cases hs) ?_
    refine qb1 ?_
    obtain ⟨t, hte⟩ : ∃ t : XSetting, t = ⟨(⟨o28, l⟩ : OwL Int).arr, (⟨o31, d⟩ : OwL Int).arr⟩ := ⟨_, rfl⟩
    have hbt : Better a s t := by rw [hte]; exact ⟨q3, u3⟩
    have hU1 : SetR t (isl (⟨o28, l⟩ : OwL Int).arr :: isl (⟨o31, d⟩ : OwL Int).arr :: R1) := by rw [hte]; exact ⟨inR_self (.head _), inR_self (.tail _ (.head _))⟩
    refine CJ_L (show _ = ⟨b11, t.cells, 35⟩ :: (⟨b10, x.cells, 37⟩ :: ⟨b9, s.cells, 35⟩ :: ⟨b8, a.cells, 33⟩ :: cblk c (codes300 y) k1 :: []) by rw [hte]; rfl) ?_
    have hR1' : ∀ r ∈ R1, InR r (isl (⟨o28, l⟩ : OwL Int).arr :: isl (⟨o31, d⟩ : OwL Int).arr :: R1) := fun r hr => inR_self (by simp [hr])
    obtain ⟨R3, hR3e⟩ : ∃ R3, R3 = isl (⟨o28, l⟩ : OwL Int).arr :: isl (⟨o31, d⟩ : OwL Int).arr :: R1 := ⟨_, rfl⟩
    rw [← hR3e] at hU1 hR1' ⊢
    have hA1 := airR_mono hA hR1'
    have hT1 := setR_mono hT hR1'
    have hX1 := stateR_mono hX hR1'
    have hx3 := hx1.mono hR1'
    refine qay ?_
    refine qa6 ?_
    refine qa8 ?_
    refine qbe ?_
    refine qbe ?_
    refine LJ_call rfl (bounds1 (.consB (.consB (.consB (.consB (.consL .nil))))) hx3 hk1 hA1 hT1 hX1 hMA hAA) rfl ?_
    rintro v L' R' ⟨lo, hi, k2, rfl, ⟨h1, h2⟩, ⟨h3, h4⟩, hk2, rfl, rfl⟩
    simp only [List.append_assoc, List.cons_append, List.nil_append]
    refine qaq ?_
    intro b14
    refine qak ?_
    refine qco ?_
    refine CJ_frz1 (A := [_, _, _, _, _]) (wd := 1) [] (fun _ => rfl) (by decide) h2 (fun s hs => by cases hs) ?_
    refine qb1 ?_
    refine CJ_frz1 (A := [_, _, _, _, _]) (wd := 1) [] (fun _ => rfl) (by decide) h1 (fun s hs => by cases hs) ?_
    refine qb1 ?_
    have hR2 : ∀ r ∈ R3, InR r (isl lo.arr :: isl hi.arr :: R3) := fun r hr => inR_self (by simp [hr])
    have hB2 : BoundsR ⟨lo.arr, hi.arr⟩ (isl lo.arr :: isl hi.arr :: R3) := ⟨inR_self (.head _), inR_self (.tail _ (.head _))⟩
    obtain ⟨R2, hR2e⟩ : ∃ R2, R2 = isl lo.arr :: isl hi.arr :: R3 := ⟨_, rfl⟩
    rw [← hR2e] at hR2 hB2 ⊢
    have hA2 := airR_mono hA1 hR2
    have hT2 := setR_mono hT1 hR2
    have hU2 := setR_mono hU1 hR2
    have hmr2 := hA2.roads
    have hRR : ∀ r ∈ R, InR r R2 := fun r hr => ((hR0 r hr).mono hR1').mono hR2
    refine qay ?_
    refine qa8 ?_
    refine qbe ?_
    refine qbe ?_
    refine LJ_call rfl (cert_tri a s ⟨lo.arr, hi.arr⟩ A _ _ hA2 hT2 hB2 (fun _ => hAA)) rfl ?_
    rintro v L' R' ⟨S1, rfl, rfl, rfl⟩
    refine qbq ?_
    refine qaf ?_
    refine q_c (fun hc4 => ?_) (fun hc4 => ?_)
    ·
     refine qae ?_
     refine q_l rfl (awake11_tri _ _) ?_
     refine qaz ?_
     refine qbh ?_
     refine retK_ret (L' := []) (R' := R) (res1 rfl (rv_tmp (show _ = Value.bool _ from rfl))) ?hp ?hL ?hR
     case hp => exact ⟨rfl, rfl, rfl⟩
     case hL => exact List.nil_sublist _
     case hR => exact fun r hr => (hRR r hr).mono fun r hr => inR_self (by simp [hr])
    ·
     have hck : checkS a s ⟨lo.arr, hi.arr⟩ A = 0 := by omega
     have hAc := accept_iff.1 hck
     have hck2 := accept_iff.2 (hbt.accept hAc)
     refine qcl ?_
     refine CJ_drawn tb [0, 1, 2, 4, 5, 6, 3, 7, 8, 9] ([Blk.mk b14 _ _, Blk.mk b11 _ _, Blk.mk b9 _ _, Blk.mk b8 _ _]) mixed (by kernel_rfl) (by repeat (first | exact zs0 _ | exact zs1 _ | apply zs2 | apply zs3 | apply zs4 | apply zs5)) ?_
     refine qbc ?_
     refine qbd ?_
     refine qbd ?_
     refine qbc ?_
     refine qbd ?_
     refine qbd ?_
     refine DJ_call rfl (bflow_tri a s ⟨lo.arr, hi.arr⟩ A _ _ (airR_mono hA2 fun r h => inR_self (by simp [h])) (setR_mono hT2 fun r h => inR_self (by simp [h])) (boundsR_mono hB2 fun r h => inR_self (by simp [h])) (fun _ => hAA)) rfl rfl ?_
     rintro v L' R' ⟨p, S2, rfl, hpk, hpl, rfl, rfl⟩
     refine qas ?_
     refine DJ_call rfl (bflow_tri a t ⟨lo.arr, hi.arr⟩ A _ _ (airR_mono hA2 fun r h => inR_self (by simp [h])) (setR_mono hU2 fun r h => inR_self (by simp [h])) (boundsR_mono hB2 fun r h => inR_self (by simp [h])) (fun _ => hAA)) rfl rfl ?_
     rintro v L' R' ⟨q, S3, rfl, hqk, hql, rfl, rfl⟩
     refine qas ?_
     refine DJ_q (yv_assign (show _ = Value.slice _ _ _ from rfl)) rfl rfl rfl ?_
     refine DJ_q (yv_assign (show _ = Value.slice _ _ _ from rfl)) rfl rfl rfl ?_
     refine DJ_nil (seqK_normal (CJ_seq (CJ_seq ?_)))
     rw [boundFlows, if_pos hck] at hpl
     rw [boundFlows, if_pos hck2] at hql
     have hpn2 : p.l.length = a.mine.roads.l.length := by rw [hpl]; simp
     have hqn2 : q.l.length = a.mine.roads.l.length := by rw [hql]; simp
     refine qay ?_
     refine qa8 ?_
     refine qbe ?_
     refine qbe ?_
     refine LJ_call rfl (cert_tri a t ⟨lo.arr, hi.arr⟩ A _ _ (airR_mono hA2 fun r h => inR_self (by simp [h])) (setR_mono hU2 fun r h => inR_self (by simp [h])) (boundsR_mono hB2 fun r h => inR_self (by simp [h])) (fun _ => hAA)) rfl ?_
     rintro v L' R' ⟨S4, rfl, rfl, rfl⟩
     rw [hck2]
     refine qbq ?_
     refine qah ?_
     apply LJ_or (G := [_, _, _, _, _, _, _]) (j := 5) (cj := 102) rfl rfl (by rfl) rfl (show _ = Value.bool _ from rfl) rfl
     ·
      intro hg6
      replace hg6 := qb hg6
      refine qbm ?_
      refine qag ?_
      refine qab ?_
      refine qab ?_
      refine qac ?_
      refine qag ?_
      refine qbq ?_
      exact qai
     intro junk6
     refine qah ?_
     apply LJ_or (G := [_, _, _, _, _]) (j := 14) (cj := 111) rfl rfl (by rfl) rfl (show _ = Value.bool _ from rfl) rfl
     ·
      intro hg15
      replace hg15 := qb hg15
      refine qbm ?_
      refine qag ?_
      refine qbm ?_
      refine qag ?_
      refine qbq ?_
      exact qai
     intro junk15
     refine qaf ?_
     refine q_c (fun hc5 => ?_) (fun hc5 => ?_)
     ·
      (exfalso; rcases hc5 with (h | h) | h; exact h trivial; omega; omega)
     ·
      refine qbo ?_
      refine qbm ?_
      refine qag ?_
      refine qaa ?_
      refine qa2 ?_
      refine CJ_forget [(15, Value.slice _ _ _), (16, Value.slice _ _ _), (119, Value.int _ _), (120, Value.int _ _)] (by repeat' (first | exact trivial | refine And.intro rfl ?_)) fun tq2 => ?_
      refine q_s [6, 17, 120, 121, 122, 123, 124, 125, 126, 127, 128, 129, 130, 131, 132, 133, 134, 135, 136, 137, 138, 139, 140, 141, 142, 143, 144, 145, 146, 147] (fun g : {k : Nat // k ≤ p.l.length} => [(120, .int .i64 ((g.1 : Nat) : Int))]) (fun g => p.l.length - g.1) (⟨0, by omega⟩) ?_
      rintro ⟨k, hk⟩ junk
      try dsimp only
      refine qae ?_
      refine qaj ?_
      refine qa4 ?_
      refine q_c (fun hc6 => ?_) (fun hc6 => ?_)
      ·
       have g1 : p.l[k]? = some (roadFlow a s ⟨lo.arr, hi.arr⟩ A k) := by rw [hpl, List.getElem?_map, List.getElem?_range (by omega)]; rfl
       have g2 : q.l[k]? = some (roadFlow a t ⟨lo.arr, hi.arr⟩ A k) := by rw [hql, List.getElem?_map, List.getElem?_range (by omega)]; rfl
       obtain ⟨w1, w2⟩ := hbt.flow (b := ⟨lo.arr, hi.arr⟩) (A := A) hae hfo (k := k) (by omega)
       refine qbb ?_
       refine qaa ?_
       refine qad ?_
       refine qa4 ?_
       refine CJ_drawn tb [0, 1, 2, 3, 4, 5, 6, 7, 8, 9, 10, 11, 12, 13, 14, 15, 16, 17, 18, 19, 20, 21, 22, 23] ((q.L 44 XSpan.cells ++ (p.L 44 XSpan.cells ++ []))) mixed (by kernel_rfl) (by repeat (first | exact zs0 _ | exact zs1 _ | apply zs2 | apply zs3 | apply zs4 | apply zs5)) ?_
       refine DJ_q (yv_move (show _ = Value.slice _ _ _ from rfl)) rfl rfl rfl ?_
       refine qao ?_
       refine DJ_q (yv_index_ow tb (q) _ rfl rfl rfl rfl (by assumption) (i := k) (by first | rfl | omega | (simp; omega)) (by first | omega | (dsimp only; omega) | (dsimp only; rw [List.length_set]; omega))) rfl rfl rfl ?_
       refine qce ?_
       refine DJ_q (yv_load1_ow tb (q) rfl rfl rfl (by repeat (first | apply OSeg.cons | exact OSeg.here | exact OSeg.last | exact OSeg.at (by assumption) | apply OSeg.app)) (by assumption) (fun _ => rfl) (by assumption) (by rfl)) rfl rfl rfl ?_
       refine DJ_q (yv_move (show _ = Value.slice _ _ _ from rfl)) rfl rfl rfl ?_
       refine qao ?_
       refine DJ_q (yv_index_ow tb (p) _ rfl rfl rfl rfl (by assumption) (i := k) (by first | rfl | omega | (simp; omega)) (by first | omega | (dsimp only; omega) | (dsimp only; rw [List.length_set]; omega))) rfl rfl rfl ?_
       refine qce ?_
       refine DJ_q (yv_load1_ow tb (p) rfl rfl rfl (by repeat (first | apply OSeg.cons | exact OSeg.here | exact OSeg.last | exact OSeg.at (by assumption) | apply OSeg.app)) (by assumption) (fun _ => rfl) (by assumption) (by rfl)) rfl rfl rfl ?_
       refine DJ_q (yv_lss rfl rfl) rfl rfl rfl ?_
       refine qb2 ?_
       refine DJ_case (k := 134) (show _ = Value.bool _ from rfl) (fun hg11 => ?_) (fun hg11 => ?_)
       ·
        replace hg11 := qb hg11
        exact absurd hg11 (by omega)
       ·
        replace hg11 := qb hg11
        refine DJ_q (yv_move (show _ = Value.slice _ _ _ from rfl)) rfl rfl rfl ?_
        refine qao ?_
        refine DJ_q (yv_index_ow tb (q) _ rfl rfl rfl rfl (by assumption) (i := k) (by first | rfl | omega | (simp; omega)) (by first | omega | (dsimp only; omega) | (dsimp only; rw [List.length_set]; omega))) rfl rfl rfl ?_
        refine qce ?_
        refine DJ_q (yv_load1_ow tb (q) rfl rfl rfl (by repeat (first | apply OSeg.cons | exact OSeg.here | exact OSeg.last | exact OSeg.at (by assumption) | apply OSeg.app)) (by assumption) (fun _ => rfl) (by assumption) (by rfl)) rfl rfl rfl ?_
        refine DJ_q (yv_move (show _ = Value.slice _ _ _ from rfl)) rfl rfl rfl ?_
        refine qao ?_
        refine DJ_q (yv_index_ow tb (p) _ rfl rfl rfl rfl (by assumption) (i := k) (by first | rfl | omega | (simp; omega)) (by first | omega | (dsimp only; omega) | (dsimp only; rw [List.length_set]; omega))) rfl rfl rfl ?_
        refine qce ?_
        refine DJ_q (yv_load1_ow tb (p) rfl rfl rfl (by repeat (first | apply OSeg.cons | exact OSeg.here | exact OSeg.last | exact OSeg.at (by assumption) | apply OSeg.app)) (by assumption) (fun _ => rfl) (by assumption) (by rfl)) rfl rfl rfl ?_
        refine DJ_q (yv_gtr rfl rfl) rfl rfl rfl ?_
        refine qbp ?_
        refine qbu ?_
        refine q_c (fun hc7 => ?_) (fun hc7 => ?_)
        ·
         exact absurd hc7 (by omega)
        ·
         refine qbj ?_
         refine qar ?_
         refine qaa ?_
         refine qav ?_
         exact q_k (⟨k + 1, by omega⟩)
      ·
       refine qbk ?_
       refine q_l rfl (awake11_tri _ _) ?_
       refine qaz ?_
       refine qa0 ?_
       refine retK_ret (L' := []) (R' := R) (res1 rfl (rv_tmp (show _ = Value.bool _ from rfl))) ?hp ?hL ?hR
       case hp => exact ⟨rfl, rfl, rfl⟩
       case hL => exact List.nil_sublist _
       case hR => exact fun r hr => (hRR r hr).mono fun r hr => inR_self (by simp [hr])
end Go.Proofs.Ytdnhinkamcfpkaa
