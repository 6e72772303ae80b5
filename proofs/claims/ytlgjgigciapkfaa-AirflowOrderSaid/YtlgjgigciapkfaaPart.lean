/-
  plan.part. By an AI agent; no person has read it.
-/
import Derived.Test.YtlgjgigciapkfaaPartS
import Derived.Test.YtlgjgigciapkfaaNets
set_option linter.unusedSimpArgs false
set_option linter.unusedVariables false
namespace Go.Proofs.Ytlgjgigciapkfaa
open Go.Aw Go
set_option maxRecDepth 20000
attribute [local irreducible] CJ LJ DJ Tri YV Gives seqK blockK loopK retK RV mergeK OwL.L

theorem CJ_R {P n code t L R R'} {Q : TPost} (h : R = R') (k : CJ P n code t L R' Q) : CJ P n code t L R Q := h ▸ k
theorem lb_get {f : List Int} {v : Nat} (h : v < f.length) : f[v]? = some (lb f v) := get_D _ h
/-- the last one is taken off an own slice -/
theorem shrink_ok {g cap : Nat} {spare : List Value} {l : List Int} {x : Int} (h : (⟨.own g cap spare, l ++ [x]⟩ : OwL Int).ok 1 icell) : (⟨.own g cap (icell x ++ spare), l⟩ : OwL Int).ok 1 icell := by
  obtain ⟨h1, h2, h3, h4⟩ := h
  dsimp only [] at h1 h2 h3 h4
  simp only [List.length_append, List.length_singleton] at h2
  refine ⟨by rw [rows_length (wd := 1) (fun _ => rfl)], by dsimp only; omega, h3, ?_⟩
  rw [← h4]
  simp [List.flatMap_append, List.append_assoc]
theorem shrink_L {g cap : Nat} {spare : List Value} {T : TypeId} {l : List Int} {x : Int} : (⟨.own g cap spare, l ++ [x]⟩ : OwL Int).L T icell = (⟨.own g cap (icell x ++ spare), l⟩ : OwL Int).L T icell := by
  simp [OwL.L, Ow.L, List.flatMap_append, List.append_assoc]

theorem part_tri (m : XMine) (L : List Blk) (R : List Sl) (hm : MineR m R) (hok : MineOk m) :
    Tri Try.prog 170 [m.val].toArray L R (fun w L' R' => ∃ (p : OwL Int) (n : Nat) (S : List Sl), w = .tuple #[p.val, .int .i64 n] ∧ p.ok 1 icell ∧ PartIs m p.l n ∧ p.L 3 icell ++ L = L' ∧ S ++ R = R') := by
  have hmr := hm.roads
  have hmp := hm.places
  have hnp := hok.places
  have hnr := hok.roads
  refine tri_enter 127 Try.call170 Try.func170 rfl rfl rfl ?_
  refine qae ?_
  refine qax ?_
  intro b1
  refine qc4 ?_
  refine qad ?_
  refine qam ?_
  refine qab ?_
  refine qac ?_
  refine qag ?_
  refine qc7 ?_
  rintro v L' R' ⟨b18, rfl, rfl, hR18⟩
  replace hR18 := hR18.symm; subst hR18
  refine qc4 ?_
  refine qaw ?_
  refine qab ?_
  refine qac ?_
  refine qag ?_
  refine qaa ?_
  refine qa2 ?_
  refine CJ_forget [(1, Value.pointer _), (4, Value.slice _ _ _), (20, Value.slice _ _ _), (21, Value.int _ _), (22, Value.int _ _)] (by repeat' (first | exact trivial | refine And.intro rfl ?_)) fun tq0 => ?_
  refine CJ_loop [6, 22, 23, 24, 25, 26, 27, 28, 29, 30, 31, 32, 33, 34, 35, 36, 37, 38, 39, 40, 41, 42, 43, 44, 45, 46, 47, 48, 49, 50, 51, 52, 53, 54, 55] ((⟨fun q => [(22, .int .i64 ((q.1.1 : Nat) : Int))], fun q => ⟨b18, q.1.2.flatMap hcell, 38⟩ :: ⟨b1, m.cells, 26⟩ :: (q.1.2.flatMap (OwL.L 3 icell) ++ L), fun _ => R, fun q => m.roads.l.length - q.1.1⟩ : Head {q : Nat × List (OwL Int) // q.1 ≤ m.roads.l.length ∧ NB m q.1 q.2})) (⟨(0, List.replicate m.places.l.length OwL.nil), by dsimp only; omega, NB.zero m⟩) (by repeat' (first | exact trivial | refine And.intro rfl ?_)) (by dsimp only; rw [flat_nil, ← zrep_nil]; exact List.Sublist.refl _) (allR_self _) ?_
  rintro ⟨⟨k, G⟩, hk, hG⟩ junk
  try dsimp only
  dsimp only at hk hG
  refine qae ?_
  refine qaj ?_
  refine qa4 ?_
  refine q_c (fun hc0 => ?_) (fun hc0 => ?_)
  ·
   have hr := get_D (l := m.roads.l) (k := k) default (by omega)
   have hro := hok.road _ _ hr
   have hr1 := hro.fr
   have hr2 := hro.to
   have hr3 := hro.ne
   have hGl := hG.len
   have hg1 : (m.roads.l.getD k default).fr.toNat < G.length := by omega
   have hg2 : (m.roads.l.getD k default).to.toNat < G.length := by omega
   obtain ⟨p, hp⟩ := get_some hg1
   obtain ⟨q, hq⟩ := get_some hg2
   have hpk := hG.ok _ _ hp
   have hqk := hG.ok _ _ hq
   have hpl := nearTo_length m (m.roads.l.getD k default).fr.toNat k
   have hql := nearTo_length m (m.roads.l.getD k default).to.toNat k
   rw [← hpk.2] at hpl
   rw [← hqk.2] at hql
   have hne : (m.roads.l.getD k default).fr.toNat ≠ (m.roads.l.getD k default).to.toNat := by omega
   refine qbb ?_
   refine qa3 ?_
   refine qc8 ?_
   refine qaq ?_
   intro b6
   refine qak ?_
   refine qam ?_
   refine qab ?_
   refine qac ?_
   refine qb4 ?_
   refine qaf ?_
   refine q_c (fun hc1 => ?_) (fun hc1 => ?_)
   ·
    refine CJ_seq ?_
    refine CJ_drawn2 tb [29, 30, 31] [0, 1, 2, 3, 4, 5, 6, 7, 8, 9, 10] [11, 12, 13] ([Blk.mk b6 _ _, Blk.mk b18 _ _]) _ mixed (by kernel_rfl) (by repeat (first | exact zs0 _ | exact zs1 _ | apply zs2 | apply zs3 | apply zs4 | apply zs5)) (by (repeat (first | apply List.Sublist.cons (a := Blk.mk b18 _ _) | apply List.Sublist.cons_cons)); exact List.Sublist.refl _) ?_
    refine DJ3_ql (yv_move (show _ = Value.slice _ _ _ from rfl)) rfl rfl rfl rfl ?_
    refine qcp ?_
    refine qcu ?_
    refine qct ?_
    refine qan ?_
    refine qau ?_
    refine DJ3_q (yv_index tb rfl rfl rfl rfl (i := (m.roads.l.getD k default).fr.toNat) (by first | rfl | omega | (simp; omega)) (by omega)) rfl rfl rfl rfl ?_
    refine qcr ?_
    refine qan ?_
    refine qau ?_
    refine qc9 ?_
    rintro v L' R' ⟨b39, rfl, rfl, hR39⟩
    replace hR39 := hR39.symm; subst hR39
    refine qa1 ?_
    refine qba ?_
    refine DJ_g (gives_append1 (f := icell) (a := (m.roads.l.getD k default).to) tb rfl rfl rfl rfl (hpk.1) (by repeat (first | apply OSeg.cons | exact OSeg.here | exact OSeg.last | exact OSeg.at (by assumption) | apply OSeg.app)) (shown_own (by repeat (first | exact zi0 | apply zi1 | apply zi2)) rfl rfl) rfl (by first | omega | (simp only [List.length_cons, List.length_nil, List.length_append]; omega))) rfl rfl rfl ?_
    rintro v L' R' ⟨o40, rfl, hok40, rfl, rfl⟩
    refine qa1 ?_
    refine DJ_q (yv_index tb rfl rfl rfl rfl (i := (m.roads.l.getD k default).fr.toNat) (by first | rfl | omega | (simp; omega)) (by omega)) rfl rfl rfl ?_
    refine DJ_store1 (v := Value.slice _ _ _) rfl rfl rfl rfl (by repeat (first | apply zu0 | apply zu1 | apply zu2)) (by exact rcell_fit (fun _ => rfl) (by assumption) (by decide)) (by exact rcell_set (x' := ⟨o40, p.l ++ [(m.roads.l.getD k default).to]⟩) (fun _ => rfl) (by decide) (by assumption) (by rfl)) (by rfl) (by repeat (first | exact zs0 _ | exact zs1 _ | apply zs2 | apply zs3 | apply zs4 | apply zs5)) ?_
    refine qbu ?_
    have hq' : (G.set (m.roads.l.getD k default).fr.toNat ⟨o40, p.l ++ [(m.roads.l.getD k default).to]⟩)[(m.roads.l.getD k default).to.toNat]? = some q := by rw [List.getElem?_set_ne hne]; exact hq
    refine CJ_drawn2 tb [42, 43, 44] [0, 1, 2, 3, 4, 5, 6, 7, 8, 9, 10] [11, 12, 13] ([Blk.mk b6 _ _, Blk.mk b18 _ _]) _ mixed (by kernel_rfl) (by repeat (first | exact zs0 _ | exact zs1 _ | apply zs2 | apply zs3 | apply zs4 | apply zs5)) (by (repeat (first | apply List.Sublist.cons (a := Blk.mk b18 _ _) | apply List.Sublist.cons_cons)); exact List.Sublist.refl _) ?_
    refine DJ3_ql (yv_move (show _ = Value.slice _ _ _ from rfl)) rfl rfl rfl rfl ?_
    refine qcp ?_
    refine qcu ?_
    refine qct ?_
    refine qan ?_
    refine qau ?_
    refine DJ3_q (yv_index tb rfl rfl rfl rfl (i := (m.roads.l.getD k default).to.toNat) (by first | rfl | omega | (simp; omega)) (by omega)) rfl rfl rfl rfl ?_
    refine qcr ?_
    refine qan ?_
    refine qau ?_
    refine qc9 ?_
    rintro v L' R' ⟨b52, rfl, rfl, hR52⟩
    replace hR52 := hR52.symm; subst hR52
    refine qa1 ?_
    refine qba ?_
    refine DJ_g (gives_append1 (f := icell) (a := (m.roads.l.getD k default).fr) tb rfl rfl rfl rfl (hqk.1) (by repeat (first | apply OSeg.cons | exact OSeg.here | exact OSeg.last | exact OSeg.at (by assumption) | apply OSeg.app)) (shown_own (by repeat (first | exact zi0 | apply zi1 | apply zi2)) rfl rfl) rfl (by first | omega | (simp only [List.length_cons, List.length_nil, List.length_append]; omega))) rfl rfl rfl ?_
    rintro v L' R' ⟨o53, rfl, hok53, rfl, rfl⟩
    refine qa1 ?_
    refine DJ_q (yv_index tb rfl rfl rfl rfl (i := (m.roads.l.getD k default).to.toNat) (by first | rfl | omega | (simp; omega)) (by omega)) rfl rfl rfl ?_
    refine DJ_store1 (v := Value.slice _ _ _) rfl rfl rfl rfl (by repeat (first | apply zu0 | apply zu1 | apply zu2)) (by exact rcell_fit (fun _ => rfl) (by assumption) (by decide)) (by exact rcell_set (x' := ⟨o53, q.l ++ [(m.roads.l.getD k default).fr]⟩) (fun _ => rfl) (by decide) (by assumption) (by rfl)) (by rfl) (by repeat (first | exact zs0 _ | exact zs1 _ | apply zs2 | apply zs3 | apply zs4 | apply zs5)) ?_
    refine qby ?_
    refine qar ?_
    refine qaa ?_
    refine qav ?_
    exact q_k ⟨(k + 1, _), by dsimp only; omega, hG.next (by simpa using hc1) (by omega) (by omega) hne hp hq hok40 hok53⟩
   ·
    refine qbj ?_
    refine qar ?_
    refine qaa ?_
    refine qav ?_
    exact q_k ⟨(k + 1, G), by dsimp only; omega, hG.stay (by simpa using hc1)⟩
  ·
   obtain rfl : k = m.roads.l.length := by omega
   refine qc3 ?_
   have hGl := hG.len
   refine CJ_frzAll0 (A := [_, _]) (wd := 1) (fun _ => rfl) (by decide) (fun p hp => ?okG) fun S2 hS2 => ?_
   case okG => obtain ⟨r, hr⟩ := List.mem_iff_getElem?.1 hp; exact (hG.ok r p hr).1
   refine qb1 ?_
   refine CJ_frzB (A := []) (wd := 1) (len := (G.map OwL.arr).length) (cap := m.places.l.length) (rows := (G.map OwL.arr).map acell) (subs := (G.map OwL.arr).map isl) (by simp) (by simp; omega) (by omega) (fun r hr => ?w1) (by decide) ?cs1 (fun x hx => ?subG) ?_
   case w1 => obtain ⟨y, _, rfl⟩ := List.mem_map.1 hr; rfl
   case cs1 =>
     rw [rows_map, List.flatMap_map, List.take_of_length_le (by rw [rows_length (wd := 1) (fun _ => rfl)]; simp)]
     rfl
   case subG =>
     obtain ⟨y, hy, rfl⟩ := List.mem_map.1 hx
     obtain ⟨p, hp, rfl⟩ := List.mem_map.1 hy
     exact (hS2 p hp).mono fun r h => inR_self (by simp [h])
   refine qb1 ?_
   obtain ⟨NR, hNR⟩ : ∃ NR : Arr (Arr Int), NR = ⟨some ⟨b18, 0, none⟩, m.places.l.length, G.map OwL.arr⟩ := ⟨_, rfl⟩
   have hNl : NR.l.length = m.places.l.length := by rw [hNR]; simp [hGl]
   have hNx : ∀ (v : Nat) (x : Arr Int), NR.l[v]? = some x → x.l = nearTo m v m.roads.l.length := fun v x hx => by
     rw [hNR] at hx
     dsimp only at hx
     rw [List.getElem?_map] at hx
     obtain ⟨p, hp, rfl⟩ := Option.map_eq_some_iff.1 hx
     exact (hG.ok v p hp).2
   have hval : Value.slice (some ⟨b18, 0, none⟩) m.places.l.length m.places.l.length = NR.val := by rw [hNR, Arr.val, List.length_map, hGl]
   obtain ⟨R2, hR2⟩ : ∃ R2, R2 = aasl NR :: (S2 ++ R) := ⟨_, rfl⟩
   have hNI : InR (aasl NR) R2 := by rw [hR2]; exact inR_self (.head _)
   have hmp2 : InR (psl m.places) R2 := by rw [hR2]; exact hmp.mono fun r h => inR_self (by simp [h])
   rw [hval]
   refine CJ_R (show _ = R2 by rw [hR2, hNR]) ?_
   refine qay ?_
   refine qab ?_
   refine qac ?_
   refine qag ?_
   refine qc7 ?_
   rintro v L' R' ⟨b59, rfl, rfl, hR59⟩
   replace hR59 := hR59.symm; subst hR59
   refine qc4 ?_
   refine qaw ?_
   refine qbm ?_
   refine qag ?_
   refine qaa ?_
   refine qa2 ?_
   refine CJ_forget [(4, Value.slice _ _ _), (7, Value.slice _ _ _), (61, Value.int _ _), (62, Value.int _ _)] (by repeat' (first | exact trivial | refine And.intro rfl ?_)) fun tq1 => ?_
   refine CJ_L (made_ow (f := icell) (x := 0) rfl _) ?_
   refine q_p [8, 62, 63, 64, 65, 66, 67, 68] ((⟨fun q => [(62, .int .i64 ((q.1.1 : Nat) : Int))], fun q => (⟨.own b59 m.places.l.length [], q.1.2⟩ : OwL Int).L 3 icell ++ (⟨b1, m.cells, 26⟩ :: L), fun _ => R2, fun q => m.places.l.length - q.1.1⟩ : Head {q : Nat × List Int // q.1 ≤ m.places.l.length ∧ q.2.length = m.places.l.length ∧ ∀ j : Nat, j < q.1 → q.2[j]? = some (-1)})) (⟨(0, List.replicate m.places.l.length 0), by dsimp only; omega, by simp, fun j hj => by omega⟩) ?_
   rintro ⟨⟨i, f⟩, q1, hfl, q3⟩ junk
   try dsimp only
   dsimp only at q1 hfl q3
   have hkf : (⟨.own b59 m.places.l.length [], f⟩ : OwL Int).ok 1 icell := by have := made_ok (f := icell) (wd := 1) (b := b59) (n := m.places.l.length) (x := 0) (fun _ => rfl) (by simp only [maxLen]; omega); exact OwL.len_ok (fun _ => rfl) this (by simp; exact hfl)
   refine qae ?_
   refine qaj ?_
   refine qa4 ?_
   refine q_c (fun hc2 => ?_) (fun hc2 => ?_)
   ·
    have hfg := lb_get (f := f) (v := i) (by omega)
    refine qbb ?_
    refine qaa ?_
    refine qad ?_
    refine LJ_nil (seqK_normal (CJ_region ?_))
    refine qbm ?_
    refine qaa ?_
    refine LJ_q (yv_index_ow tb ((⟨.own b59 m.places.l.length [], f⟩ : OwL Int)) _ rfl rfl ((show _ = Value.slice _ _ _ from rfl).trans (own_val hfl)) rfl (by assumption) (i := i) (by first | rfl | omega | (simp; omega)) (by first | omega | (dsimp only; omega) | (dsimp only; rw [List.length_set]; omega))) rfl ?_
    refine LJ_g0 (gives_store1_ow tb ((⟨.own b59 m.places.l.length [], f⟩ : OwL Int)) (-1) rfl rfl rfl rfl (by repeat (first | apply OSeg.cons | exact OSeg.here | exact OSeg.last | exact OSeg.at (by assumption) | apply OSeg.app)) (by assumption) (fun _ => rfl) (by assumption) (by decide) (by rfl) (by rfl)) ?_
    rintro v L' R' ⟨rfl, rfl⟩
    refine qcs ?_
    refine qar ?_
    refine qaa ?_
    refine qav ?_
    exact loopK_mk ⟨(i + 1, f.set i (-1)), by dsimp only; omega, by simp; exact hfl, fun j hj => by
    rw [List.getElem?_set]
    split
    · rw [if_pos (by omega)]
    · exact q3 j (by dsimp only at hj; omega)⟩ (by repeat (first | exact Off.refl | apply Off.upd rfl | apply Off.havoc rfl | apply Off.updL rfl | apply Off.left rfl)) (by repeat' (first | exact trivial | refine And.intro rfl ?_)) (by repeat (first | exact zs0 _ | exact zs1 _ | apply zs2 | apply zs3 | apply zs4 | apply zs5)) (allR_self _) (by dsimp only; omega)
   ·
    obtain rfl : i = m.places.l.length := by omega
    have hf1 : f = List.replicate m.places.l.length (-1) := by
      refine List.ext_getElem? fun j => ?_
      rcases Nat.lt_or_ge j m.places.l.length with h | h
      · rw [q3 j h, List.getElem?_replicate, if_pos h]
      · rw [List.getElem?_eq_none (by omega), List.getElem?_eq_none (by simp; exact h)]
    have hL0 : Lab m f ((0 : Nat) : Int) := by rw [hf1]; exact Lab.init
    refine qbk ?_
    refine qad ?_
    refine qaw ?_
    refine qbm ?_
    refine qag ?_
    refine qaa ?_
    refine qa2 ?_
    refine CJ_forget [(4, Value.slice _ _ _), (7, Value.slice _ _ _), (9, Value.int _ _), (70, Value.int _ _), (71, Value.int _ _)] (by repeat' (first | exact trivial | refine And.intro rfl ?_)) fun tq2 => ?_
    refine q_p [9, 10, 11, 12, 14, 71, 72, 73, 74, 75, 76, 77, 78, 79, 80, 81, 82, 83, 84, 85, 86, 87, 88, 89, 90, 91, 92, 93, 94, 95, 96, 97, 98, 99, 100, 101, 102, 103, 104, 105, 106, 107, 108, 109, 110, 111, 112, 113, 114, 115, 116, 117, 118, 119, 120, 121, 122, 123, 124] ((⟨fun q => [(71, .int .i64 ((q.1.1 : Nat) : Int)), (9, .int .i64 ((q.1.2.1 : Nat) : Int))], fun q => (⟨.own b59 m.places.l.length [], q.1.2.2⟩ : OwL Int).L 3 icell ++ (⟨b1, m.cells, 26⟩ :: L), fun _ => R2, fun q => m.places.l.length - q.1.1⟩ : Head {q : Nat × Nat × List Int // q.1 ≤ m.places.l.length ∧ Lab m q.2.2 (q.2.1 : Int) ∧ q.2.1 ≤ q.1 ∧ ∀ j : Nat, j < q.1 → 0 ≤ lb q.2.2 j})) (⟨(0, 0, f), by dsimp only; omega, hL0, by dsimp only; omega, fun j hj => by dsimp only at hj; omega⟩) ?_
    rintro ⟨⟨i, n, f⟩, q1, hLb, q3, q4⟩ junk
    try dsimp only
    dsimp only at q1 hLb q3 q4
    have hfl := hLb.len
    have hkf : (⟨.own b59 m.places.l.length [], f⟩ : OwL Int).ok 1 icell := by have := made_ok (f := icell) (wd := 1) (b := b59) (n := m.places.l.length) (x := 0) (fun _ => rfl) (by simp only [maxLen]; omega); exact OwL.len_ok (fun _ => rfl) this (by simp; exact hfl)
    refine qae ?_
    refine qaj ?_
    refine qa4 ?_
    refine q_c (fun hc3 => ?_) (fun hc3 => ?_)
    ·
     have hfg := lb_get (f := f) (v := i) (by omega)
     refine qbb ?_
     refine qaa ?_
     refine qad ?_
     refine qaw ?_
     refine qbm ?_
     refine qaa ?_
     refine LJ_q (yv_index_ow tb ((⟨.own b59 m.places.l.length [], f⟩ : OwL Int)) _ rfl rfl ((show _ = Value.slice _ _ _ from rfl).trans (own_val hfl)) rfl (by assumption) (i := i) (by first | rfl | omega | (simp; omega)) (by first | omega | (dsimp only; omega) | (dsimp only; rw [List.length_set]; omega))) rfl ?_
     refine LJ_q (yv_load1_ow tb ((⟨.own b59 m.places.l.length [], f⟩ : OwL Int)) rfl rfl rfl (by repeat (first | apply OSeg.cons | exact OSeg.here | exact OSeg.last | exact OSeg.at (by assumption) | apply OSeg.app)) (by assumption) (fun _ => rfl) (by assumption) (by rfl)) rfl ?_
     refine qbz ?_
     refine qaf ?_
     refine q_c (fun hc4 => ?_) (fun hc4 => ?_)
     ·
      refine CJ_exit (seqK_exit (blockK_exit (seqK_normal (CJ_region ?_))))
      refine qar ?_
      refine qaa ?_
      refine qav ?_
      exact loopK_mk ⟨(i + 1, n, f), by dsimp only; omega, hLb, by dsimp only; omega, fun j hj => by
      rcases Nat.lt_or_ge j i with h | h
      · exact q4 j h
      · obtain rfl : j = i := by dsimp only at hj; omega
        omega⟩ (by repeat (first | exact Off.refl | apply Off.upd rfl | apply Off.havoc rfl | apply Off.updL rfl | apply Off.left rfl)) (by repeat' (first | exact trivial | refine And.intro rfl ?_)) (by repeat (first | exact zs0 _ | exact zs1 _ | apply zs2 | apply zs3 | apply zs4 | apply zs5)) (allR_self _) (by dsimp only; omega)
     ·
      have hn0 : lb f i < 0 := by omega
      have hD0 := hLb.start (i := i) (by omega) hn0
      have hneg := nNeg_set (f := f) (q := i) (n := (n : Int)) (by omega) hn0 (by omega)
      have hnf : nNeg f ≤ f.length := List.countP_le_length
      refine qbv ?_
      refine qbm ?_
      refine qaa ?_
      refine qaa ?_
      refine LJ_q (yv_index_ow tb ((⟨.own b59 m.places.l.length [], f⟩ : OwL Int)) _ rfl rfl ((show _ = Value.slice _ _ _ from rfl).trans (own_val hfl)) rfl (by assumption) (i := i) (by first | rfl | omega | (simp; omega)) (by first | omega | (dsimp only; omega) | (dsimp only; rw [List.length_set]; omega))) rfl ?_
      refine LJ_g0 (gives_store1_ow tb ((⟨.own b59 m.places.l.length [], f⟩ : OwL Int)) ((n : Int)) rfl rfl rfl rfl (by repeat (first | apply OSeg.cons | exact OSeg.here | exact OSeg.last | exact OSeg.at (by assumption) | apply OSeg.app)) (by assumption) (fun _ => rfl) (by assumption) (by decide) (by rfl) (by rfl)) ?_
      rintro v L' R' ⟨rfl, rfl⟩
      refine qaw ?_
      refine qaa ?_
      refine qcx ?_
      rintro v L' R' ⟨b84, rfl, rfl, hR84⟩
      replace hR84 := hR84.symm; subst hR84
      refine qc4 ?_
      refine qa2 ?_
      refine CJ_forgetW [9, 10, 11, 12, 14, 71, 72, 73, 74, 75, 76, 77, 78, 79, 80, 81, 82, 83, 84, 85, 86, 87, 88, 89, 90, 91, 92, 93, 94, 95, 96, 97, 98, 99, 100, 101, 102, 103, 104, 105, 106, 107, 108, 109, 110, 111, 112, 113, 114, 115, 116, 117, 118, 119, 120, 121, 122, 123, 124] (by repeat (first | apply Off.upd rfl | apply Off.havoc rfl | refine Off.updL (t' := havoc _ _ _) rfl ?_ | exact Off.refl)) [(9, Value.int _ _), (11, Value.slice _ _ _), (71, Value.int _ _)] (by repeat' (first | exact trivial | refine And.intro rfl ?_)) fun tq3 => ?_
      have hT0 : (⟨.own b84 1 [], [(i : Int)]⟩ : OwL Int).ok 1 icell := ⟨rfl, Nat.le_refl _, by simp only [maxLen]; omega, rfl⟩
      refine CJ_L (L' := (⟨.own b84 1 [], [(i : Int)]⟩ : OwL Int).L 3 icell ++ ((⟨.own b59 m.places.l.length [], f.set i (n : Int)⟩ : OwL Int).L 3 icell ++ (⟨b1, m.cells, 26⟩ :: L))) (by simp only [OwL.L, Ow.L, List.flatMap_cons, List.flatMap_nil, icell, List.append_nil, List.cons_append, List.nil_append]) ?_
      refine q_p [11, 12, 14, 85, 86, 87, 88, 89, 90, 91, 92, 93, 94, 95, 96, 97, 98, 99, 100, 101, 102, 103, 104, 105, 106, 107, 108, 109, 110, 111, 112, 113, 114, 115, 116, 117, 118, 119, 120, 121] ((⟨fun q => [(11, q.1.2.val)], fun q => q.1.2.L 3 icell ++ ((⟨.own b59 m.places.l.length [], q.1.1⟩ : OwL Int).L 3 icell ++ (⟨b1, m.cells, 26⟩ :: L)), fun _ => R2, fun q => 2 * nNeg q.1.1 + q.1.2.l.length⟩ : Head {q : List Int × OwL Int // q.2.ok 1 icell ∧ Dfs m f q.1 (n : Int) i q.2.l (fun _ => False) ∧ 2 * nNeg q.1 + q.2.l.length ≤ 2 * m.places.l.length})) (⟨(f.set i (n : Int), ⟨.own b84 1 [], [(i : Int)]⟩), hT0, hD0, by dsimp only; simp only [List.length_singleton]; omega⟩) ?_
      rintro ⟨⟨f1, ⟨o1, l1⟩⟩, hT, hD, hN⟩ junk
      try dsimp only
      dsimp only at hT hD hN
      refine qbi ?_
      refine qbm ?_
      refine qag ?_
      refine qa5 ?_
      refine qaf ?_
      refine q_c (fun hc5 => ?_) (fun hc5 => ?_)
      ·
       have hpos : 0 < l1.length := by
         have := hc5
         (try simp only [OwL.val] at this)
         omega
       obtain ⟨g, cap, spare, ho⟩ := OwL.own_of hT (i := 0) hpos
       dsimp only at ho
       subst ho
       obtain ⟨l2, x, hlx⟩ : ∃ l2 x, l1 = l2 ++ [x] := ⟨l1.dropLast, l1.getLast (by intro h; rw [h] at hpos; simp at hpos), (List.dropLast_concat_getLast _).symm⟩
       subst hlx
       obtain ⟨v, hxv, hv1, hv2⟩ := hD.tds x (by simp)
       subst hxv
       have hl2 : (l2 ++ [(v : Int)]).length = l2.length + 1 := by simp
       have hgx : (l2 ++ [(v : Int)])[l2.length]? = some (v : Int) := by simp
       have hTv : (⟨.own g cap spare, l2 ++ [(v : Int)]⟩ : OwL Int).val = Value.slice (some ⟨g, 0, none⟩) (l2.length + 1) cap := by simp [OwL.val, Ow.addr, Ow.cap]
       rw [hTv]
       have hT2 := shrink_ok hT
       have hcap := hT.2.1
       dsimp only at hcap
       have hvl : v < m.places.l.length := by
         have h1 := hD.len
         have h2 := lb_lt (f := f1) (v := v) (by omega)
         omega
       obtain ⟨y, hy⟩ := get_some (l := NR.l) (k := v) (by omega)
       have hyx := hNx v y hy
       have hyI := InR.arr hNI hy
       have hyl : y.l.length ≤ m.roads.l.length := by rw [hyx]; exact nearTo_length m v _
       refine CJ_skip (seqK_normal (CJ_block (CJ_seq (CJ_region ?_))))
       refine qbm ?_
       refine qbm ?_
       refine qag ?_
       refine qa9 ?_
       refine LJ_q (yv_index_ow tb ((⟨.own g cap spare, l2 ++ [(v : Int)]⟩ : OwL Int)) _ rfl rfl ((show _ = Value.slice _ _ _ from rfl).trans hTv.symm) rfl (by assumption) (i := l2.length) (by first | rfl | omega | (simp; omega)) (by first | omega | (dsimp only; omega) | (dsimp only; rw [List.length_set]; omega))) rfl ?_
       refine LJ_q (yv_load1_ow tb ((⟨.own g cap spare, l2 ++ [(v : Int)]⟩ : OwL Int)) rfl rfl rfl (by repeat (first | apply OSeg.cons | exact OSeg.here | exact OSeg.last | exact OSeg.at (by assumption) | apply OSeg.app)) (by assumption) (fun _ => rfl) (by assumption) (by rfl)) rfl ?_
       refine qad ?_
       refine qam ?_
       refine qbm ?_
       refine qbm ?_
       refine qag ?_
       refine qa9 ?_
       refine LJ_q (yv_slice_h tb rfl rfl rfl rfl (n := l2.length) (by first | rfl | omega | (simp; omega)) (by omega)) rfl ?_
       refine qc4 ?_
       refine qa4 ?_
       refine CJ_L (by rw [shrink_L]) ?_
       refine qay ?_
       refine qbm ?_
       refine qaa ?_
       refine LJ_q (by first | exact yv_index_ro tb rfl rfl rfl rfl (by first | assumption | exact zr (by simp)) (i := v) (by first | rfl | omega | (simp; omega)) (by omega) | exact yv_index tb rfl rfl rfl rfl (i := v) (by first | rfl | omega | (simp; omega)) (by omega)) rfl ?_
       refine qa7 ?_
       refine qag ?_
       refine qaa ?_
       refine qa2 ?_
       refine CJ_forgetW [11, 12, 14, 85, 86, 87, 88, 89, 90, 91, 92, 93, 94, 95, 96, 97, 98, 99, 100, 101, 102, 103, 104, 105, 106, 107, 108, 109, 110, 111, 112, 113, 114, 115, 116, 117, 118, 119, 120, 121] (by repeat (first | apply Off.upd rfl | apply Off.havoc rfl | refine Off.updL (t' := havoc _ _ _) rfl ?_ | exact Off.refl)) [(11, Value.slice _ _ _), (102, Value.slice _ _ _), (103, Value.int _ _), (104, Value.int _ _)] (by repeat' (first | exact trivial | refine And.intro rfl ?_)) fun tq4 => ?_
       refine q_p [11, 14, 104, 105, 106, 107, 108, 109, 110, 111, 112, 113, 114, 115, 116, 117, 118, 119, 120, 121] ((⟨fun q => [(104, .int .i64 ((q.1.1 : Nat) : Int)), (11, q.1.2.2.val)], fun q => q.1.2.2.L 3 icell ++ ((⟨.own b59 m.places.l.length [], q.1.2.1⟩ : OwL Int).L 3 icell ++ (⟨b1, m.cells, 26⟩ :: L)), fun _ => R2, fun q => y.l.length - q.1.1⟩ : Head {q : Nat × List Int × OwL Int // q.1 ≤ y.l.length ∧ q.2.2.ok 1 icell ∧ Dfs m f q.2.1 (n : Int) i q.2.2.l (fun u => u = v) ∧ 2 * nNeg q.2.1 + q.2.2.l.length ≤ 2 * nNeg f1 + l2.length ∧ lb q.2.1 v = (n : Int) ∧ ∀ (j : Nat) (e : Int), j < q.1 → y.l[j]? = some e → lb q.2.1 e.toNat = (n : Int)})) (⟨(0, f1, ⟨.own g cap (icell (v : Int) ++ spare), l2⟩), by dsimp only; omega, hT2, hD.pop, Nat.le_refl _, hv2, fun j e hj => by dsimp only at hj; omega⟩) ?_
       rintro ⟨⟨k, f2, ⟨o2, l3⟩⟩, w1, w2, w3, w4, w6, w5⟩ junk
       try dsimp only
       dsimp only at w1 w2 w3 w4 w5 w6
       have hfl := w3.len
       have hkf2 : (⟨.own b59 m.places.l.length [], f2⟩ : OwL Int).ok 1 icell := by have := made_ok (f := icell) (wd := 1) (b := b59) (n := m.places.l.length) (x := 0) (fun _ => rfl) (by simp only [maxLen]; omega); exact OwL.len_ok (fun _ => rfl) this (by simp; exact hfl)
       refine qae ?_
       refine qaj ?_
       refine qa4 ?_
       refine q_c (fun hc6 => ?_) (fun hc6 => ?_)
       ·
        have hyk := get_D (l := y.l) (k := k) 0 (by omega)
        obtain ⟨e, he⟩ : ∃ e, e = y.l.getD k 0 := ⟨_, rfl⟩
        rw [← he] at hyk
        obtain ⟨u, hue, hst⟩ := nearTo_step hok m.roads.l.length (Nat.le_refl _) e (by rw [← hyx]; exact List.mem_of_getElem? hyk)
        subst hue
        have hul := (hst.lt hok).2
        have hfu := lb_get (f := f2) (v := u) (by omega)
        refine qbb ?_
        refine LJ_q (by first | exact yv_index_ro tb rfl rfl rfl rfl (by first | assumption | exact zr (by simp)) (i := k) (by first | rfl | omega | (simp; omega)) (by omega) | exact yv_index tb rfl rfl rfl rfl (i := k) (by first | rfl | omega | (simp; omega)) (by omega)) rfl ?_
        refine qa7 ?_
        refine qad ?_
        refine qam ?_
        refine qbm ?_
        refine qaa ?_
        refine LJ_q (yv_index_ow tb ((⟨.own b59 m.places.l.length [], f2⟩ : OwL Int)) _ rfl rfl ((show _ = Value.slice _ _ _ from rfl).trans (own_val hfl)) rfl (by assumption) (i := u) (by first | rfl | omega | (simp; omega)) (by first | omega | (dsimp only; omega) | (dsimp only; rw [List.length_set]; omega))) rfl ?_
        refine LJ_q (yv_load1_ow tb ((⟨.own b59 m.places.l.length [], f2⟩ : OwL Int)) rfl rfl rfl (by repeat (first | apply OSeg.cons | exact OSeg.here | exact OSeg.last | exact OSeg.at (by assumption) | apply OSeg.app)) (by assumption) (fun _ => rfl) (by assumption) (by rfl)) rfl ?_
        refine qaj ?_
        refine qaf ?_
        refine q_c (fun hc7 => ?_) (fun hc7 => ?_)
        ·
         refine qae ?_
         refine qbm ?_
         refine qaa ?_
         refine qaa ?_
         refine LJ_q (yv_index_ow tb ((⟨.own b59 m.places.l.length [], f2⟩ : OwL Int)) _ rfl rfl ((show _ = Value.slice _ _ _ from rfl).trans (own_val hfl)) rfl (by assumption) (i := u) (by first | rfl | omega | (simp; omega)) (by first | omega | (dsimp only; omega) | (dsimp only; rw [List.length_set]; omega))) rfl ?_
         refine LJ_g0 (gives_store1_ow tb ((⟨.own b59 m.places.l.length [], f2⟩ : OwL Int)) ((n : Int)) rfl rfl rfl rfl (by repeat (first | apply OSeg.cons | exact OSeg.here | exact OSeg.last | exact OSeg.at (by assumption) | apply OSeg.app)) (by assumption) (fun _ => rfl) (by assumption) (by decide) (by rfl) (by rfl)) ?_
         rintro v L' R' ⟨rfl, rfl⟩
         refine LJ_nil (seqK_normal (CJ_region ?_))
         refine qbm ?_
         refine qaa ?_
         refine qcx ?_
         rintro v L' R' ⟨b119, rfl, rfl, hR119⟩
         replace hR119 := hR119.symm; subst hR119
         refine LJ_g (gives_append1 (f := icell) (a := (u : Int)) tb rfl rfl rfl rfl (w2) (by repeat (first | apply OSeg.cons | exact OSeg.here | exact OSeg.last | exact OSeg.at (by assumption) | apply OSeg.app)) (shown_own (by repeat (first | exact zi0 | apply zi1 | apply zi2)) rfl rfl) rfl (by first | omega | (simp only [List.length_cons, List.length_nil, List.length_append]; omega))) rfl ?_
         rintro v L' R' ⟨o120, rfl, hok120, rfl, rfl⟩
         refine qc4 ?_
         refine qcs ?_
         refine qar ?_
         refine qaa ?_
         refine qav ?_
         have hc7' : lb f2 u < 0 := by simpa using hc7
         have hnn := nNeg_set (f := f2) (q := u) (n := (n : Int)) (by omega) hc7' (by omega)
         exact loopK_mk ⟨(k + 1, f2.set u (n : Int), ⟨o120, l3 ++ [(u : Int)]⟩), by dsimp only; omega, hok120, w3.push hLb ⟨hv1, w6⟩ hst hul hc7', by dsimp only; rw [List.length_append, List.length_singleton]; omega, by dsimp only; rw [lb_set (by omega)]; split; rfl; exact w6, fun j e hj hje => by
           dsimp only at hj ⊢
           rw [lb_set (by omega)]
           split
           · rfl
           · rename_i hne
             rcases Nat.lt_or_ge j k with h | h
             · exact w5 j e h hje
             · obtain rfl : j = k := by omega
               rw [hyk] at hje
               cases hje
               exact absurd (by omega) hne⟩ (by repeat (first | exact Off.refl | apply Off.upd rfl | apply Off.havoc rfl | apply Off.updL rfl | apply Off.left rfl)) (by repeat' (first | exact trivial | refine And.intro rfl ?_)) (by repeat (first | exact zs0 _ | exact zs1 _ | apply zs2 | apply zs3 | apply zs4 | apply zs5)) (allR_self _) (by dsimp only; omega)
        ·
         refine qbj ?_
         refine qar ?_
         refine qaa ?_
         refine qav ?_
         have hc7' : ¬ lb f2 u < 0 := by simpa using hc7
         exact loopK_mk ⟨(k + 1, f2, ⟨o2, l3⟩), by dsimp only; omega, w2, w3, w4, w6, fun j e hj hje => by
           dsimp only at hj ⊢
           rcases Nat.lt_or_ge j k with h | h
           · exact w5 j e h hje
           · obtain rfl : j = k := by omega
             rw [hyk] at hje
             cases hje
             rw [Int.toNat_natCast]
             rcases w3.new u (w3.next_lb hLb hv1 hst) with h1 | h1
             · omega
             · exact h1.1⟩ (by repeat (first | exact Off.refl | apply Off.upd rfl | apply Off.havoc rfl | apply Off.updL rfl | apply Off.left rfl)) (by repeat' (first | exact trivial | refine And.intro rfl ?_)) (by repeat (first | exact zs0 _ | exact zs1 _ | apply zs2 | apply zs3 | apply zs4 | apply zs5)) (allR_self _) (by dsimp only; omega)
       ·
        obtain rfl : k = y.l.length := by omega
        have hD2 := w3.through (fun u hs => by
          have h1 := step_nearTo hok hs
          rw [← hyx] at h1
          obtain ⟨j, hj⟩ := List.mem_iff_getElem?.1 h1
          exact w5 j u (List.getElem?_eq_some_iff.1 hj).1 hj)
        refine CJ_exit (seqK_exit (loopK_exit (blockK_exit (blockK_normal ?_))))
        exact q_k ⟨(f2, ⟨o2, l3⟩), w2, hD2, by dsimp only; omega⟩
      ·
       have hl0 : l1 = [] := List.length_eq_zero_iff.1 (by
         have := hc5
         (try simp only [OwL.val] at this)
         omega)
       subst hl0
       have hDn := hD.done hLb
       refine CJ_exit (seqK_exit (loopK_exit (blockK_exit (seqK_normal (CJ_region ?_)))))
       refine qaa ?_
       refine qar ?_
       refine qad ?_
       refine qcs ?_
       refine qar ?_
       refine qaa ?_
       refine qav ?_
       exact loopK_mk ⟨(i + 1, n + 1, f1), by dsimp only; omega, (show ((n + 1 : Nat) : Int) = (n : Int) + 1 from by omega) ▸ hDn, by dsimp only; omega, fun j hj => by
       dsimp only at hj ⊢
       rcases Nat.lt_or_ge j i with h | h
       · have := q4 j h
         rw [hD.old j this]; exact this
       · obtain rfl : j = i := by omega
         rw [hD.start.1]; omega⟩ (by repeat (first | exact Off.refl | apply Off.upd rfl | apply Off.havoc rfl | apply Off.updL rfl | apply Off.left rfl)) (by repeat' (first | exact trivial | refine And.intro rfl ?_)) (by repeat (first | exact zs0 _ | exact zs1 _ | apply zs2 | apply zs3 | apply zs4 | apply zs5)) (allR_self _) (by dsimp only; omega)
    ·
     obtain rfl : i = m.places.l.length := by omega
     refine qbk ?_
     refine qbm ?_
     refine qaa ?_
     refine qc4 ?_
     refine qad ?_
     refine qa0 ?_
     refine q_r (L' := (⟨.own b59 m.places.l.length [], f⟩ : OwL Int).L 3 icell ++ L) (R' := R2) (res2 rfl (rv_tmp (show _ = Value.slice _ _ _ from rfl)) (rv_tmp (show _ = Value.int _ _ from rfl))) ?_
     exact ⟨(⟨.own b59 m.places.l.length [], f⟩ : OwL Int), n, aasl NR :: S2, congrArg (fun w => Value.tuple #[w, .int .i64 (n : Int)]) (own_val hfl), hkf, hLb.part (fun v hv => q4 v hv) (by omega), rfl, hR2.symm⟩
end Go.Proofs.Ytlgjgigciapkfaa
