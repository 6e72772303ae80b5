import Derived.Test.YtlgjgigciapkfaaRefA
import Derived.Test.YtlgjgigciapkfaaEval
import Derived.Test.YtlgjgigciapkfaaLaw20a
import Derived.Test.YtlgjgigciapkfaaSiteS
import Derived.Test.YtlgjgigciapkfaaCutC
import Derived.Test.YtlgjgigciapkfaaOpenS
section
/-
  The values of conditions, the reference's. By an AI agent; no person has read it.
-/
set_option linter.unusedSimpArgs false
set_option linter.unusedVariables false
namespace Go.Proofs.Ytlgjgigciapkfaa
open Go.Aw Go
set_option maxRecDepth 20000
attribute [local irreducible] CJ LJ DJ Tri YV Gives seqK blockK loopK retK RV mergeK OwL.L
end Go.Proofs.Ytlgjgigciapkfaa
end
section
/-
  The values of conditions and the states of zones, the reference's; lists that are compared. By an AI agent; no person has read it.
-/
set_option linter.unusedSimpArgs false
set_option linter.unusedVariables false
namespace Go.Proofs.Ytlgjgigciapkfaa
open Go.Aw Go
set_option maxRecDepth 20000
attribute [local irreducible] CJ LJ DJ Tri YV Gives seqK blockK loopK retK RV mergeK OwL.L
theorem sameCuts_tri (x y : Arr XCut) (L : List Blk) (R : List Sl) (hx : InR (cusl x) R) (hy : InR (cusl y) R) (he : x.l = y.l) :
    Tri Try.prog 35 [x.val, y.val].toArray L R (fun v L' R' => v = .bool true ∧ L = L' ∧ R = R') := by
  have hle : x.l.length = y.l.length := by rw [he]
  refine Tri_len Try.call35 hx fun hxn => ?_
  refine tri_enter 26 Try.call35 Try.func35 rfl rfl rfl ?_
  refine qae ?_
  refine qaz ?_
  refine qaw ?_
  refine qbm ?_
  refine qag ?_
  refine qbm ?_
  refine qag ?_
  refine qbq ?_
  refine qaf ?_
  refine q_c (fun hc0 => ?_) (fun hc0 => ?_)
  ·
   refine qae ?_
   refine qaz ?_
   refine qbh ?_
   refine q_b (L' := L) (R' := R) ?_
   exact absurd hle (by omega)
  refine qbo ?_
  refine qad ?_
  refine qa2 ?_
  refine CJ_forget [(0, Value.slice _ _ _), (1, Value.slice _ _ _), (5, Value.int _ _)] (by repeat' (first | exact trivial | refine And.intro rfl ?_)) fun tq0 => ?_
  refine q_s [4, 5, 11, 12, 13, 14, 15, 16, 17, 18, 19, 20, 21, 22, 23, 24, 25] (fun g : {k : Nat // k ≤ x.l.length} => [(5, .int .i64 ((g.1 : Nat) : Int))]) (fun g => x.l.length - g.1) (⟨0, by omega⟩) ?_
  rintro ⟨k, hk⟩ junk
  try dsimp only
  refine qbi ?_
  refine qaa ?_
  refine qbm ?_
  refine qag ?_
  refine qaj ?_
  refine qaf ?_
  refine q_c (fun hc1 => ?_) (fun hc1 => ?_)
  ·
   have hxg := get_D (l := x.l) (k := k) default (by omega)
   have hyg : y.l[k]? = some (x.l.getD k default) := by rw [← he]; exact hxg
   refine CJ_skip (seqK_normal (CJ_seq (CJ_block (CJ_seq ?_))))
   refine CJ_drawn tb [0, 1, 2, 3, 4, 5, 6, 7, 8] ([]) mixed (by kernel_rfl) (by repeat (first | exact zs0 _ | exact zs1 _ | apply zs2 | apply zs3 | apply zs4 | apply zs5)) ?_
   refine DJ_q (yv_move (show _ = Value.slice _ _ _ from rfl)) rfl rfl rfl ?_
   refine qao ?_
   refine qds ?_
   refine qdv ?_
   refine DJ_q (yv_move (show _ = Value.slice _ _ _ from rfl)) rfl rfl rfl ?_
   refine qao ?_
   refine qds ?_
   refine qdv ?_
   refine DJ_q (yv_neq_str cutEq rfl rfl (by repeat (first | exact trivial | refine ⟨trivial, ?_⟩)) (by repeat (first | exact trivial | refine ⟨trivial, ?_⟩)) rfl) rfl rfl rfl ?_
   refine qbu ?_
   refine q_c (fun hc2 => ?_) (fun hc2 => ?_)
   ·
    refine qae ?_
    refine qaz ?_
    refine qbt ?_
    refine q_b (L' := L) (R' := R) ?_
    exact absurd hc2 (by simp [cellsEq, cellEq])
   refine qbj ?_
   refine qaa ?_
   refine qar ?_
   refine qad ?_
   refine qav ?_
   exact q_k (⟨k + 1, by omega⟩)
  refine qbk ?_
  refine qaz ?_
  refine qa0 ?_
  refine q_b (L' := L) (R' := R) ?_
  exact ⟨rfl, rfl, rfl⟩
theorem sameCuts_own {A : List Blk} {R : List Sl} {p q : OwL XCut} (hp : InB (p.L 72 XCut.cells) A) (hq : InB (q.L 72 XCut.cells) A) (okp : p.ok 3 XCut.cells) (okq : q.ok 3 XCut.cells) (he : p.l = q.l) :
    Tri Try.prog 35 [p.val, q.val].toArray A R (fun v L' R' => v = .bool true ∧ A = L' ∧ R = R') :=
  Tri.lendU (S := [cusl p.arr, cusl q.arr]) (fun w G hh s hs => by
    simp only [List.mem_cons, List.not_mem_nil, or_false] at hs
    rcases hs with rfl | rfl
    · exact lend_rep hh hp okp (fun _ => rfl) (by decide) (fun s hs => by cases hs)
    · exact lend_rep hh hq okq (fun _ => rfl) (by decide) (fun s hs => by cases hs)) (sameCuts_tri p.arr q.arr [] _ (inR_self (.head _)) (inR_self (.tail _ (.head _))) he)

end Go.Proofs.Ytlgjgigciapkfaa
end
section
/-
  The states of zones, the reference's. By an AI agent; no person has read it.
-/
set_option linter.unusedSimpArgs false
set_option linter.unusedVariables false
namespace Go.Proofs.Ytlgjgigciapkfaa
open Go.Aw Go
set_option maxRecDepth 20000
attribute [local irreducible] CJ LJ DJ Tri YV Gives seqK blockK loopK retK RV mergeK OwL.L
section
variable {A9 B9 : Prop}
theorem yceaa (h : B9 := by exact ⟨.nil, .nil, by rw [he]; rfl, ⟨OwL.nil_ok, OwL.nil_ok⟩, by rw [cutsC, if_pos (by omega)], by rw [cutsN, if_pos (by omega)], by rw [nil_L, nil_L]; rfl, rfl⟩) : B9 := h
theorem yceab (a : A9) (h : A9 → B9 := by exact LJ_q (yv_index_ow tb ((⟨OO, cs⟩ : OwL XCut)) _ rfl rfl ((show _ = Value.slice _ _ _ from rfl).trans (by simp only [OwL.val, hwl])) rfl (by assumption) (i := k) (by first | rfl | omega | (simp; omega)) (by first | omega | (dsimp only; omega) | (dsimp only; rw [List.length_set]; omega) | (dsimp only; simp only [List.length_set]; omega))) rfl) : B9 := h a
theorem yceac (a : A9) (h : A9 → B9 := by exact LJ_q (yv_index_ow tb ((⟨OO, cs.set k ⟨ck.off, -1, ck.reason⟩⟩ : OwL XCut)) _ rfl rfl ((show _ = Value.slice _ _ _ from rfl).trans (by simp only [OwL.val, List.length_set, hwl])) rfl (by assumption) (i := k) (by first | rfl | omega | (simp; omega)) (by first | omega | (dsimp only; omega) | (dsimp only; rw [List.length_set]; omega) | (dsimp only; simp only [List.length_set]; omega))) rfl) : B9 := h a
end
theorem refCuts_tri (s : XSite) (u : Arr Int) (c : Arr XCut) (t : Int) (L : List Blk) (R : List Sl) (hs : SiteR s R) (hv : InR (isl u) R) (hc : InR (cusl c) R) :
    Tri Try.prog 34 [s.val, u.val, c.val, .int .i64 t].toArray L R
      (fun z L' R' => ∃ (p : OwL XCut) (q : OwL Int), z = .tuple #[p.val, q.val, .int .i64 (cutsErr s u.l c.l t)] ∧ (p.ok 3 XCut.cells ∧ q.ok 1 icell) ∧ p.l = cutsC s u.l c.l t ∧ q.l = cutsN s u.l c.l t ∧ q.L 3 icell ++ (p.L 72 XCut.cells ++ L) = L' ∧ R = R') := by
  have hzR := hs.zones
  refine tri_enter 95 Try.call34 Try.func34 rfl rfl rfl ?_
  refine qae ?_
  refine qax ?_
  intro b4
  refine qc4 ?_
  refine qc4 ?_
  refine qad ?_
  refine qaw ?_
  refine LJ_q (yv_loadN (row := [_, _, _, _, _, _, _, _]) tb rfl rfl rfl (by repeat (first | exact zi0 | apply zi1 | apply zi2)) (by rfl) (by rfl)) rfl ?_
  refine q_l rfl (refSite_tri s _ _ hs) ?_
  refine qad ?_
  refine qam ?_
  refine qaa ?_
  refine qbq ?_
  refine qaf ?_
  refine q_c (fun hc0 => ?_) (fun hc0 => ?_)
  ·
   refine qae ?_
   refine qaa ?_
   refine qc4 ?_
   refine qc4 ?_
   refine qad ?_
   refine qbh ?_
   refine q_r (L' := L) (R' := R) (res3 rfl (rv_tmp (show _ = Value.slice _ _ _ from rfl)) (rv_tmp (show _ = Value.slice _ _ _ from rfl)) (rv_tmp (show _ = Value.int _ _ from rfl))) ?_
   have he : cutsErr s u.l c.l t = siteErr s := by rw [cutsErr, if_pos hc0]
   exact yceaa
  have hsk := siteOk_of (s := s) (by omega)
  have hsl := hsk.len
  refine qbo ?_
  refine qbm ?_
  refine qag ?_
  refine qab ?_
  refine qac ?_
  refine qag ?_
  refine qbq ?_
  refine qah ?_
  apply LJ_or (G := [_, _, _, _, _, _]) (j := 6) (cj := 27) rfl rfl (by rfl) rfl (show _ = Value.bool _ from rfl) rfl
  ·
   intro hg7
   replace hg7 := qb hg7
   refine qbm ?_
   refine qag ?_
   refine qab ?_
   refine qac ?_
   refine qag ?_
   refine qbq ?_
   exact qai
  intro junk7
  refine qaf ?_
  refine q_c (fun hc1 => ?_) (fun hc1 => ?_)
  ·
   refine qae ?_
   refine qc4 ?_
   refine qc4 ?_
   refine qad ?_
   refine qbh ?_
   refine q_r (L' := L) (R' := R) (res3 rfl (rv_tmp (show _ = Value.slice _ _ _ from rfl)) (rv_tmp (show _ = Value.slice _ _ _ from rfl)) (rv_tmp (show _ = Value.int _ _ from rfl))) ?_
   have he : cutsErr s u.l c.l t = 11 := by rw [cutsErr, if_neg (by omega), if_pos (by omega)]
   exact yceaa
  refine qbo ?_
  refine qaa ?_
  refine qaj ?_
  refine qah ?_
  apply LJ_or (G := [_, _]) (j := 2) (cj := 37) rfl rfl (by rfl) rfl (show _ = Value.bool _ from rfl) rfl
  ·
   intro hg3
   replace hg3 := qb hg3
   refine qaa ?_
   refine qa5 ?_
   exact qai
  intro junk3
  refine qaf ?_
  refine q_c (fun hc2 => ?_) (fun hc2 => ?_)
  ·
   refine qae ?_
   refine qc4 ?_
   refine qc4 ?_
   refine qad ?_
   refine qbh ?_
   refine q_r (L' := L) (R' := R) (res3 rfl (rv_tmp (show _ = Value.slice _ _ _ from rfl)) (rv_tmp (show _ = Value.slice _ _ _ from rfl)) (rv_tmp (show _ = Value.int _ _ from rfl))) ?_
   have he : cutsErr s u.l c.l t = 8 := by rw [cutsErr, if_neg (by omega), if_neg (by omega), if_pos (by omega)]
   exact yceaa
  have he : cutsErr s u.l c.l t = 0 := by rw [cutsErr, if_neg (by omega), if_neg (by omega), if_neg (by omega)]
  refine qbv ?_
  refine qbm ?_
  refine LJ_g (gives_copy (f := XCut.cells) (xs := c) tb rfl rfl rfl (by decide) rfl rfl (hc) (fun _ => rfl) (by omega)) rfl ?_
  rintro v L' R' ⟨o42, rfl, hok42, rfl, rfl⟩
  refine qc4 ?_
  refine qa4 ?_
  obtain ⟨OO, hOO⟩ : ∃ OO, OO = o42 := ⟨_, rfl⟩
  rw [← hOO] at hok42 ⊢
  refine qay ?_
  refine qc4 ?_
  refine qaw ?_
  refine qad ?_
  refine qa2 ?_
  refine CJ_forget [(1, Value.slice _ _ _), (3, Value.int _ _), (4, Value.pointer _), (12, Value.slice _ _ _), (13, Value.slice _ _ _), (14, Value.int _ _)] (by repeat' (first | exact trivial | refine And.intro rfl ?_)) fun tq0 => ?_
  refine CJ_loop [13, 14, 15, 43, 44, 45, 46, 47, 48, 49, 50, 51, 52, 53, 54, 55, 56, 57, 58, 59, 60, 61, 62, 63, 64, 65, 66, 67, 68, 69, 70, 71, 72, 73, 74, 75, 76, 77, 78, 79, 80, 81, 82, 83, 84, 85, 86, 87, 88, 89, 90, 91, 92] ((⟨fun g => [(14, .int .i64 ((g.1.1 : Nat) : Int)), (13, g.1.2.2.val)], fun g => g.1.2.2.L 3 icell ++ ((⟨OO, g.1.2.1⟩ : OwL XCut).L 72 XCut.cells ++ (⟨b4, s.cells, 36⟩ :: L)), fun _ => R, fun g => c.l.length - g.1.1⟩ : Head {g : Nat × List XCut × OwL Int // g.1 ≤ c.l.length ∧ WrO c.l (cutAt s u.l c.l t) g.1 g.2.1 ∧ g.2.2.ok 1 icell ∧ g.2.2.l = nowTo s u.l c.l g.1})) (⟨(0, c.l, OwL.nil), by dsimp only; omega, .zero, OwL.nil_ok, rfl⟩) (by repeat' (first | exact trivial | refine And.intro rfl ?_)) (by dsimp only; rw [nil_L, List.nil_append]; exact List.Sublist.refl _) (allR_self _) ?_
  rintro ⟨⟨k, cs, q⟩, hk, hW, hqk, hql⟩ junk
  try dsimp only
  dsimp only at hk hW hqk hql
  have hwl := hW.len
  have hck : (⟨OO, cs⟩ : OwL XCut).ok 3 XCut.cells := OwL.len_ok (fun _ => rfl) hok42 hwl
  have hqn : q.l.length ≤ k := by rw [hql]; exact nowTo_len k
  refine qbi ?_
  refine qaa ?_
  refine qbm ?_
  refine qag ?_
  refine qaj ?_
  refine qaf ?_
  refine q_c (fun hc3 => ?_) (fun hc3 => ?_)
  ·
   have hzg := get_D (l := s.zones.l) (k := k) default (by omega)
   have hcg0 := get_D (l := c.l) (k := k) default (by omega)
   have hcg := hW.old k (Nat.le_refl _)
   rw [hcg0] at hcg
   have hWn := fun (x : XCut) => hW.next (x := x) (by omega)
   have hWs := hW.stay (i := k)
   have hns := nowTo_succ (s := s) (v := u.l) (c := c.l) (k := k)
   obtain ⟨z, hz⟩ : ∃ z, z = s.zones.l.getD k default := ⟨_, rfl⟩
   obtain ⟨ck, hcke⟩ : ∃ ck, ck = c.l.getD k default := ⟨_, rfl⟩
   obtain ⟨V, hV⟩ : ∃ V, V = evalS z.rule.l u.l := ⟨_, rfl⟩
   have hat : cutAt s u.l c.l t k = cutV V ck t := by rw [cutAt, hV, hz, hcke]
   rw [← hz] at hzg
   rw [← hcke] at hcg hcg0
   rw [← hz, ← hcke, ← hV] at hns
   rw [hat] at hWn
   rw [hat, hcg0] at hWs
   refine qbb ?_
   refine qab ?_
   refine qac ?_
   refine qaa ?_
   refine LJ_q (by first | exact yv_index_ro tb rfl rfl rfl rfl (by first | assumption | exact zr (by simp)) (i := k) (by first | rfl | omega | (simp; omega)) (by omega) | exact yv_index tb rfl rfl rfl rfl (i := k) (by first | rfl | omega | (simp; omega)) (by omega)) rfl ?_
   refine qb0 ?_
   refine qa7 ?_
   refine qbm ?_
   refine q_l rfl (refEval_tri z.rule u _ _ (InR.rule hzR hzg) hv) ?_
   rw [← hV]
   refine qad ?_
   refine qaw ?_
   refine qaa ?_
   refine qbn ?_
   refine qaf ?_
   refine q_c (fun hc4 => ?_) (fun hc4 => ?_)
   ·
    refine qbi ?_
    refine qbm ?_
    refine qaa ?_
    refine yceab ?_
    refine qb0 ?_
    refine LJ_q (yv_load1_ow tb ((⟨OO, cs⟩ : OwL XCut)) rfl rfl rfl (by repeat (first | apply OSeg.cons | exact OSeg.here | exact OSeg.last | exact OSeg.at (by assumption) | apply OSeg.app)) (by assumption) (fun _ => rfl) (by assumption) (by rfl)) rfl ?_
    refine qbn ?_
    refine qaf ?_
    refine q_c (fun hc5 => ?_) (fun hc5 => ?_)
    ·
     refine qay ?_
     refine qbm ?_
     refine qaa ?_
     refine qaa ?_
     refine yceab ?_
     refine qb0 ?_
     refine LJ_g0 (gives_store1_ow tb ((⟨OO, cs⟩ : OwL XCut)) (⟨ck.off, t, ck.reason⟩) rfl rfl rfl rfl (by repeat (first | apply OSeg.cons | exact OSeg.here | exact OSeg.last | exact OSeg.at (by assumption) | apply OSeg.app)) (by assumption) (fun _ => rfl) (by assumption) (by decide) (by rfl) (by rfl)) ?_
     rintro v L' R' ⟨rfl, rfl⟩
     refine LJ_nil (seqK_normal (CJ_exit (seqK_exit (blockK_exit (seqK_normal (CJ_region ?_))))))
     refine qaa ?_
     refine qar ?_
     refine qad ?_
     refine qav ?_
     exact q_k ⟨(k + 1, cs.set k ⟨ck.off, t, ck.reason⟩, q), by dsimp only; omega, hWn _ (by rw [cutV, if_pos hc4, if_pos hc5]), hqk, by dsimp only; rw [hns, if_neg (by omega)]; exact hql⟩
    refine CJ_skip (seqK_normal (CJ_exit (seqK_exit (blockK_exit (seqK_normal (CJ_region ?_))))))
    refine qaa ?_
    refine qar ?_
    refine qad ?_
    refine qav ?_
    exact q_k ⟨(k + 1, cs, q), by dsimp only; omega, hWs (by rw [cutV, if_pos hc4, if_neg hc5]), hqk, by dsimp only; rw [hns, if_neg (by omega)]; exact hql⟩
   refine qbv ?_
   refine qbm ?_
   refine qaa ?_
   refine yceab ?_
   refine qb0 ?_
   refine LJ_g0 (gives_store1_ow tb ((⟨OO, cs⟩ : OwL XCut)) (⟨ck.off, -1, ck.reason⟩) rfl rfl rfl rfl (by repeat (first | apply OSeg.cons | exact OSeg.here | exact OSeg.last | exact OSeg.at (by assumption) | apply OSeg.app)) (by assumption) (fun _ => rfl) (by assumption) (by decide) (by rfl) (by rfl)) ?_
   rintro v L' R' ⟨rfl, rfl⟩
   refine qa4 ?_
   have hck1 := OwL.set_ok (f := XCut.cells) (wd := 3) (p := (⟨OO, cs⟩ : OwL XCut)) (i := k) (x := ⟨ck.off, -1, ck.reason⟩) (fun _ => rfl) hck
   have hcg1 : (cs.set k ⟨ck.off, -1, ck.reason⟩)[k]? = some ⟨ck.off, -1, ck.reason⟩ := List.getElem?_set_self (by omega)
   refine qay ?_
   refine qbm ?_
   refine qaa ?_
   refine yceac ?_
   refine qb0 ?_
   refine LJ_q (yv_load1_ow tb ((⟨OO, cs.set k ⟨ck.off, -1, ck.reason⟩⟩ : OwL XCut)) rfl rfl rfl (by repeat (first | apply OSeg.cons | exact OSeg.here | exact OSeg.last | exact OSeg.at (by assumption) | apply OSeg.app)) (by assumption) (fun _ => rfl) (by assumption) (by rfl)) rfl ?_
   refine qb4 ?_
   refine qaf ?_
   refine q_c (fun hc6 => ?_) (fun hc6 => ?_)
   ·
    have hck2 := OwL.set_ok (f := XCut.cells) (wd := 3) (p := (⟨OO, cs.set k ⟨ck.off, -1, ck.reason⟩⟩ : OwL XCut)) (i := k) (x := ⟨true, -1, ck.reason⟩) (fun _ => rfl) hck1
    have hcg2 : ((cs.set k ⟨ck.off, -1, ck.reason⟩).set k ⟨true, -1, ck.reason⟩)[k]? = some ⟨true, -1, ck.reason⟩ := List.getElem?_set_self (by rw [List.length_set]; omega)
    refine qae ?_
    refine qbm ?_
    refine qaa ?_
    refine qbm ?_
    refine qaa ?_
    refine qaa ?_
    refine yceac ?_
    refine qb0 ?_
    refine LJ_g0 (gives_store1_ow tb ((⟨OO, cs.set k ⟨ck.off, -1, ck.reason⟩⟩ : OwL XCut)) (⟨true, -1, ck.reason⟩) rfl rfl rfl rfl (by repeat (first | apply OSeg.cons | exact OSeg.here | exact OSeg.last | exact OSeg.at (by assumption) | apply OSeg.app)) (by assumption) (fun _ => rfl) (by assumption) (by decide) (by rfl) (by rfl)) ?_
    rintro v L' R' ⟨rfl, rfl⟩
    refine LJ_q (yv_index_ow tb ((⟨OO, (cs.set k ⟨ck.off, -1, ck.reason⟩).set k ⟨true, -1, ck.reason⟩⟩ : OwL XCut)) _ rfl rfl ((show _ = Value.slice _ _ _ from rfl).trans (by simp only [OwL.val, List.length_set, hwl])) rfl (by assumption) (i := k) (by first | rfl | omega | (simp; omega)) (by first | omega | (dsimp only; omega) | (dsimp only; rw [List.length_set]; omega) | (dsimp only; simp only [List.length_set]; omega))) rfl ?_
    refine qb0 ?_
    refine LJ_g0 (gives_store1_ow tb ((⟨OO, (cs.set k ⟨ck.off, -1, ck.reason⟩).set k ⟨true, -1, ck.reason⟩⟩ : OwL XCut)) (⟨true, -1, V⟩) rfl rfl rfl rfl (by repeat (first | apply OSeg.cons | exact OSeg.here | exact OSeg.last | exact OSeg.at (by assumption) | apply OSeg.app)) (by assumption) (fun _ => rfl) (by assumption) (by decide) (by rfl) (by rfl)) ?_
    rintro v L' R' ⟨rfl, rfl⟩
    refine LJ_nil (seqK_normal (CJ_region ?_))
    refine qbm ?_
    refine qaa ?_
    refine qcx ?_
    rintro v L' R' ⟨b91, rfl, rfl, hR91⟩
    replace hR91 := hR91.symm; subst hR91
    refine LJ_g (gives_append1 (f := icell) (a := (k : Int)) tb rfl rfl rfl rfl (hqk) (by repeat (first | apply OSeg.cons | exact OSeg.here | exact OSeg.last | exact OSeg.at (by assumption) | apply OSeg.app)) (shown_own (by repeat (first | exact zi0 | apply zi1 | apply zi2)) rfl rfl) rfl (by first | omega | (simp only [List.length_cons, List.length_nil, List.length_append]; omega))) rfl ?_
    rintro v L' R' ⟨o92, rfl, hok92, rfl, rfl⟩
    refine qc4 ?_
    refine qcs ?_
    refine qaa ?_
    refine qar ?_
    refine qad ?_
    refine qav ?_
    exact q_k ⟨(k + 1, ((cs.set k ⟨ck.off, -1, ck.reason⟩).set k ⟨true, -1, ck.reason⟩).set k ⟨true, -1, V⟩, (⟨o92, _⟩ : OwL Int)), by dsimp only; omega, by dsimp only; rw [List.set_set, List.set_set]; exact hWn _ (by rw [cutV, if_neg hc4, if_neg (by simpa using hc6)]), hok92, by dsimp only; rw [hns, if_pos ⟨hc4, by simpa using hc6⟩, hql]⟩
   refine qbj ?_
   refine qaa ?_
   refine qar ?_
   refine qad ?_
   refine qav ?_
   exact q_k ⟨(k + 1, cs.set k ⟨ck.off, -1, ck.reason⟩, q), by dsimp only; omega, hWn _ (by rw [cutV, if_neg hc4, if_pos (by simpa using hc6)]; rw [show ck.off = true by simpa using hc6]), hqk, by dsimp only; rw [hns, if_neg (fun h => by have := h.2; simp [this] at hc6)]; exact hql⟩
  obtain rfl : k = c.l.length := by omega
  refine qbk ?_
  refine qbm ?_
  refine qbm ?_
  refine qc4 ?_
  refine qc4 ?_
  refine qad ?_
  refine qa0 ?_
  refine q_r (L' := q.L 3 icell ++ ((⟨OO, cs⟩ : OwL XCut).L 72 XCut.cells ++ L)) (R' := R) (res3 rfl (rv_tmp (show _ = Value.slice _ _ _ from rfl)) (rv_tmp (show _ = Value.slice _ _ _ from rfl)) (rv_tmp (show _ = Value.int _ _ from rfl))) ?_
  exact ⟨(⟨OO, cs⟩ : OwL XCut), q, by rw [he, OwL.val, OwL.val, hwl]; try rfl, ⟨hck, hqk⟩, by rw [cutsC, if_neg (by omega)]; exact hW.done, by rw [cutsN, if_neg (by omega)]; exact hql, rfl, rfl⟩
end Go.Proofs.Ytlgjgigciapkfaa
end
section
/-
  Statements about chapter 20: the states of zones. By an AI agent; no person has read it.
-/
set_option linter.unusedSimpArgs false
set_option linter.unusedVariables false
namespace Go.Proofs.Ytlgjgigciapkfaa
open Go.Aw Go
set_option maxRecDepth 20000
attribute [local irreducible] CJ LJ DJ Tri YV Gives seqK blockK loopK retK RV mergeK OwL.L
section
variable {A9 B9 : Prop}
theorem ycfaa (a : A9) (h : A9 → B9 := by exact LJ_g (gives_buildSlice (qs := [(0, (Value.slice _ _ _).cells.toList), (1, (Value.slice _ _ _).cells.toList)]) (out := [_, _]) tb rfl rfl rfl rfl rfl rfl rfl) rfl) : B9 := h a
theorem ycfab (a : A9) (h : A9 → B9 := by exact LJ_q (yv_loadN (row := [_, _, _, _, _, _, _, _]) tb rfl rfl rfl (by repeat (first | exact zi0 | apply zi1 | apply zi2)) (by rfl) (by rfl)) rfl) : B9 := h a
end
instance {α : Type} : Inhabited (Arr α) := ⟨⟨none, 0, []⟩⟩
theorem two_get {α : Type} {a b : α} {i : Nat} (hi : i < 2) : ∃ x, [a, b][i]? = some x ∧ (x = a ∨ x = b) := by
  rcases Nat.lt_or_ge i 1 with h | h
  · obtain rfl : i = 0 := by omega
    exact ⟨a, rfl, .inl rfl⟩
  · obtain rfl : i = 1 := by omega
    exact ⟨b, rfl, .inr rfl⟩
theorem cutoffCuts_law (y : Arr Int) (raw : Arr Int) (cs : Arr XCut) (t : Int) (R : List Sl) (hy : CodesR y R) (hraw : InR (isl raw) R) (hcs : InR (cusl cs) R) (ht : I64 t) :
    Tri Try.prog 5 [y.val, raw.val, cs.val, .int .i64 t].toArray [] R (fun v L' R' => v = .bool true ∧ [] = L' ∧ R = R') := by
  refine tri_enter 134 Try.call5 Try.func5 rfl rfl rfl ?_
  refine qae ?_
  refine qaz ?_
  refine qaw ?_
  refine qbm ?_
  refine qag ?_
  refine qa5 ?_
  refine qah ?_
  apply LJ_or (G := [_, _, _]) (j := 3) (cj := 31) rfl rfl (by rfl) rfl (show _ = Value.bool _ from rfl) rfl
  ·
   intro hg4
   replace hg4 := qb hg4
   refine qbm ?_
   refine qag ?_
   refine qa5 ?_
   exact qai
  intro junk4
  refine qaf ?_
  refine q_c (fun hc0 => ?_) (fun hc0 => ?_)
  ·
   refine qae ?_
   refine q_l rfl (awake20_tri _ _) ?_
   refine qaz ?_
   refine qbh ?_
   refine q_b (L' := []) (R' := R) ?_
   exact ⟨rfl, rfl, rfl⟩
  have hrn : raw.l.length ≤ 80 := by omega
  have hcn : cs.l.length ≤ 40 := by omega
  refine qbv ?_
  refine qbm ?_
  refine LJ_call rfl (new_tri y _ _ hy) rfl ?_
  rintro v L' R' ⟨c, rfl, hx, rfl, rfl⟩
  refine qc1 ?_
  refine qam ?_
  refine qa6 ?_
  refine LJ_call rfl (drawSite_tri c (codes300 y) 0 _ hx (Nat.zero_le _)) rfl ?_
  rintro v L' R' ⟨s, u, z, k1, rfl, hD, hk1, ⟨hs, hu, hz, hR0⟩, rfl⟩
  refine LJ_q (yv_move rfl) rfl ?_
  iterate 3 refine qbs ?_
  refine qaq ?_
  intro b10
  refine qaq ?_
  intro b11
  refine qaq ?_
  intro b12
  iterate 3 refine qak ?_
  refine qa4 ?_
  have hRR : ∀ r ∈ R, InR r R' := fun r hr => hR0 r (.tail _ hr)
  have hx1 := hx.mono hR0
  have hcR := hs.conds
  have hzR := hs.zones
  have hn1 := hD.ncond
  have hn2 := hD.nzone
  refine CJ_weak (L' := ⟨b10, s.cells, 36⟩ :: cblk c (codes300 y) k1 :: []) (R' := R') (.cons _ (.cons _ (List.Sublist.refl _))) (allR_self _) ?_
  refine qay ?_
  refine qc4 ?_
  refine qaw ?_
  refine qab ?_
  refine qac ?_
  refine qag ?_
  refine qaa ?_
  refine qa2 ?_
  refine CJ_forget [(1, Value.slice _ _ _), (2, Value.slice _ _ _), (3, Value.int _ _), (9, Value.pointer _), (10, Value.pointer _), (13, Value.slice _ _ _), (47, Value.int _ _), (48, Value.int _ _)] (by repeat' (first | exact trivial | refine And.intro rfl ?_)) fun tq0 => ?_
  refine CJ_loop [13, 48, 49, 50, 51, 52, 53, 54, 55] ((⟨fun g => [(48, .int .i64 ((g.1.2.1 : Nat) : Int)), (13, g.1.2.2.val)], fun g => g.1.2.2.L 3 icell ++ (⟨b10, s.cells, 36⟩ :: cblk c (codes300 y) g.1.1 :: []), fun _ => R', fun g => s.conds.l.length - g.1.2.1⟩ : Head {g : Nat × Nat × OwL Int // g.1 ≤ (codes300 y).l.length ∧ g.2.1 ≤ s.conds.l.length ∧ g.2.2.ok 1 icell ∧ g.2.2.l.length = g.2.1})) (⟨(k1, 0, OwL.nil), hk1, by dsimp only; omega, OwL.nil_ok, rfl⟩) (by repeat' (first | exact trivial | refine And.intro rfl ?_)) (by dsimp only; rw [nil_L, List.nil_append]; exact List.Sublist.refl _) (allR_self _) ?_
  rintro ⟨⟨k2, i, p⟩, hk2, hi, hpk, hpn⟩ junk
  try dsimp only
  dsimp only at hk2 hi hpk hpn
  refine qae ?_
  refine qaj ?_
  refine qa4 ?_
  refine q_c (fun hc1 => ?_) (fun hc1 => ?_)
  ·
   refine CJ_skip (seqK_normal (CJ_seq (CJ_block (CJ_region ?_))))
   refine qbm ?_
   refine qa6 ?_
   refine LJ_call rfl (truth1 (by repeat (first | apply USeg.here | apply USeg.cons | apply USeg.app)) hx1 hk2) rfl ?_
   rintro v L' R' ⟨r, k3, rfl, hr, hk3, rfl, rfl⟩
   refine qcx ?_
   rintro v L' R' ⟨b53, rfl, rfl, hR53⟩
   replace hR53 := hR53.symm; subst hR53
   refine LJ_g (gives_append1 (f := icell) (p := p) (a := r) tb rfl rfl rfl rfl (hpk) (by repeat (first | apply OSeg.cons | exact OSeg.here | exact OSeg.last | exact OSeg.at (by assumption) | apply OSeg.app)) (shown_own (by repeat (first | exact zi0 | apply zi1 | apply zi2)) rfl rfl) rfl (by first | omega | (simp only [List.length_cons, List.length_nil, List.length_append]; omega))) rfl ?_
   rintro v L' R' ⟨o54, rfl, hok54, rfl, rfl⟩
   refine qc4 ?_
   refine qcs ?_
   refine qar ?_
   refine qaa ?_
   refine qav ?_
   exact q_k ⟨(k3, i + 1, (⟨o54, _⟩ : OwL Int)), hk3, by dsimp only; omega, hok54, by dsimp only; simp only [List.length_append, List.length_cons, List.length_nil]; omega⟩
  obtain rfl : i = s.conds.l.length := by omega
  refine qbk ?_
  refine qc4 ?_
  refine qco ?_
  refine CJ_frz1 (A := []) (wd := 1) [] (fun _ => rfl) (by decide) hpk (fun s hs => by cases hs) ?_
  refine CJ_L (by simp only [List.nil_append]; rfl) ?_
  obtain ⟨R2, hR2e⟩ : ∃ R2, R2 = isl p.arr :: R' := ⟨_, rfl⟩
  have hR2 : ∀ r ∈ R', InR r R2 := fun r hr => inR_self (by simp [hR2e, hr])
  have hpR : InR (isl p.arr) R2 := inR_self (by rw [hR2e]; exact .head _)
  have hs2 := hs.mono hR2
  have hzR2 := hs2.zones
  have hx2 := hx1.mono hR2
  refine CJ_R (show _ = R2 by rw [hR2e]) ?_
  refine qay ?_
  refine qab ?_
  refine qac ?_
  refine qag ?_
  refine qaa ?_
  refine qa2 ?_
  refine CJ_forget [(1, Value.slice _ _ _), (2, Value.slice _ _ _), (3, Value.int _ _), (9, Value.pointer _), (10, Value.pointer _), (13, Value.slice _ _ _), (14, Value.slice _ _ _), (58, Value.int _ _), (59, Value.int _ _)] (by repeat' (first | exact trivial | refine And.intro rfl ?_)) fun tq1 => ?_
  refine CJ_loop [14, 59, 60, 61, 62, 63, 64, 65, 66, 67, 68, 69] ((⟨fun g => [(59, .int .i64 ((g.1.2.1 : Nat) : Int)), (14, g.1.2.2.val)], fun g => g.1.2.2.L 72 XCut.cells ++ (⟨b10, s.cells, 36⟩ :: cblk c (codes300 y) g.1.1 :: []), fun _ => R2, fun g => s.zones.l.length - g.1.2.1⟩ : Head {g : Nat × Nat × OwL XCut // g.1 ≤ (codes300 y).l.length ∧ g.2.1 ≤ s.zones.l.length ∧ g.2.2.ok 3 XCut.cells ∧ g.2.2.l.length = g.2.1})) (⟨(k2, 0, OwL.nil), hk2, by dsimp only; omega, OwL.nil_ok, rfl⟩) (by repeat' (first | exact trivial | refine And.intro rfl ?_)) (by dsimp only; rw [nil_L, List.nil_append]; exact List.Sublist.refl _) (allR_self _) ?_
  rintro ⟨⟨k4, j, q⟩, hk4, hj, hqk, hqn⟩ junk
  try dsimp only
  dsimp only at hk4 hj hqk hqn
  refine qae ?_
  refine qaj ?_
  refine qa4 ?_
  refine q_c (fun hc2 => ?_) (fun hc2 => ?_)
  ·
   refine CJ_skip (seqK_normal (CJ_seq (CJ_block (CJ_region ?_))))
   refine qbm ?_
   refine qa6 ?_
   refine LJ_call rfl (one1 (by repeat (first | apply USeg.here | apply USeg.cons | apply USeg.app)) hx2 hk4 (by omega)) rfl ?_
   rintro v L' R' ⟨bo, k5, rfl, hk5, rfl, rfl⟩
   refine qa6 ?_
   refine LJ_call rfl (range1 (by repeat (first | apply USeg.here | apply USeg.cons | apply USeg.app)) hx2 hk5 (by omega)) rfl ?_
   rintro v L' R' ⟨r1, k6, rfl, g1, g1', hk6, rfl, rfl⟩
   refine LJ_q (yv_build (qs := [(0, (Value.bool _).cells.toList), (1, (Value.int _ _).cells.toList)]) (out := [_, _, _]) tb rfl rfl rfl rfl) rfl ?_
   refine LJ_g (gives_buildSlice (qs := [(0, (Value.agg _).cells.toList)]) (out := [_, _, _]) tb rfl rfl rfl rfl rfl rfl rfl) rfl ?_
   rintro v L' R' ⟨b67, rfl, rfl, hR67⟩
   replace hR67 := hR67.symm; subst hR67
   refine LJ_g (gives_append1 (f := XCut.cells) (p := q) (a := ⟨bo, r1, 0⟩) tb rfl rfl rfl rfl (hqk) (by repeat (first | apply OSeg.cons | exact OSeg.here | exact OSeg.last | exact OSeg.at (by assumption) | apply OSeg.app)) (shown_own (by repeat (first | exact zi0 | apply zi1 | apply zi2)) rfl rfl) rfl (by first | omega | (simp only [List.length_cons, List.length_nil, List.length_append]; omega))) rfl ?_
   rintro v L' R' ⟨o68, rfl, hok68, rfl, rfl⟩
   refine qc4 ?_
   refine qcs ?_
   refine qar ?_
   refine qaa ?_
   refine qav ?_
   exact q_k ⟨(k6, j + 1, (⟨o68, _⟩ : OwL XCut)), hk6, by dsimp only; omega, hok68, by dsimp only; simp only [List.length_append, List.length_cons, List.length_nil]; omega⟩
  obtain rfl : j = s.zones.l.length := by omega
  refine qc3 ?_
  refine CJ_frz1 (A := []) (wd := 3) [] (fun _ => rfl) (by decide) hqk (fun s hs => by cases hs) ?_
  refine CJ_L (by simp only [List.nil_append]; rfl) ?_
  obtain ⟨R3, hR3e⟩ : ∃ R3, R3 = cusl q.arr :: R2 := ⟨_, rfl⟩
  have hR3 : ∀ r ∈ R2, InR r R3 := fun r hr => inR_self (by simp [hR3e, hr])
  have hqR : InR (cusl q.arr) R3 := inR_self (by rw [hR3e]; exact .head _)
  have hs3 := hs2.mono hR3
  have hpR3 := hpR.mono hR3
  have up3 : ∀ r ∈ R, InR r R3 := fun r hr => ((hRR r hr).mono hR2).mono hR3
  have hraw3 := hraw.mono up3
  have hcs3 := hcs.mono up3
  refine CJ_R (show _ = R3 by rw [hR3e]) ?_
  refine qay ?_
  refine qaa ?_
  refine q_l rfl (mod_tri t 30 _ _ ht (by decide)) ?_
  have hmd := modS_bounds (k := t) (n := 30) (by decide)
  generalize modS t 30 = md at hmd ⊢
  refine qar ?_
  refine qad ?_
  refine qaw ?_
  refine qbm ?_
  refine qbm ?_
  refine ycfaa ?_
  rintro v L' R' ⟨b75, rfl, rfl, hR75⟩
  replace hR75 := hR75.symm; subst hR75
  refine LJ_frz (wd := 1) (len := 2) (cap := 2) (rows := [[p.val], [raw.val]]) (subs := [isl p.arr, isl raw]) rfl (by decide) (by decide) (fun r hr => by simp only [List.mem_cons, List.not_mem_nil, or_false] at hr; rcases hr with rfl | rfl <;> rfl) (by decide) rfl (fun s hs => by simp only [List.mem_cons, List.not_mem_nil, or_false] at hs; rcases hs with rfl | rfl <;> assumption) ?_
  refine qag ?_
  refine qaa ?_
  refine qa2 ?_
  refine CJ_forget [(2, Value.slice _ _ _), (3, Value.int _ _), (10, Value.pointer _), (14, Value.slice _ _ _), (15, Value.int _ _), (75, Value.slice _ _ _), (76, Value.int _ _), (77, Value.int _ _)] (by repeat' (first | exact trivial | refine And.intro rfl ?_)) fun tq2 => ?_
  obtain ⟨R4, hR4e⟩ : ∃ R4, R4 = (⟨some ⟨b75, 0, none⟩, 2, [p.arr, raw]⟩ : Arr (Arr Int)).sl 1 (fun x => [x.val]) [isl p.arr, isl raw] :: R3 := ⟨_, rfl⟩
  have hR4 : ∀ r ∈ R3, InR r R4 := fun r hr => inR_self (by simp [hR4e, hr])
  have hA1R : InR ((⟨some ⟨b75, 0, none⟩, 2, [p.arr, raw]⟩ : Arr (Arr Int)).sl 1 (fun x => [x.val]) [isl p.arr, isl raw]) R4 := inR_self (by rw [hR4e]; exact .head _)
  refine CJ_R (show _ = R4 by rw [hR4e]; rfl) ?_
  refine CJ_loop [8, 17, 19, 21, 22, 23, 24, 25, 26, 27, 77, 78, 79, 80, 81, 82, 83, 84, 85, 86, 87, 88, 89, 90, 91, 92, 93, 94, 95, 96, 97, 98, 99, 100, 101, 102, 103, 104, 105, 106, 107, 108, 109, 110, 111, 112, 113, 114, 115, 116, 117, 118, 119, 120, 121, 122, 123, 124, 125, 126, 127, 128, 129, 130, 131, 132] ((⟨fun g => [(77, .int .i64 ((g.1 : Nat) : Int))], fun _ => ⟨b10, s.cells, 36⟩ :: cblk c (codes300 y) k4 :: [], fun _ => R4, fun g => 2 - g.1⟩ : Head {g : Nat // g ≤ 2})) (⟨0, by omega⟩) (by repeat' (first | exact trivial | refine And.intro rfl ?_)) (List.Sublist.refl _) (allR_self _) ?_
  rintro ⟨i2, hi2⟩ junk
  try dsimp only
  refine qae ?_
  refine qaj ?_
  refine qa4 ?_
  refine q_c (fun hc3 => ?_) (fun hc3 => ?_)
  ·
   obtain ⟨v1, hv1, hv1'⟩ := two_get (a := p.arr) (b := raw) (i := i2) (by omega)
   have hv1R : InR (isl v1) R4 := by rcases hv1' with rfl | rfl; exact hpR3.mono hR4; exact hraw3.mono hR4
   refine qbb ?_
   refine LJ_q (by first | exact yv_index_ro tb rfl rfl rfl rfl (by first | assumption | exact zr (by simp)) (i := i2) (by first | rfl | omega | (simp; omega)) (by omega) | exact yv_index tb rfl rfl rfl rfl (i := i2) (by first | rfl | omega | (simp; omega)) (by omega)) rfl ?_
   refine qa7 ?_
   refine qc4 ?_
   refine qam ?_
   refine qbm ?_
   refine qbm ?_
   refine ycfaa ?_
   rintro v L' R' ⟨b83, rfl, rfl, hR83⟩
   replace hR83 := hR83.symm; subst hR83
   refine LJ_frz (wd := 1) (len := 2) (cap := 2) (rows := [[q.val], [cs.val]]) (subs := [cusl q.arr, cusl cs]) rfl (by decide) (by decide) (fun r hr => by simp only [List.mem_cons, List.not_mem_nil, or_false] at hr; rcases hr with rfl | rfl <;> rfl) (by decide) rfl (fun s hs => by simp only [List.mem_cons, List.not_mem_nil, or_false] at hs; rcases hs with rfl | rfl; exact hqR.mono hR4; exact hcs3.mono hR4) ?_
   refine qag ?_
   refine qaa ?_
   refine qa2 ?_
   refine CJ_forgetW [8, 17, 19, 21, 22, 23, 24, 25, 26, 27, 77, 78, 79, 80, 81, 82, 83, 84, 85, 86, 87, 88, 89, 90, 91, 92, 93, 94, 95, 96, 97, 98, 99, 100, 101, 102, 103, 104, 105, 106, 107, 108, 109, 110, 111, 112, 113, 114, 115, 116, 117, 118, 119, 120, 121, 122, 123, 124, 125, 126, 127, 128, 129, 130, 131, 132] (by repeat (first | apply Off.upd rfl | apply Off.havoc rfl | refine Off.updL (t' := havoc _ _ _) rfl ?_ | exact Off.refl)) [(17, Value.slice _ _ _), (77, Value.int _ _), (83, Value.slice _ _ _), (84, Value.int _ _), (85, Value.int _ _)] (by repeat' (first | exact trivial | refine And.intro rfl ?_)) fun tq3 => ?_
   obtain ⟨R5, hR5e⟩ : ∃ R5, R5 = (⟨some ⟨b83, 0, none⟩, 2, [q.arr, cs]⟩ : Arr (Arr XCut)).sl 1 (fun x => [x.val]) [cusl q.arr, cusl cs] :: R4 := ⟨_, rfl⟩
   have hR5 : ∀ r ∈ R4, InR r R5 := fun r hr => inR_self (by simp [hR5e, hr])
   have hA2R : InR ((⟨some ⟨b83, 0, none⟩, 2, [q.arr, cs]⟩ : Arr (Arr XCut)).sl 1 (fun x => [x.val]) [cusl q.arr, cusl cs]) R5 := inR_self (by rw [hR5e]; exact .head _)
   refine CJ_R (show _ = R5 by rw [hR5e]; rfl) ?_
   refine CJ_loop [8, 19, 21, 22, 23, 24, 25, 26, 27, 85, 86, 87, 88, 89, 90, 91, 92, 93, 94, 95, 96, 97, 98, 99, 100, 101, 102, 103, 104, 105, 106, 107, 108, 109, 110, 111, 112, 113, 114, 115, 116, 117, 118, 119, 120, 121, 122, 123, 124, 125, 126, 127, 128, 129, 130, 131] ((⟨fun g => [(85, .int .i64 ((g.1 : Nat) : Int))], fun _ => ⟨b10, s.cells, 36⟩ :: cblk c (codes300 y) k4 :: [], fun _ => R5, fun g => 2 - g.1⟩ : Head {g : Nat // g ≤ 2})) (⟨0, by omega⟩) (by repeat' (first | exact trivial | refine And.intro rfl ?_)) (List.Sublist.refl _) (allR_self _) ?_
   rintro ⟨i3, hi3⟩ junk
   try dsimp only
   refine qae ?_
   refine qaj ?_
   refine qa4 ?_
   refine q_c (fun hc4 => ?_) (fun hc4 => ?_)
   ·
    obtain ⟨v2, hv2, hv2'⟩ := two_get (a := q.arr) (b := cs) (i := i3) (by omega)
    have hv2R : InR (cusl v2) R5 := by rcases hv2' with rfl | rfl; exact (hqR.mono hR4).mono hR5; exact (hcs3.mono hR4).mono hR5
    refine qbb ?_
    refine LJ_q (by first | exact yv_index_ro tb rfl rfl rfl rfl (by first | assumption | exact zr (by simp)) (i := i3) (by first | rfl | omega | (simp; omega)) (by omega) | exact yv_index tb rfl rfl rfl rfl (i := i3) (by first | rfl | omega | (simp; omega)) (by omega)) rfl ?_
    refine qa7 ?_
    refine qc4 ?_
    refine qam ?_
    refine qaa ?_
    refine qaa ?_
    refine LJ_g (gives_buildSlice (qs := [(0, (Value.int _ _).cells.toList), (1, (Value.int _ _).cells.toList)]) (out := [_, _]) tb rfl rfl rfl rfl rfl rfl rfl) rfl ?_
    rintro v L' R' ⟨b91, rfl, rfl, hR91⟩
    replace hR91 := hR91.symm; subst hR91
    refine LJ_frz (wd := 1) (len := 2) (cap := 2) (rows := [icell (9 + md), icell t]) (subs := []) rfl (by decide) (by decide) (fun r hr => by simp only [List.mem_cons, List.not_mem_nil, or_false] at hr; rcases hr with rfl | rfl <;> rfl) (by decide) rfl (fun s hs => by cases hs) ?_
    refine qag ?_
    refine qaa ?_
    refine qa2 ?_
    refine CJ_forgetW [8, 19, 21, 22, 23, 24, 25, 26, 27, 85, 86, 87, 88, 89, 90, 91, 92, 93, 94, 95, 96, 97, 98, 99, 100, 101, 102, 103, 104, 105, 106, 107, 108, 109, 110, 111, 112, 113, 114, 115, 116, 117, 118, 119, 120, 121, 122, 123, 124, 125, 126, 127, 128, 129, 130, 131] (by repeat (first | apply Off.upd rfl | apply Off.havoc rfl | refine Off.updL (t' := havoc _ _ _) rfl ?_ | exact Off.refl)) [(19, Value.slice _ _ _), (85, Value.int _ _), (91, Value.slice _ _ _), (92, Value.int _ _), (93, Value.int _ _)] (by repeat' (first | exact trivial | refine And.intro rfl ?_)) fun tq4 => ?_
    obtain ⟨R6, hR6e⟩ : ∃ R6, R6 = isl ⟨some ⟨b91, 0, none⟩, 2, [9 + md, t]⟩ :: R5 := ⟨_, rfl⟩
    have hR6 : ∀ r ∈ R5, InR r R6 := fun r hr => inR_self (by simp [hR6e, hr])
    have hA3R : InR (isl ⟨some ⟨b91, 0, none⟩, 2, [9 + md, t]⟩) R6 := inR_self (by rw [hR6e]; exact .head _)
    have hs6 := ((hs3.mono hR4).mono hR5).mono hR6
    have hv1R6 := (hv1R.mono hR5).mono hR6
    have hv2R6 := hv2R.mono hR6
    refine CJ_R (show _ = R6 by rw [hR6e]; rfl) ?_
    refine CJ_loop [8, 21, 22, 23, 24, 25, 26, 27, 93, 94, 95, 96, 97, 98, 99, 100, 101, 102, 103, 104, 105, 106, 107, 108, 109, 110, 111, 112, 113, 114, 115, 116, 117, 118, 119, 120, 121, 122, 123, 124, 125, 126, 127, 128, 129, 130] ((⟨fun g => [(93, .int .i64 ((g.1 : Nat) : Int))], fun _ => ⟨b10, s.cells, 36⟩ :: cblk c (codes300 y) k4 :: [], fun _ => R6, fun g => 2 - g.1⟩ : Head {g : Nat // g ≤ 2})) (⟨0, by omega⟩) (by repeat' (first | exact trivial | refine And.intro rfl ?_)) (List.Sublist.refl _) (allR_self _) ?_
    rintro ⟨i4, hi4⟩ junk
    try dsimp only
    refine qae ?_
    refine qaj ?_
    refine qa4 ?_
    refine q_c (fun hc5 => ?_) (fun hc5 => ?_)
    ·
     obtain ⟨v3, hv3, hv3'⟩ := two_get (a := 9 + md) (b := t) (i := i4) (by omega)
     refine qbb ?_
     refine LJ_q (by first | exact yv_index_ro tb rfl rfl rfl rfl (by first | assumption | exact zr (by simp)) (i := i4) (by first | rfl | omega | (simp; omega)) (by omega) | exact yv_index tb rfl rfl rfl rfl (i := i4) (by first | rfl | omega | (simp; omega)) (by omega)) rfl ?_
     refine qa7 ?_
     refine qad ?_
     refine qam ?_
     refine ycfab ?_
     refine qbm ?_
     refine qbm ?_
     refine qaa ?_
     refine LJ_call rfl (cuts_tri s v1 v2 v3 _ _ hs6 hv1R6 hv2R6) rfl ?_
     rintro v L' R' ⟨w1, n1, rfl, ⟨hw1k, hn1k⟩, hw1l, hn1l, rfl, rfl⟩
     refine LJ_q (yv_move rfl) rfl ?_
     iterate 3 refine qbs ?_
     refine qc4 ?_
     refine qc4 ?_
     refine qad ?_
     refine qam ?_
     refine ycfab ?_
     refine qbm ?_
     refine qbm ?_
     refine qaa ?_
     refine LJ_call rfl (refCuts_tri s v1 v2 v3 _ _ hs6 hv1R6 hv2R6) rfl ?_
     rintro v L' R' ⟨w2, n2, rfl, ⟨hw2k, hn2k⟩, hw2l, hn2l, rfl, rfl⟩
     refine LJ_q (yv_move rfl) rfl ?_
     iterate 3 refine qbs ?_
     refine qc4 ?_
     refine qc4 ?_
     refine qad ?_
     refine qam ?_
     refine qaa ?_
     refine qaa ?_
     refine qbq ?_
     refine qah ?_
     apply LJ_or (G := [_, _, _, _]) (j := 3) (cj := 118) rfl rfl (by rfl) rfl (show _ = Value.bool _ from rfl) rfl
     ·
      intro hg4
      replace hg4 := qb hg4
      refine qbm ?_
      refine qbm ?_
      refine q_l rfl (sameCuts_own (by repeat (first | exact inB_here | apply inB_cons | apply inB_app)) (by repeat (first | exact inB_here | apply inB_cons | apply inB_app)) hw1k hw2k (hw1l.trans hw2l.symm)) ?_
      refine qb4 ?_
      exact qai
     intro junk4
     refine qah ?_
     apply LJ_or (G := [_, _, _, _]) (j := 9) (cj := 124) rfl rfl (by rfl) rfl (show _ = Value.bool _ from rfl) rfl
     ·
      intro hg10
      replace hg10 := qb hg10
      refine qbm ?_
      refine qbm ?_
      refine q_l rfl (ints_own (by repeat (first | exact inB_here | apply inB_cons | apply inB_app)) (by repeat (first | exact inB_here | apply inB_cons | apply inB_app)) hn1k hn2k (hn1l.trans hn2l.symm)) ?_
      refine qb4 ?_
      exact qai
     intro junk10
     refine qaf ?_
     refine q_c (fun hc6 => ?_) (fun hc6 => ?_)
     ·
      (exfalso; simp at hc6)
     refine qbj ?_
     refine qar ?_
     refine qaa ?_
     refine qav ?_
     exact q_k ⟨i4 + 1, by omega⟩
    refine CJ_exit (seqK_exit (loopK_exit (blockK_exit (blockK_normal (seqK_normal (CJ_region ?_))))))
    refine qar ?_
    refine qaa ?_
    refine qav ?_
    exact loopK_mk ⟨i3 + 1, by omega⟩ (by repeat (first | exact Off.refl | apply Off.upd rfl | apply Off.havoc rfl | apply Off.updL rfl | apply Off.left rfl)) (by repeat' (first | exact trivial | refine And.intro rfl ?_)) (by repeat (first | exact zs0 _ | exact zs1 _ | apply zs2 | apply zs3 | apply zs4 | apply zs5)) hR6 (by dsimp only; omega)
   refine CJ_exit (seqK_exit (loopK_exit (blockK_exit (blockK_normal (seqK_normal (CJ_region ?_))))))
   refine qar ?_
   refine qaa ?_
   refine qav ?_
   exact loopK_mk ⟨i2 + 1, by omega⟩ (by repeat (first | exact Off.refl | apply Off.upd rfl | apply Off.havoc rfl | apply Off.updL rfl | apply Off.left rfl)) (by repeat' (first | exact trivial | refine And.intro rfl ?_)) (by repeat (first | exact zs0 _ | exact zs1 _ | apply zs2 | apply zs3 | apply zs4 | apply zs5)) hR5 (by dsimp only; omega)
  refine qbk ?_
  refine q_l rfl (awake20_tri _ _) ?_
  refine qaz ?_
  refine qa0 ?_
  refine retK_ret (L' := []) (R' := R) (res1 rfl (rv_tmp (show _ = Value.bool _ from rfl))) ?hp ?hL ?hR
  case hp => exact ⟨rfl, rfl, rfl⟩
  case hL => exact List.nil_sublist _
  case hR => exact fun r hr => (up3 r hr).mono hR4
end Go.Proofs.Ytlgjgigciapkfaa
end
