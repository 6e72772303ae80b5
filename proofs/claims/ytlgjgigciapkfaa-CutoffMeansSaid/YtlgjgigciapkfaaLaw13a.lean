import Derived.Test.YtlgjgigciapkfaaEval
import Derived.Test.YtlgjgigciapkfaaOneR
import Derived.Laws.StructEq
import Derived.Test.YtlgjgigciapkfaaDraws
import Derived.Test.YtlgjgigciapkfaaRel
import Derived.Test.YtlgjgigciapkfaaLaw10a
import Derived.Test.YtlgjgigciapkfaaDraw13
section
/-
  Rules, the reference's: part, Right, Check, value, Eval. By an AI agent; no person has read it.
-/
set_option linter.unusedSimpArgs false
set_option linter.unusedVariables false
namespace Go.Proofs.Ytlgjgigciapkfaa
open Go.Aw Go
set_option maxRecDepth 20000
attribute [local irreducible] CJ LJ DJ Tri YV Gives seqK blockK loopK retK RV mergeK OwL.L
end Go.Proofs.Ytlgjgigciapkfaa
end
section
/-
  The states of zones: cutoff.Cuts and the reference's. By an AI agent; no person has read it.
-/
set_option linter.unusedSimpArgs false
set_option linter.unusedVariables false
namespace Go.Proofs.Ytlgjgigciapkfaa
open Go.Aw Go
set_option maxRecDepth 20000
attribute [local irreducible] CJ LJ DJ Tri YV Gives seqK blockK loopK retK RV mergeK OwL.L
section
variable {A9 B9 : Prop}
theorem ybwaa (h : B9 := by exact ⟨.nil, .nil, by rw [he]; rfl, ⟨OwL.nil_ok, OwL.nil_ok⟩, by rw [cutsC, if_pos (by omega)], by rw [cutsN, if_pos (by omega)], by rw [nil_L, nil_L]; rfl, rfl⟩) : B9 := h
end
theorem nowTo_succ {s : XSite} {v : List Int} {c : List XCut} {k : Nat} : nowTo s v c (k + 1) = if evalS (s.zones.l.getD k default).rule.l v ≠ -1 ∧ (c.getD k default).off = false then nowTo s v c k ++ [(k : Int)] else nowTo s v c k := rfl
theorem nowTo_len {s : XSite} {v : List Int} {c : List XCut} : ∀ n, (nowTo s v c n).length ≤ n
  | 0 => by simp [nowTo]
  | n + 1 => by
    have := nowTo_len (s := s) (v := v) (c := c) n
    rw [nowTo]
    split
    · rw [List.length_append, List.length_singleton]; omega
    · omega
theorem cuts_tri (s : XSite) (u : Arr Int) (c : Arr XCut) (t : Int) (L : List Blk) (R : List Sl) (hs : SiteR s R) (hv : InR (isl u) R) (hc : InR (cusl c) R) :
    Tri Try.prog 33 [s.val, u.val, c.val, .int .i64 t].toArray L R
      (fun z L' R' => ∃ (p : OwL XCut) (q : OwL Int), z = .tuple #[p.val, q.val, .int .i64 (cutsErr s u.l c.l t)] ∧ (p.ok 3 XCut.cells ∧ q.ok 1 icell) ∧ p.l = cutsC s u.l c.l t ∧ q.l = cutsN s u.l c.l t ∧ q.L 3 icell ++ (p.L 72 XCut.cells ++ L) = L' ∧ R = R') := by
  have hzR := hs.zones
  refine tri_enter 93 Try.call33 Try.func33 rfl rfl rfl ?_
  refine qae ?_
  refine qax ?_
  intro b4
  refine qc4 ?_
  refine qc4 ?_
  refine qad ?_
  refine qaw ?_
  refine LJ_q (yv_loadN (row := [_, _, _, _, _, _, _, _]) tb rfl rfl rfl (by repeat (first | exact zi0 | apply zi1 | apply zi2)) (by rfl) (by rfl)) rfl ?_
  refine q_l rfl (siteCheck_tri s _ _ hs) ?_
  refine qad ?_
  refine qam ?_
  refine qaa ?_
  refine qbq ?_
  refine qaf ?_
  refine q_c (fun hc0 => ?_) (fun hc0 => ?_)
  ·
   refine qae ?_
   refine qaa ?_
   refine qc4 ?_
   refine qc4 ?_
   refine qad ?_
   refine qbh ?_
   refine q_r (L' := L) (R' := R) (res3 rfl (rv_tmp (show _ = Value.slice _ _ _ from rfl)) (rv_tmp (show _ = Value.slice _ _ _ from rfl)) (rv_tmp (show _ = Value.int _ _ from rfl))) ?_
   have he : cutsErr s u.l c.l t = siteErr s := by rw [cutsErr, if_pos hc0]
   exact ybwaa
  have hsk := siteOk_of (s := s) (by omega)
  have hsl := hsk.len
  refine qbo ?_
  refine qbm ?_
  refine qag ?_
  refine qab ?_
  refine qac ?_
  refine qag ?_
  refine qbq ?_
  refine qah ?_
  apply LJ_or (G := [_, _, _, _, _, _]) (j := 6) (cj := 29) rfl rfl (by rfl) rfl (show _ = Value.bool _ from rfl) rfl
  ·
   intro hg7
   replace hg7 := qb hg7
   refine qbm ?_
   refine qag ?_
   refine qab ?_
   refine qac ?_
   refine qag ?_
   refine qbq ?_
   exact qai
  intro junk7
  refine qaf ?_
  refine q_c (fun hc1 => ?_) (fun hc1 => ?_)
  ·
   refine qae ?_
   refine qc4 ?_
   refine qc4 ?_
   refine qad ?_
   refine qbh ?_
   refine q_r (L' := L) (R' := R) (res3 rfl (rv_tmp (show _ = Value.slice _ _ _ from rfl)) (rv_tmp (show _ = Value.slice _ _ _ from rfl)) (rv_tmp (show _ = Value.int _ _ from rfl))) ?_
   have he : cutsErr s u.l c.l t = 11 := by rw [cutsErr, if_neg (by omega), if_pos (by omega)]
   exact ybwaa
  refine qbo ?_
  refine qaa ?_
  refine qaj ?_
  refine qah ?_
  apply LJ_or (G := [_, _]) (j := 2) (cj := 39) rfl rfl (by rfl) rfl (show _ = Value.bool _ from rfl) rfl
  ·
   intro hg3
   replace hg3 := qb hg3
   refine qaa ?_
   refine qa5 ?_
   exact qai
  intro junk3
  refine qaf ?_
  refine q_c (fun hc2 => ?_) (fun hc2 => ?_)
  ·
   refine qae ?_
   refine qc4 ?_
   refine qc4 ?_
   refine qad ?_
   refine qbh ?_
   refine q_r (L' := L) (R' := R) (res3 rfl (rv_tmp (show _ = Value.slice _ _ _ from rfl)) (rv_tmp (show _ = Value.slice _ _ _ from rfl)) (rv_tmp (show _ = Value.int _ _ from rfl))) ?_
   have he : cutsErr s u.l c.l t = 8 := by rw [cutsErr, if_neg (by omega), if_neg (by omega), if_pos (by omega)]
   exact ybwaa
  have he : cutsErr s u.l c.l t = 0 := by rw [cutsErr, if_neg (by omega), if_neg (by omega), if_neg (by omega)]
  refine qbv ?_
  refine qbm ?_
  refine LJ_g (gives_copy (f := XCut.cells) (xs := c) tb rfl rfl rfl (by decide) rfl rfl (hc) (fun _ => rfl) (by omega)) rfl ?_
  rintro v L' R' ⟨o44, rfl, hok44, rfl, rfl⟩
  refine qc4 ?_
  refine qa4 ?_
  obtain ⟨OO, hOO⟩ : ∃ OO, OO = o44 := ⟨_, rfl⟩
  rw [← hOO] at hok44 ⊢
  refine qay ?_
  refine qc4 ?_
  refine qaw ?_
  refine qab ?_
  refine qac ?_
  refine qag ?_
  refine qaa ?_
  refine qa2 ?_
  refine CJ_forget [(1, Value.slice _ _ _), (3, Value.int _ _), (12, Value.slice _ _ _), (13, Value.slice _ _ _), (46, Value.slice _ _ _), (47, Value.int _ _), (48, Value.int _ _)] (by repeat' (first | exact trivial | refine And.intro rfl ?_)) fun tq0 => ?_
  refine CJ_loop [13, 14, 15, 16, 17, 48, 49, 50, 51, 52, 53, 54, 55, 56, 57, 58, 59, 60, 61, 62, 63, 64, 65, 66, 67, 68, 69, 70, 71, 72, 73, 74, 75, 76, 77, 78, 79, 80, 81, 82, 83, 84, 85, 86, 87, 88, 89, 90] ((⟨fun g => [(48, .int .i64 ((g.1.1 : Nat) : Int)), (13, g.1.2.2.val)], fun g => g.1.2.2.L 3 icell ++ ((⟨OO, g.1.2.1⟩ : OwL XCut).L 72 XCut.cells ++ (⟨b4, s.cells, 36⟩ :: L)), fun _ => R, fun g => c.l.length - g.1.1⟩ : Head {g : Nat × List XCut × OwL Int // g.1 ≤ c.l.length ∧ WrO c.l (cutAt s u.l c.l t) g.1 g.2.1 ∧ g.2.2.ok 1 icell ∧ g.2.2.l = nowTo s u.l c.l g.1})) (⟨(0, c.l, OwL.nil), by dsimp only; omega, .zero, OwL.nil_ok, rfl⟩) (by repeat' (first | exact trivial | refine And.intro rfl ?_)) (by dsimp only; rw [nil_L, List.nil_append]; exact List.Sublist.refl _) (allR_self _) ?_
  rintro ⟨⟨k, cs, q⟩, hk, hW, hqk, hql⟩ junk
  try dsimp only
  dsimp only at hk hW hqk hql
  have hwl := hW.len
  have hck : (⟨OO, cs⟩ : OwL XCut).ok 3 XCut.cells := OwL.len_ok (fun _ => rfl) hok44 hwl
  have hqn : q.l.length ≤ k := by rw [hql]; exact nowTo_len k
  refine qae ?_
  refine qaj ?_
  refine qa4 ?_
  refine q_c (fun hc3 => ?_) (fun hc3 => ?_)
  ·
   have hzg := get_D (l := s.zones.l) (k := k) default (by omega)
   have hcg0 := get_D (l := c.l) (k := k) default (by omega)
   have hcg := hW.old k (Nat.le_refl _)
   rw [hcg0] at hcg
   have hWn := fun (x : XCut) => hW.next (x := x) (by omega)
   have hWs := hW.stay (i := k)
   have hns := nowTo_succ (s := s) (v := u.l) (c := c.l) (k := k)
   obtain ⟨z, hz⟩ : ∃ z, z = s.zones.l.getD k default := ⟨_, rfl⟩
   obtain ⟨ck, hcke⟩ : ∃ ck, ck = c.l.getD k default := ⟨_, rfl⟩
   obtain ⟨V, hV⟩ : ∃ V, V = evalS z.rule.l u.l := ⟨_, rfl⟩
   have hat : cutAt s u.l c.l t k = cutV V ck t := by rw [cutAt, hV, hz, hcke]
   rw [← hz] at hzg
   rw [← hcke] at hcg hcg0
   rw [← hz, ← hcke, ← hV] at hns
   rw [hat] at hWn
   rw [hat, hcg0] at hWs
   refine qbb ?_
   refine qaa ?_
   refine LJ_q (by first | exact yv_index_ro tb rfl rfl rfl rfl (by first | assumption | exact zr (by simp)) (i := k) (by first | rfl | omega | (simp; omega)) (by omega) | exact yv_index tb rfl rfl rfl rfl (i := k) (by first | rfl | omega | (simp; omega)) (by omega)) rfl ?_
   refine qdr ?_
   refine qaq ?_
   intro b15
   refine qad ?_
   refine qak ?_
   refine qam ?_
   refine qbm ?_
   refine qaa ?_
   refine LJ_q (yv_index_ow tb ((⟨OO, cs⟩ : OwL XCut)) _ rfl rfl ((show _ = Value.slice _ _ _ from rfl).trans (by simp only [OwL.val, hwl])) rfl (by assumption) (i := k) (by first | rfl | omega | (simp; omega)) (by first | omega | (dsimp only; omega) | (dsimp only; rw [List.length_set]; omega) | (dsimp only; simp only [List.length_set]; omega))) rfl ?_
   refine qc1 ?_
   refine qam ?_
   refine qab ?_
   refine qac ?_
   refine qbm ?_
   refine q_l rfl (rlEval_tri z.rule u _ _ (InR.rule hzR hzg) hv) ?_
   rw [← hV]
   refine qad ?_
   refine qaw ?_
   refine qaa ?_
   refine qbn ?_
   refine qaf ?_
   refine q_c (fun hc4 => ?_) (fun hc4 => ?_)
   ·
    refine qbi ?_
    refine qa6 ?_
    refine LJ_q (yv_nilCheck rfl) rfl ?_
    refine qb0 ?_
    refine LJ_q (yv_load1_ow tb ((⟨OO, cs⟩ : OwL XCut)) rfl rfl rfl (by repeat (first | apply OSeg.cons | exact OSeg.here | exact OSeg.last | exact OSeg.at (by assumption) | apply OSeg.app)) (by assumption) (fun _ => rfl) (by assumption) (by rfl)) rfl ?_
    refine qbn ?_
    refine qaf ?_
    refine q_c (fun hc5 => ?_) (fun hc5 => ?_)
    ·
     refine qay ?_
     refine qa6 ?_
     refine qaa ?_
     refine LJ_q (yv_nilCheck rfl) rfl ?_
     refine qb0 ?_
     refine LJ_g0 (gives_store1_ow tb ((⟨OO, cs⟩ : OwL XCut)) (⟨ck.off, t, ck.reason⟩) rfl rfl rfl rfl (by repeat (first | apply OSeg.cons | exact OSeg.here | exact OSeg.last | exact OSeg.at (by assumption) | apply OSeg.app)) (by assumption) (fun _ => rfl) (by assumption) (by decide) (by rfl) (by rfl)) ?_
     rintro v L' R' ⟨rfl, rfl⟩
     refine LJ_nil (seqK_normal (CJ_exit (seqK_exit (blockK_exit (seqK_normal (CJ_region ?_))))))
     refine qar ?_
     refine qaa ?_
     refine qav ?_
     exact q_k ⟨(k + 1, cs.set k ⟨ck.off, t, ck.reason⟩, q), by dsimp only; omega, hWn _ (by rw [cutV, if_pos hc4, if_pos hc5]), hqk, by dsimp only; rw [hns, if_neg (by omega)]; exact hql⟩
    refine CJ_skip (seqK_normal (CJ_exit (seqK_exit (blockK_exit (seqK_normal (CJ_region ?_))))))
    refine qar ?_
    refine qaa ?_
    refine qav ?_
    exact q_k ⟨(k + 1, cs, q), by dsimp only; omega, hWs (by rw [cutV, if_pos hc4, if_neg hc5]), hqk, by dsimp only; rw [hns, if_neg (by omega)]; exact hql⟩
   refine qbv ?_
   refine qa6 ?_
   refine LJ_q (yv_nilCheck rfl) rfl ?_
   refine qb0 ?_
   refine LJ_g0 (gives_store1_ow tb ((⟨OO, cs⟩ : OwL XCut)) (⟨ck.off, -1, ck.reason⟩) rfl rfl rfl rfl (by repeat (first | apply OSeg.cons | exact OSeg.here | exact OSeg.last | exact OSeg.at (by assumption) | apply OSeg.app)) (by assumption) (fun _ => rfl) (by assumption) (by decide) (by rfl) (by rfl)) ?_
   rintro v L' R' ⟨rfl, rfl⟩
   refine qa4 ?_
   have hck1 := OwL.set_ok (f := XCut.cells) (wd := 3) (p := (⟨OO, cs⟩ : OwL XCut)) (i := k) (x := ⟨ck.off, -1, ck.reason⟩) (fun _ => rfl) hck
   have hcg1 : (cs.set k ⟨ck.off, -1, ck.reason⟩)[k]? = some ⟨ck.off, -1, ck.reason⟩ := List.getElem?_set_self (by omega)
   refine qay ?_
   refine qa6 ?_
   refine LJ_q (yv_nilCheck rfl) rfl ?_
   refine qb0 ?_
   refine LJ_q (yv_load1_ow tb ((⟨OO, cs.set k ⟨ck.off, -1, ck.reason⟩⟩ : OwL XCut)) rfl rfl rfl (by repeat (first | apply OSeg.cons | exact OSeg.here | exact OSeg.last | exact OSeg.at (by assumption) | apply OSeg.app)) (by assumption) (fun _ => rfl) (by assumption) (by rfl)) rfl ?_
   refine qb4 ?_
   refine qaf ?_
   refine q_c (fun hc6 => ?_) (fun hc6 => ?_)
   ·
    have hck2 := OwL.set_ok (f := XCut.cells) (wd := 3) (p := (⟨OO, cs.set k ⟨ck.off, -1, ck.reason⟩⟩ : OwL XCut)) (i := k) (x := ⟨true, -1, ck.reason⟩) (fun _ => rfl) hck1
    have hcg2 : ((cs.set k ⟨ck.off, -1, ck.reason⟩).set k ⟨true, -1, ck.reason⟩)[k]? = some ⟨true, -1, ck.reason⟩ := List.getElem?_set_self (by rw [List.length_set]; omega)
    refine qae ?_
    refine qa6 ?_
    refine qa6 ?_
    refine qaa ?_
    refine LJ_q (yv_nilCheck rfl) rfl ?_
    refine qb0 ?_
    refine LJ_g0 (gives_store1_ow tb ((⟨OO, cs.set k ⟨ck.off, -1, ck.reason⟩⟩ : OwL XCut)) (⟨true, -1, ck.reason⟩) rfl rfl rfl rfl (by repeat (first | apply OSeg.cons | exact OSeg.here | exact OSeg.last | exact OSeg.at (by assumption) | apply OSeg.app)) (by assumption) (fun _ => rfl) (by assumption) (by decide) (by rfl) (by rfl)) ?_
    rintro v L' R' ⟨rfl, rfl⟩
    refine LJ_q (yv_nilCheck rfl) rfl ?_
    refine qb0 ?_
    refine LJ_g0 (gives_store1_ow tb ((⟨OO, (cs.set k ⟨ck.off, -1, ck.reason⟩).set k ⟨true, -1, ck.reason⟩⟩ : OwL XCut)) (⟨true, -1, V⟩) rfl rfl rfl rfl (by repeat (first | apply OSeg.cons | exact OSeg.here | exact OSeg.last | exact OSeg.at (by assumption) | apply OSeg.app)) (by assumption) (fun _ => rfl) (by assumption) (by decide) (by rfl) (by rfl)) ?_
    rintro v L' R' ⟨rfl, rfl⟩
    refine LJ_nil (seqK_normal (CJ_region ?_))
    refine qbm ?_
    refine qaa ?_
    refine qcx ?_
    rintro v L' R' ⟨b88, rfl, rfl, hR88⟩
    replace hR88 := hR88.symm; subst hR88
    refine LJ_g (gives_append1 (f := icell) (a := (k : Int)) tb rfl rfl rfl rfl (hqk) (by repeat (first | apply OSeg.cons | exact OSeg.here | exact OSeg.last | exact OSeg.at (by assumption) | apply OSeg.app)) (shown_own (by repeat (first | exact zi0 | apply zi1 | apply zi2)) rfl rfl) rfl (by first | omega | (simp only [List.length_cons, List.length_nil, List.length_append]; omega))) rfl ?_
    rintro v L' R' ⟨o89, rfl, hok89, rfl, rfl⟩
    refine qc4 ?_
    refine qcs ?_
    refine qar ?_
    refine qaa ?_
    refine qav ?_
    exact q_k ⟨(k + 1, ((cs.set k ⟨ck.off, -1, ck.reason⟩).set k ⟨true, -1, ck.reason⟩).set k ⟨true, -1, V⟩, (⟨o89, _⟩ : OwL Int)), by dsimp only; omega, by dsimp only; rw [List.set_set, List.set_set]; exact hWn _ (by rw [cutV, if_neg hc4, if_neg (by simpa using hc6)]), hok89, by dsimp only; rw [hns, if_pos ⟨hc4, by simpa using hc6⟩, hql]⟩
   refine qbj ?_
   refine qar ?_
   refine qaa ?_
   refine qav ?_
   exact q_k ⟨(k + 1, cs.set k ⟨ck.off, -1, ck.reason⟩, q), by dsimp only; omega, hWn _ (by rw [cutV, if_neg hc4, if_pos (by simpa using hc6)]; rw [show ck.off = true by simpa using hc6]), hqk, by dsimp only; rw [hns, if_neg (fun h => by have := h.2; simp [this] at hc6)]; exact hql⟩
  obtain rfl : k = c.l.length := by omega
  refine qbk ?_
  refine qbm ?_
  refine qbm ?_
  refine qc4 ?_
  refine qc4 ?_
  refine qad ?_
  refine qa0 ?_
  refine q_r (L' := q.L 3 icell ++ ((⟨OO, cs⟩ : OwL XCut).L 72 XCut.cells ++ L)) (R' := R) (res3 rfl (rv_tmp (show _ = Value.slice _ _ _ from rfl)) (rv_tmp (show _ = Value.slice _ _ _ from rfl)) (rv_tmp (show _ = Value.int _ _ from rfl))) ?_
  exact ⟨(⟨OO, cs⟩ : OwL XCut), q, by rw [he, OwL.val, OwL.val, hwl]; try rfl, ⟨hck, hqk⟩, by rw [cutsC, if_neg (by omega)]; exact hW.done, by rw [cutsN, if_neg (by omega)]; exact hql, rfl, rfl⟩
end Go.Proofs.Ytlgjgigciapkfaa
end
section
/-
  '==' between structs of numbers and truths, spans inside them. No program is named in the first part. By an AI agent; no person has read it.
-/
set_option linter.unusedSimpArgs false
set_option linter.unusedVariables false
namespace Go.Proofs.Ytlgjgigciapkfaa
open Go.Aw Go
inductive KC where
  | i
  | b
def KC.fits : KC → Value → Prop
  | .i, .int .i64 _ => True
  | .b, .bool _ => True
  | _, _ => False
def kFits : List KC → List Value → Prop
  | [], [] => True
  | k :: ks, v :: vs => k.fits v ∧ kFits ks vs
  | _, _ => False
def cellEq : Value → Value → Bool
  | .int _ a, .int _ b => decide (a = b)
  | .bool a, .bool b => decide (a = b)
  | _, _ => false
def cellsEq : List Value → List Value → Bool
  | a :: l, b :: m => cellEq a b && cellsEq l m
  | _, _ => true
theorem kFits_len : ∀ {ks : List KC} {l : List Value}, kFits ks l → l.length = ks.length
  | [], [], _ => rfl
  | [], _ :: _, h => h.elim
  | _ :: _, [], h => h.elim
  | k :: ks, v :: vs, h => by simp [kFits_len h.2]
theorem kFits_split : ∀ {ks ms : List KC} {l : List Value}, kFits (ks ++ ms) l → kFits ks (l.take ks.length) ∧ kFits ms (l.drop ks.length)
  | [], ms, l, h => ⟨by simp [kFits], by simpa using h⟩
  | k :: ks, ms, [], h => h.elim
  | k :: ks, ms, v :: vs, h => by
    have := kFits_split (ks := ks) (ms := ms) (l := vs) h.2
    exact ⟨⟨h.1, this.1⟩, this.2⟩
theorem cellsEq_split : ∀ (n : Nat) (l m : List Value), cellsEq l m = (cellsEq (l.take n) (m.take n) && cellsEq (l.drop n) (m.drop n))
  | 0, l, m => by simp [cellsEq]
  | n + 1, [], m => by simp [cellsEq]
  | n + 1, a :: l, [] => by simp [cellsEq]
  | n + 1, a :: l, b :: m => by
    simp only [List.take_succ_cons, List.drop_succ_cons, cellsEq]
    rw [cellsEq_split n l m, Bool.and_assoc]
section
variable {P : Program}
def FE (P : Program) (d : Nat) (I : TypeId) (ks : List KC) : Prop :=
  ∀ (xs ys : List Value) (off : Nat) (w : World), kFits ks ((xs.drop off).take ks.length) → kFits ks ((ys.drop off).take ks.length) →
    ∃ a b, (part I xs.toArray off).run P w = .ok a w ∧ (part I ys.toArray off).run P w = .ok b w ∧ (Op.equalIn d I a b).run P w = .ok (cellsEq ((xs.drop off).take ks.length) ((ys.drop off).take ks.length)) w
theorem part_one {I : TypeId} {xs : List Value} {off : Nat} {v : Value} {w : World} (hag : (isAgg I).run P w = .ok false w) (h : (xs.drop off).take 1 = [v]) : (part I xs.toArray off).run P w = .ok v w := by
  have hv : xs[off]? = some v := by
    have : ((xs.drop off).take 1)[0]? = some v := by rw [h]; rfl
    rw [List.getElem?_take] at this
    simpa using this
  simp only [part, Sem.run_bind, hag, Result.andThen_ok]
  simp [hv]
theorem one_of {l : List Value} {k : KC} (h : kFits [k] l) : ∃ v, l = [v] ∧ k.fits v := by
  match l, h with
  | [v], h => exact ⟨v, rfl, h.1⟩
theorem fe_int {d : Nat} {I : TypeId} (h : P.underlying I = some (.int .i64)) : FE P (d + 1) I [.i] := by
  intro xs ys off w hx hy
  have hag : (isAgg I).run P w = .ok false w := by simp [isAgg, run_underlying h]
  obtain ⟨u, hu, fu⟩ := one_of hx
  obtain ⟨v, hv, fv⟩ := one_of hy
  refine ⟨u, v, part_one hag hu, part_one hag hv, ?_⟩
  have hu' : (xs.drop off).take [KC.i].length = [u] := hu
  have hv' : (ys.drop off).take [KC.i].length = [v] := hv
  rw [hu', hv']
  match u, v, fu, fv with
  | .int .i64 a, .int .i64 b, _, _ =>
    rw [run_equalIn_int (P := P) w d I .i64 .i64 a b h, beq_dec]
    simp [cellsEq, cellEq]
theorem fe_bool {d : Nat} {I : TypeId} (h : P.underlying I = some .bool) : FE P (d + 1) I [.b] := by
  intro xs ys off w hx hy
  have hag : (isAgg I).run P w = .ok false w := by simp [isAgg, run_underlying h]
  obtain ⟨u, hu, fu⟩ := one_of hx
  obtain ⟨v, hv, fv⟩ := one_of hy
  refine ⟨u, v, part_one hag hu, part_one hag hv, ?_⟩
  have hu' : (xs.drop off).take [KC.b].length = [u] := hu
  have hv' : (ys.drop off).take [KC.b].length = [v] := hv
  rw [hu', hv']
  match u, v, fu, fv with
  | .bool a, .bool b, _, _ =>
    rw [run_equalIn_bool (P := P) w d I a b h]
    simp only [cellsEq, cellEq, Bool.and_true]
    cases a <;> cases b <;> rfl
def offsE : Nat → List (TypeId × List KC) → List (Bool × TypeId × Nat)
  | _, [] => []
  | o, (I, ks) :: l => (false, I, o) :: offsE (o + ks.length) l
theorem run_fields {d : Nat} : ∀ (pl : List (TypeId × List KC)) (fs : List Field) (xs ys : List Value) (off : Nat) (w : World), fs.map (fun f => (f.name == "_", f.type, f.offset)) = offsE off pl → (∀ p ∈ pl, FE P d p.1 p.2) →
    kFits (pl.flatMap (·.2)) (xs.drop off) → kFits (pl.flatMap (·.2)) (ys.drop off) → (Op.eqFields d xs.toArray ys.toArray fs).run P w = .ok (cellsEq (xs.drop off) (ys.drop off)) w
  | [], fs, xs, ys, off, w, hm, _, hx, hy => by
    have : fs = [] := by simpa [offsE] using hm
    subst this
    have h1 := kFits_len hx
    have h2 : xs.drop off = [] := List.eq_nil_of_length_eq_zero (by simpa using h1)
    rw [h2]
    simp [Op.eqFields, cellsEq]
  | (I, ks) :: pl, [], xs, ys, off, w, hm, _, _, _ => by simp [offsE] at hm
  | (I, ks) :: pl, f :: fs, xs, ys, off, w, hm, hp, hx, hy => by
    simp only [List.map_cons, offsE, List.cons.injEq, Prod.mk.injEq] at hm
    obtain ⟨⟨f1, f2, f3⟩, hm⟩ := hm
    have nf : f.name ≠ "_" := by simpa using f1
    rw [List.flatMap_cons] at hx hy
    obtain ⟨x1, x2⟩ := kFits_split hx
    obtain ⟨y1, y2⟩ := kFits_split hy
    obtain ⟨a, b, ha, hb, hab⟩ := hp (I, ks) List.mem_cons_self xs ys off w x1 y1
    have ih := run_fields pl fs xs ys (off + ks.length) w hm (fun p h => hp p (List.mem_cons_of_mem _ h)) (by rw [← List.drop_drop]; exact x2) (by rw [← List.drop_drop]; exact y2)
    simp only [Op.eqFields, if_pos nf, f2, f3, Sem.run_bind, ha, hb, hab, Result.andThen_ok, Sem.run_ite, Sem.run_pure]
    rw [cellsEq_split ks.length (xs.drop off) (ys.drop off), List.drop_drop, List.drop_drop]
    cases hc : cellsEq ((xs.drop off).take ks.length) ((ys.drop off).take ks.length) with
    | false => simp
    | true => simpa using ih
theorem run_strEq {d : Nat} {T : TypeId} {pl : List (TypeId × List KC)} (h1 : P.underlying T = some (.struct (P.fieldsOf T))) (h2 : P.stoodInHeld T = false) (h4 : (P.fieldsOf T).toList.map (fun f => (f.name == "_", f.type, f.offset)) = offsE 0 pl) (hp : ∀ p ∈ pl, FE P d p.1 p.2)
    {xs ys : List Value} {w : World} (hx : kFits (pl.flatMap (·.2)) xs) (hy : kFits (pl.flatMap (·.2)) ys) : (Op.equalIn (d + 1) T (.agg xs.toArray) (.agg ys.toArray)).run P w = .ok (cellsEq xs ys) w := by
  rw [run_equalIn_agg w d T _ _ h1 h2]
  exact run_fields pl _ xs ys 0 w h4 hp hx hy
structure StrEq (P : Program) (T : TypeId) (ks : List KC) : Prop where
  eq : ∀ (xs ys : List Value) (w : World), kFits ks xs → kFits ks ys → (Op.equalIn 10000 T (.agg xs.toArray) (.agg ys.toArray)).run P w = .ok (cellsEq xs ys) w
  guard : P.eqGuardType P.depth T = false
theorem strEq_of {T : TypeId} (pl : List (TypeId × List KC)) {ks : List KC} (h1 : P.underlying T = some (.struct (P.fieldsOf T))) (h2 : P.stoodInHeld T = false) (h3 : P.eqGuardType P.depth T = false) (h4 : (P.fieldsOf T).toList.map (fun f => (f.name == "_", f.type, f.offset)) = offsE 0 pl) (hk : pl.flatMap (·.2) = ks) (hp : ∀ p ∈ pl, FE P 9999 p.1 p.2) : StrEq P T ks :=
  ⟨fun xs ys w hx hy => run_strEq h1 h2 h4 hp (by rw [hk]; exact hx) (by rw [hk]; exact hy), h3⟩
end
section
variable {P : Program} {ρ : Operand → Value} {L : List Blk} {R : List Sl} {dst : Option Tmp} {ty : TypeId} {pos : String} {after : Array Edge} {guard : Option (Nat × Bool)} {T T2 : TypeId} {x y : Operand} {ks : List KC} {xs ys : List Value}
theorem yv_eql_str (hT : StrEq P T ks) (hx : ρ x = .agg xs.toArray) (hy : ρ y = .agg ys.toArray) (fx : kFits ks xs) (fy : kFits ks ys) {b : Bool} (hb : cellsEq xs ys = b) : YV P ⟨dst, .binOp .eql T x y T2, ty, pos, after, guard⟩ ρ L R (.bool b) := fun _ w _ => by
  have h1 := run_eqGuard_agg (P := P) w .eql T x y xs.toArray ys.toArray hT.guard
  simp only [execOp, hx, hy, Sem.run_bind, h1, Result.andThen_ok, run_eql_struct, hT.eq xs ys _ fx fy, hb]
  simp
end
theorem cutEq : StrEq Try.prog 72 [.b, .i, .i] :=
  strEq_of [(4, [.b]), (3, [.i]), (3, [.i])] (by kernel_rfl) (by kernel_rfl) (by kernel_rfl) (by kernel_rfl) rfl (by
    intro p hp
    simp only [List.mem_cons, List.not_mem_nil, or_false] at hp
    rcases hp with rfl | rfl | rfl
    · exact fe_bool (by kernel_rfl)
    · exact fe_int (by kernel_rfl)
    · exact fe_int (by kernel_rfl))
end Go.Proofs.Ytlgjgigciapkfaa
end
section
/-
  Raising and lowering: what they leave. By an AI agent; no person has read it.
-/
set_option linter.unusedSimpArgs false
set_option linter.unusedVariables false
namespace Go.Proofs.Ytlgjgigciapkfaa
open Go.Aw Go

section
variable {a : XAir} {s : XSetting} {A : List Bool} {l m : List Int} {k : Nat} {v : Int}
theorem next_up (h0 : PresOk l) (h : nextAt a s true l k = some v) : l.getD k 0 ≤ v ∧ 0 ≤ lowN a s (l.set k v) (k : Int) ∧ ∀ w, l.getD k 0 ≤ w → w < v → lowN a s (l.set k w) (k : Int) < 0 := by
  obtain ⟨d, d0, d1, dv, dg, dj⟩ := (first_nextS (room_in (h0.get k)).1 h).yes rfl
  have e : ∀ x, testG a s true l (k : Int) x = lowG a s l (k : Int) x := fun x => by rw [testG, if_pos rfl]
  rw [e, decide_eq_true_eq, Int.toNat_natCast] at dg
  have es : sgn true = 1 := rfl
  rw [es] at dv dj
  refine ⟨by omega, dg, fun w w1 w2 => ?_⟩
  have := dj (w - l.getD k 0) (by omega) (by omega)
  rw [show l.getD k 0 + 1 * (w - l.getD k 0) = w by omega, e, decide_eq_false_iff_not, Int.toNat_natCast] at this
  omega
theorem next_down (h0 : PresOk l) (h : nextAt a s false l k = some v) : v ≤ l.getD k 0 ∧ highN a s (l.set k v) (k : Int) ≤ 0 ∧ ∀ w, w ≤ l.getD k 0 → v < w → 0 < highN a s (l.set k w) (k : Int) := by
  obtain ⟨d, d0, d1, dv, dg, dj⟩ := (first_nextS (room_in (h0.get k)).1 h).yes rfl
  have e : ∀ x, testG a s false l (k : Int) x = highG a s l (k : Int) x := fun x => by rw [testG, if_neg (by decide)]
  rw [e, decide_eq_true_eq, Int.toNat_natCast] at dg
  have es : sgn false = -1 := rfl
  rw [es] at dv dj
  refine ⟨by omega, dg, fun w w1 w2 => ?_⟩
  have := dj (l.getD k 0 - w) (by omega) (by omega)
  rw [show l.getD k 0 + -1 * (l.getD k 0 - w) = w by omega, e, decide_eq_false_iff_not, Int.toNat_natCast] at this
  omega
end

theorem sweep_split {a : XAir} {s : XSetting} {A : List Bool} {up : Bool} {l : List Int} : ∀ {n : Nat} {m : List Int}, sweepTo a s A up l n = some m → ∀ k, k ≤ n → ∃ mk, sweepTo a s A up l k = some mk ∧ ∀ j : Nat, j < k → m[j]? = mk[j]?
  | 0, m, h, k, hk => by
    obtain rfl : k = 0 := by omega
    exact ⟨m, h, fun j hj => by omega⟩
  | n + 1, m, h, k, hk => by
    rcases Nat.lt_or_ge n k with h1 | h1
    · obtain rfl : k = n + 1 := by omega
      exact ⟨m, h, fun _ _ => rfl⟩
    · have h' := h
      rw [sweepTo, Option.bind_eq_some_iff] at h'
      obtain ⟨m1, e1, e2⟩ := h'
      obtain ⟨mk, f1, f2⟩ := sweep_split e1 k h1
      refine ⟨mk, f1, fun j hj => ?_⟩
      rw [← f2 j hj]
      split at e2
      · cases e2; rfl
      · obtain ⟨v, _, rfl⟩ := Option.map_eq_some_iff.1 e2
        rw [List.getElem?_set_ne (by omega)]
theorem sweep_fix {a : XAir} {s : XSetting} {A : List Bool} {up : Bool} {l : List Int} (hl : PresOk l) (hn : l.length = a.mine.places.l.length) (h : sweepTo a s A up l a.mine.places.l.length = some l) {k : Nat} (hk : k < a.mine.places.l.length) (hf : ¬ fixB a A k = true) : nextAt a s up l k = some (l.getD k 0) := by
  obtain ⟨m1, e1, e2⟩ := sweep_split h (k + 1) (by omega)
  have e1' := e1
  rw [sweepTo, Option.bind_eq_some_iff] at e1'
  obtain ⟨m0, f1, f2⟩ := e1'
  obtain ⟨m0', g1, g2⟩ := sweep_split h k (by omega)
  rw [f1] at g1
  cases g1
  have hS := sweepTo_swept hl f1
  have em : m0 = l := List.ext_getElem? fun j => by
    rcases Nat.lt_or_ge j k with h1 | h1
    · exact (g2 j h1).symm
    · exact hS.rest j h1
  subst em
  rw [if_neg hf] at f2
  obtain ⟨v, hv, rfl⟩ := Option.map_eq_some_iff.1 f2
  have := e2 k (by omega)
  rw [List.getElem?_set_self (by omega), get_D (l := m0) (k := k) 0 (by omega)] at this
  rw [hv, Option.some.inj this]
structure Moved (a : XAir) (A : List Bool) (up : Bool) (l m : List Int) : Prop where
  len : m.length = l.length
  le : ∀ j : Nat, if up = true then l.getD j 0 ≤ m.getD j 0 else m.getD j 0 ≤ l.getD j 0
  fix : ∀ j : Nat, fixB a A j = true → m.getD j 0 = l.getD j 0
theorem Moved.refl {a : XAir} {A : List Bool} {up : Bool} {l : List Int} : Moved a A up l l := ⟨rfl, fun j => by split <;> exact Int.le_refl _, fun _ _ => rfl⟩
theorem Moved.trans {a : XAir} {A : List Bool} {up : Bool} {l m n : List Int} (h : Moved a A up l m) (k : Moved a A up m n) : Moved a A up l n := by
  refine ⟨k.len.trans h.len, fun j => ?_, fun j hj => (k.fix j hj).trans (h.fix j hj)⟩
  have h1 := h.le j
  have h2 := k.le j
  split at h1
  · rename_i e; rw [if_pos e] at h2; rw [if_pos e]; omega
  · rename_i e; rw [if_neg e] at h2; rw [if_neg e]; omega
theorem sweep_moved {a : XAir} {s : XSetting} {A : List Bool} {up : Bool} {l : List Int} (hl : PresOk l) : ∀ {n : Nat} {m : List Int}, n ≤ l.length → sweepTo a s A up l n = some m → Moved a A up l m
  | 0, m, _, h => by cases h; exact .refl
  | n + 1, m, hn, h => by
    have h' := h
    rw [sweepTo, Option.bind_eq_some_iff] at h'
    obtain ⟨m0, e1, e2⟩ := h'
    have ih := sweep_moved hl (by omega) e1
    have hS := sweepTo_swept hl e1
    have hlen := hS.len
    split at e2
    · cases e2; exact ih
    · rename_i hf
      obtain ⟨v, hv, rfl⟩ := Option.map_eq_some_iff.1 e2
      refine ih.trans ⟨by simp, fun j => ?_, fun j hj => ?_⟩
      · rw [getD_setK (by omega)]
        cases up with
        | true =>
          have := (next_up hS.pres hv).1
          simp only [if_true]
          split
          · rename_i e; subst e; exact this
          · exact Int.le_refl _
        | false =>
          have := (next_down hS.pres hv).1
          simp only [Bool.false_eq_true, if_false]
          split
          · rename_i e; subst e; exact this
          · exact Int.le_refl _
      · rw [getD_setK (by omega), if_neg (fun e => hf (by rw [← e]; exact hj))]
theorem rounds_moved {a : XAir} {s : XSetting} {A : List Bool} {up : Bool} : ∀ {n : Nat} {l m : List Int}, PresOk l → l.length = a.mine.places.l.length → roundsS a s A up n l = some m → Moved a A up l m
  | 0, l, m, _, _, h => by cases h
  | n + 1, l, m, hl, hn, h => by
    rw [roundsS] at h
    split at h
    · cases h
    · rename_i m1 h1
      have hs := sweepTo_swept hl h1
      have hm := sweep_moved hl (by omega) h1
      split at h
      · cases h; exact hm
      · exact hm.trans (rounds_moved hs.pres (hs.len.trans hn) h)
theorem rounds_net {a : XAir} {s : XSetting} {A : List Bool} {n : Nat} {l m : List Int} {up : Bool} (hl : PresOk l) (hn : l.length = a.mine.places.l.length) (h : roundsS a s A up n l = some m) {k : Nat} (hk : k < a.mine.places.l.length) (hf : ¬ fixB a A k = true) :
    if up = true then 0 ≤ lowN a s m (k : Int) else highN a s m (k : Int) ≤ 0 := by
  obtain ⟨h1, h2, h3⟩ := roundsS_some hl h
  have hx := sweep_fix h2 (h1.trans hn) h3 hk hf
  cases up with
  | true =>
    have := (next_up h2 hx).2.1
    rw [set_self] at this
    simpa using this
  | false =>
    have := (next_down h2 hx).2.1
    rw [set_self] at this
    simpa using this

theorem relaxS_cases {a : XAir} {s : XSetting} {A : List Bool} {up : Bool} {ps : List Int} (h : StartOk a s ps A) : (relaxS a s A up ps).1 = 0 ∨ (relaxS a s A up ps).1 = 2 := by
  rw [relaxS, if_neg (by rw [startErr_iff.2 h]; decide)]
  split
  · exact .inr rfl
  · exact .inl rfl
theorem StartOk.moved {a : XAir} {s : XSetting} {A : List Bool} {up : Bool} {l : List Int} (h : StartOk a s l A) {n : Nat} {m : List Int} (hm : roundsS a s A up n l = some m) : StartOk a s m A := by
  obtain ⟨h1, h2, _⟩ := roundsS_some h.hp hm
  have h3 := rounds_moved h.hp h.hl hm
  exact ⟨h.h0, h.hf, h1.trans h.hl, h2, fun i hi hf => (h3.fix i hf).trans (h.fix i hi hf)⟩
theorem start_zero {a : XAir} {s : XSetting} {A : List Bool} (h0 : airErr a = 0) (hf : fitB a s = true) : StartOk a s (List.replicate a.mine.places.l.length 0) A := by
  refine ⟨h0, hf, by simp, fun p hp => ?_, fun i hi _ => ?_⟩
  · rw [(List.mem_replicate.1 hp).2]; decide
  · rw [List.getD_eq_getElem?_getD, List.getElem?_replicate]
    split <;> rfl
structure Solved (a : XAir) (s : XSetting) (A : List Bool) (lo hi : List Int) : Prop where
  lok : StartOk a s lo A
  hok : StartOk a s hi A
  le : ∀ i : Nat, lo.getD i 0 ≤ hi.getD i 0
  low : ∀ i : Nat, i < a.mine.places.l.length → ¬ fixB a A i = true → highN a s lo (i : Int) ≤ 0
  high : ∀ i : Nat, i < a.mine.places.l.length → ¬ fixB a A i = true → 0 ≤ lowN a s hi (i : Int)
theorem solve_facts {a : XAir} {s : XSetting} {A : List Bool} (h0 : airErr a = 0) (hf : fitB a s = true) : ((solveS a s A).1 = 0 ∧ Solved a s A (solveS a s A).2.1 (solveS a s A).2.2) ∨ (solveS a s A).1 = 2 := by
  have s0 := start_zero (A := A) h0 hf
  rw [solveS]
  dsimp only
  rcases relaxS_cases (up := false) s0 with e1 | e1
  · rw [if_neg (by omega)]
    obtain ⟨_, r1⟩ := relaxS_ok e1
    have s1 := s0.moved r1
    rcases relaxS_cases (up := true) s1 with e2 | e2
    · rw [if_neg (by omega)]
      obtain ⟨_, r2⟩ := relaxS_ok e2
      have s2 := s1.moved r2
      rcases relaxS_cases (up := false) s2 with e3 | e3
      · rw [if_neg (by omega)]
        obtain ⟨_, r3⟩ := relaxS_ok e3
        have s3 := s2.moved r3
        left
        refine ⟨rfl, s3, s2, fun i => ?_, fun i hi hn => ?_, fun i hi hn => ?_⟩
        · have := (rounds_moved s2.hp s2.hl r3).le i
          simpa using this
        · have := rounds_net s2.hp s2.hl r3 hi hn
          simpa using this
        · have := rounds_net s1.hp s1.hl r2 hi hn
          simpa using this
      · rw [if_pos (by omega)]
        exact .inr e3
    · rw [if_pos (by omega)]
      exact .inr e2
  · rw [if_pos (by omega)]
    exact .inr e1
theorem Solved.accept {a : XAir} {s : XSetting} {A : List Bool} {lo hi : List Int} (h : Solved a s A lo hi) {b : XBounds} (e1 : b.low.l = lo) (e2 : b.high.l = hi) : Accept a s b A := by
  refine ⟨⟨h.lok.h0, h.lok.hf, by rw [e1]; exact h.lok.hl, by rw [e2]; exact h.hok.hl, by rw [e1]; exact h.lok.hp, by rw [e2]; exact h.hok.hp⟩, fun i hi2 hf => ?_, fun i hi2 hf => ?_⟩
  · rw [e1, e2]; exact ⟨h.lok.fix i hi2 hf, h.hok.fix i hi2 hf⟩
  · rw [e1, e2]; exact ⟨h.high i hi2 hf, h.low i hi2 hf⟩

end Go.Proofs.Ytlgjgigciapkfaa
end
section
/-
  The bounds of a made air are no greater than a tenth of what is possible. By an AI agent; no person has read it.
-/
set_option linter.unusedSimpArgs false
set_option linter.unusedVariables false
namespace Go.Proofs.Ytlgjgigciapkfaa
open Go.Aw Go

section
variable {a : XAir} {s : XSetting} {x : XState} (h : MadeA a s x)
include h
end
section
variable {a : XAir} {s : XSetting} {x : XState} (h : MadeA a s x)
include h
end
end Go.Proofs.Ytlgjgigciapkfaa
end
section
/-
  Bounds that are drawn near an air. By an AI agent; no person has read it.
-/
set_option linter.unusedSimpArgs false
set_option linter.unusedVariables false
namespace Go.Proofs.Ytlgjgigciapkfaa
open Go.Aw Go
set_option maxRecDepth 20000
attribute [local irreducible] CJ LJ DJ Tri YV Gives seqK blockK loopK retK RV mergeK OwL.L

end Go.Proofs.Ytlgjgigciapkfaa
end
section
/-
  Statements about chapter 11: what accepted bounds prove of a state that fits. By an AI agent; no person has read it.
-/
set_option linter.unusedSimpArgs false
set_option linter.unusedVariables false
namespace Go.Proofs.Ytlgjgigciapkfaa
open Go.Aw Go
set_option maxRecDepth 20000
attribute [local irreducible] CJ LJ DJ Tri YV Gives seqK blockK loopK retK RV mergeK OwL.L

end Go.Proofs.Ytlgjgigciapkfaa
end
section
/-
  The sanity check of chapter 12: a mine with one road is solved. By an AI agent; no person has read it.
-/
set_option linter.unusedSimpArgs false
set_option linter.unusedVariables false
namespace Go.Proofs.Ytlgjgigciapkfaa
open Go.Aw Go

section
variable (b b' : Nat)
end
end Go.Proofs.Ytlgjgigciapkfaa
end
section
/-
  Statements about chapter 12: what they share. By an AI agent; no person has read it.
-/
set_option linter.unusedSimpArgs false
set_option linter.unusedVariables false
namespace Go.Proofs.Ytlgjgigciapkfaa
open Go.Aw Go
set_option maxRecDepth 20000
attribute [local irreducible] CJ LJ DJ Tri YV Gives seqK blockK loopK retK RV mergeK OwL.L

theorem ints_tri (x y : Arr Int) (L : List Blk) (R : List Sl) (hx : InR (isl x) R) (hy : InR (isl y) R) (he : x.l = y.l) :
    Tri Try.prog 28 [x.val, y.val].toArray L R (fun v L' R' => v = .bool true ∧ L = L' ∧ R = R') := by
  have hle : x.l.length = y.l.length := by rw [he]
  refine Tri_len Try.call28 hx fun hxn => ?_
  refine tri_enter 26 Try.call28 Try.func28 rfl rfl rfl ?_
  refine qae ?_
  refine qaz ?_
  refine qaw ?_
  refine qbm ?_
  refine qag ?_
  refine qbm ?_
  refine qag ?_
  refine qbq ?_
  refine qaf ?_
  refine q_c (fun hc0 => ?_) (fun hc0 => ?_)
  ·
   refine qae ?_
   refine qaz ?_
   refine qbh ?_
   refine q_b (L' := L) (R' := R) ?_
   exact absurd hc0 (by omega)
  refine qbo ?_
  refine qad ?_
  refine qa2 ?_
  refine CJ_forget [(0, Value.slice _ _ _), (1, Value.slice _ _ _), (5, Value.int _ _)] (by repeat' (first | exact trivial | refine And.intro rfl ?_)) fun tq0 => ?_
  refine q_s [4, 5, 11, 12, 13, 14, 15, 16, 17, 18, 19, 20, 21, 22, 23, 24, 25] (fun g : {k : Nat // k ≤ x.l.length} => [(5, .int .i64 ((g.1 : Nat) : Int))]) (fun g => x.l.length - g.1) (⟨0, by omega⟩) ?_
  rintro ⟨k, hk⟩ junk
  try dsimp only
  refine qbi ?_
  refine qaa ?_
  refine qbm ?_
  refine qag ?_
  refine qaj ?_
  refine qaf ?_
  refine q_c (fun hc1 => ?_) (fun hc1 => ?_)
  ·
   have h1 := get_D (l := x.l) (k := k) 0 (by omega)
   have h2 := get_D (l := y.l) (k := k) 0 (by omega)
   rw [← he] at h2
   rw [he] at h2
   refine CJ_skip (seqK_normal (CJ_seq (CJ_block (CJ_seq ?_))))
   refine CJ_drawn tb [0, 1, 2, 3, 4, 5, 6, 7, 8] _ mixed (by kernel_rfl) (List.Sublist.refl _) ?_
   refine DJ_q (yv_move (show _ = Value.slice _ _ _ from rfl)) rfl rfl rfl ?_
   refine qao ?_
   refine qds ?_
   refine qbl ?_
   refine DJ_q (yv_move (show _ = Value.slice _ _ _ from rfl)) rfl rfl rfl ?_
   refine qao ?_
   refine qds ?_
   refine qbl ?_
   refine DJ_q (yv_neq rfl rfl) rfl rfl rfl ?_
   refine qbu ?_
   refine q_c (fun hc2 => ?_) (fun hc2 => ?_)
   ·
    refine qae ?_
    refine qaz ?_
    refine qbt ?_
    refine q_b (L' := L) (R' := R) ?_
    exact absurd (show x.l.getD k 0 = y.l.getD k 0 by rw [he]) hc2
   refine qbj ?_
   refine qaa ?_
   refine qar ?_
   refine qad ?_
   refine qav ?_
   exact q_k (⟨k + 1, by omega⟩)
  refine qbk ?_
  refine qaz ?_
  refine qa0 ?_
  refine q_b (L' := L) (R' := R) ?_
  exact ⟨rfl, rfl, rfl⟩
end Go.Proofs.Ytlgjgigciapkfaa
end
section
/-
  Statements about chapter 13: the sanity check. By an AI agent; no person has read it.
-/
set_option linter.unusedSimpArgs false
set_option linter.unusedVariables false
namespace Go.Proofs.Ytlgjgigciapkfaa
open Go.Aw Go
set_option maxRecDepth 20000
attribute [local irreducible] CJ LJ DJ Tri YV Gives seqK blockK loopK retK RV mergeK OwL.L

section
variable (b b' : Nat)
end
end Go.Proofs.Ytlgjgigciapkfaa
end
