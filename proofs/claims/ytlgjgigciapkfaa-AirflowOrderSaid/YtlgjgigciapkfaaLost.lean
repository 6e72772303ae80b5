/-
  certify.Lost, and the reference's fixed places. By an AI agent; no person has read it.
-/
import Derived.Test.YtlgjgigciapkfaaCut
import Derived.Test.YtlgjgigciapkfaaReach
set_option linter.unusedSimpArgs false
set_option linter.unusedVariables false
namespace Go.Proofs.Ytlgjgigciapkfaa
open Go.Aw Go
set_option maxRecDepth 20000
attribute [local irreducible] CJ LJ DJ Tri YV Gives seqK blockK loopK retK RV mergeK OwL.L

theorem AiryIs.length {m : XMine} {A : List Bool} (h : AiryIs m A) : A.length = m.places.l.length := by rw [h.len]; simp [surf]
theorem lost_map {m : XMine} {A l : List Bool} (hA : AiryIs m A) (hl : l.length = m.places.l.length) (h : ∀ i : Nat, l.getD i false = true ↔ (i : Int) ∈ lostOf A m.places.l.length) : l = A.map (!·) := by
  have hAl := hA.length
  refine List.ext_getElem? fun i => ?_
  rcases Nat.lt_or_ge i m.places.l.length with hi | hi
  · rw [get_D (l := l) (k := i) false (by omega), List.getElem?_map, get_D (l := A) (k := i) false (by omega)]
    have h1 := h i
    rw [mem_lostOf] at h1
    have h2 : l.getD i false = true ↔ ¬ A.getD i false = true := h1.trans ⟨fun ⟨j, e, _, h3⟩ => by rw [show i = j from by omega]; exact h3, fun h3 => ⟨i, rfl, hi, h3⟩⟩
    simp only [Option.map_some, Option.some.injEq]
    cases ha : A.getD i false <;> cases hb : l.getD i false <;> simp_all
  · rw [List.getElem?_eq_none (by omega), List.getElem?_eq_none (by simp; omega)]

theorem lost_tri (m : XMine) (L : List Blk) (R : List Sl) (hm : MineR m R) (hok : MineOk m) (hv : mineErr m = 0) :
    Tri Try.prog 149 [m.val].toArray L R (fun w L' R' => ∃ (p : OwL Bool) (A : List Bool) (S : List Sl), w = p.val ∧ p.ok 1 blc ∧ AiryIs m A ∧ p.l = A.map (!·) ∧ p.L 4 blc ++ L = L' ∧ S ++ R = R') := by
  have hmp := hm.places
  have hnp := hok.places
  refine tri_enter 22 Try.call149 Try.func149 rfl rfl rfl ?_
  refine qae ?_
  refine qax ?_
  intro b1
  refine qc4 ?_
  refine qam ?_
  refine qab ?_
  refine qac ?_
  refine qag ?_
  refine qc7 ?_
  rintro v L' R' ⟨b9, rfl, rfl, hR9⟩
  replace hR9 := hR9.symm; subst hR9
  refine qc4 ?_
  refine qco ?_
  refine CJ_L (made_ow (f := blc) (x := false) rfl _) ?_
  refine qay ?_
  refine qbe ?_
  refine LJ_call rfl (cutOff_tri m _ _ hm hok hv) rfl ?_
  rintro v L' R' ⟨p, A, S, rfl, hpk, hA, hpl, rfl, rfl⟩
  have hpn := lostOf_length A m.places.l.length
  rw [← hpl] at hpn
  refine qag ?_
  refine qaa ?_
  refine qa2 ?_
  refine CJ_forget [(3, Value.slice _ _ _), (11, Value.slice _ _ _), (12, Value.int _ _), (13, Value.int _ _)] (by repeat' (first | exact trivial | refine And.intro rfl ?_)) fun tq0 => ?_
  refine q_p [5, 13, 14, 15, 16, 17, 18, 19, 20] ((⟨fun q => [(13, .int .i64 ((q.1.1 : Nat) : Int))], fun q => p.L 3 icell ++ ((⟨.own b9 m.places.l.length [], q.1.2⟩ : OwL Bool).L 4 blc ++ (⟨b1, m.cells, 26⟩ :: L)), fun _ => S ++ R, fun q => p.l.length - q.1.1⟩ : Head {q : Nat × List Bool // q.1 ≤ p.l.length ∧ q.2.length = m.places.l.length ∧ ∀ i : Nat, q.2.getD i false = true ↔ ∃ j : Nat, j < q.1 ∧ p.l[j]? = some (i : Int)})) (⟨(0, List.replicate m.places.l.length false), by dsimp only; omega, by simp, fun i => ⟨fun h => (by simp [List.getD_eq_getElem?_getD, List.getElem?_replicate] at h; split at h <;> simp at h), fun ⟨j, hj, _⟩ => (by omega)⟩⟩) ?_
  rintro ⟨⟨k, l⟩, q1, hll, q3⟩ junk
  try dsimp only
  dsimp only at q1 hll q3
  have hkf : (⟨.own b9 m.places.l.length [], l⟩ : OwL Bool).ok 1 blc := by have := made_ok (f := blc) (wd := 1) (b := b9) (n := m.places.l.length) (x := false) blc_len (by simp only [maxLen]; omega); exact OwL.len_ok blc_len this (by simp; exact hll)
  refine qae ?_
  refine qaj ?_
  refine qa4 ?_
  refine q_c (fun hc0 => ?_) (fun hc0 => ?_)
  ·
   have hg := get_D (l := p.l) (k := k) 0 (by omega)
   have hmem := List.mem_of_getElem? hg
   rw [hpl] at hmem
   obtain ⟨u, hve, hvl, hvA⟩ := mem_lostOf.1 hmem
   rw [← hpl] at hve
   rw [hve] at hg
   have hlg := get_D (l := l) (k := u) false (by omega)
   refine qbb ?_
   refine LJ_q (yv_index_ow tb (p) _ rfl rfl rfl rfl (by assumption) (i := k) (by first | rfl | omega | (simp; omega)) (by first | omega | (dsimp only; omega) | (dsimp only; rw [List.length_set]; omega))) rfl ?_
   refine LJ_q (yv_load1_ow tb (p) rfl rfl rfl (by repeat (first | apply OSeg.cons | exact OSeg.here | exact OSeg.last | exact OSeg.at (by assumption) | apply OSeg.app)) (by assumption) (fun _ => rfl) (by assumption) (by rfl)) rfl ?_
   refine qad ?_
   refine LJ_nil (seqK_normal (CJ_region ?_))
   refine qbm ?_
   refine qaa ?_
   refine LJ_q (yv_index_ow tb ((⟨.own b9 m.places.l.length [], l⟩ : OwL Bool)) _ rfl rfl ((show _ = Value.slice _ _ _ from rfl).trans (own_val hll)) rfl (by assumption) (i := u) (by first | rfl | omega | (simp; omega)) (by first | omega | (dsimp only; omega) | (dsimp only; rw [List.length_set]; omega))) rfl ?_
   refine LJ_g0 (gives_store1_ow tb ((⟨.own b9 m.places.l.length [], l⟩ : OwL Bool)) (true) rfl rfl rfl rfl (by repeat (first | apply OSeg.cons | exact OSeg.here | exact OSeg.last | exact OSeg.at (by assumption) | apply OSeg.app)) (by assumption) (fun _ => rfl) (by assumption) (by decide) (by rfl) (by rfl)) ?_
   rintro v L' R' ⟨rfl, rfl⟩
   refine qcs ?_
   refine qar ?_
   refine qaa ?_
   refine qav ?_
   exact loopK_mk ⟨(k + 1, l.set u true), by dsimp only; omega, by simp; exact hll, fun i => by
   dsimp only
   rw [getD_setB (by omega)]
   split
   · rename_i e
     exact ⟨fun _ => ⟨k, by omega, by rw [e]; exact hg⟩, fun _ => rfl⟩
   · rename_i e
     refine (q3 i).trans ⟨fun ⟨j, h1, h2⟩ => ⟨j, by omega, h2⟩, fun ⟨j, h1, h2⟩ => ?_⟩
     rcases Nat.lt_or_ge j k with h4 | h4
     · exact ⟨j, h4, h2⟩
     · obtain rfl : j = k := by omega
       rw [hg] at h2
       exact absurd (by have := Option.some.inj h2; omega) e⟩ (by repeat (first | exact Off.refl | apply Off.upd rfl | apply Off.havoc rfl | apply Off.updL rfl | apply Off.left rfl)) (by repeat' (first | exact trivial | refine And.intro rfl ?_)) (by repeat (first | exact zs0 _ | exact zs1 _ | apply zs2 | apply zs3 | apply zs4 | apply zs5)) (allR_self _) (by dsimp only; omega)
  ·
   obtain rfl : k = p.l.length := by omega
   have hlm := lost_map hA hll (fun i => by
     rw [q3 i, ← hpl, List.mem_iff_getElem?]
     exact ⟨fun ⟨j, _, h⟩ => ⟨j, h⟩, fun ⟨j, h⟩ => ⟨j, (List.getElem?_eq_some_iff.1 h).1, h⟩⟩)
   refine qbk ?_
   refine qbm ?_
   refine qc4 ?_
   refine qa0 ?_
   refine q_r (L' := (⟨.own b9 m.places.l.length [], l⟩ : OwL Bool).L 4 blc ++ L) (R' := S ++ R) (res1 rfl (rv_tmp (show _ = Value.slice _ _ _ from rfl))) ?_
   exact ⟨(⟨.own b9 m.places.l.length [], l⟩ : OwL Bool), A, S, own_val hll, hkf, hA, hlm, rfl, rfl⟩

end Go.Proofs.Ytlgjgigciapkfaa
