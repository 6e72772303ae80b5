/-
  Statements about chapter 10: searches. By an AI agent; no person has read it.
-/
import Derived.Test.YtdnhinkamcfpkaaLaw10a
set_option linter.unusedSimpArgs false
set_option linter.unusedVariables false
namespace Go.Proofs.Ytdnhinkamcfpkaa
open Go.Aw Go
set_option maxRecDepth 20000
attribute [local irreducible] CJ LJ DJ Tri YV Gives seqK blockK loopK retK RV mergeK OwL.L

theorem balanceSearches_law (y raw : Arr Int) (place : Int) (R : List Sl) (hy : CodesR y R) (hraw : InR (isl raw) R) (_ : ∀ n ∈ raw.l, I64 n) (h1 : I64 place) :
    Tri Try.prog 8 [y.val, raw.val, .int .i64 place].toArray [] R (fun v L' R' => v = .bool true ∧ [] = L' ∧ R = R') := by
  refine tri_enter 102 Try.call8 Try.func8 rfl rfl rfl ?_
  refine qae ?_
  refine qaz ?_
  refine qam ?_
  refine qbm ?_
  refine LJ_call rfl (new_tri y _ _ hy) rfl ?_
  rintro v L' R' ⟨c, rfl, hx, rfl, rfl⟩
  refine qc1 ?_
  refine qam ?_
  refine qa6 ?_
  refine LJ_call rfl (made1 (.consL .nil) hx (Nat.zero_le _)) rfl ?_
  rintro v L' R' ⟨m, k1, S, rfl, hm, hMA, hif, hid, hk1, rfl, rfl⟩
  simp only [List.append_assoc, List.cons_append, List.nil_append]
  refine LJ_q (yv_move rfl) rfl ?_
  refine qbs ?_
  refine qbs ?_
  refine qbs ?_
  refine qaq ?_
  intro b8
  refine qaq ?_
  intro b9
  refine qaq ?_
  intro b10
  refine qak ?_
  refine qak ?_
  refine qak ?_
  refine qa4 ?_
  refine CJ_made (A := []) hm hMA (fun f hf => (hif f hf).mono fun r hr => inR_self (by simp [hr])) (fun f hf => (hid f hf).mono fun r hr => inR_self (by simp [hr])) fun a s x R1 hMA hA hT hX hR1 => ?_
  refine qb1 ?_
  obtain ⟨_, hae, hff, hri, hfo⟩ := hMA.b
  have hx1 : CodesR (codes300 y) R1 := hx.mono fun r hr => hR1 r (by simp [hr])
  have hnp := hMA.nplaces
  have hR0 : ∀ r ∈ R, InR r R1 := fun r hr => hR1 r (by simp [hr])
  have hraw1 : InR (isl raw) R1 := hraw.mono hR0
  refine qay ?_
  refine qa6 ?_
  refine qa8 ?_
  refine qbe ?_
  refine LJ_call rfl (around1 (.consB (.consB (.consB (.consL .nil)))) hx1 hk1 hA hX hMA) rfl ?_
  rintro v L' R' ⟨l, k2, rfl, hl, hal, hk2, rfl, rfl⟩
  simp only [List.append_assoc, List.cons_append, List.nil_append]
  refine qc4 ?_
  refine qa4 ?_
  refine CJ_frz1 (A := [_, _, _]) (wd := 1) [] (fun _ => rfl) (by decide) hl (fun s hs => by cases hs) ?_
  refine qb1 ?_
  have hllen := hal.len
  have hla : l.arr.l.length = l.l.length := rfl
  have hR2 : ∀ r ∈ R1, InR r (isl l.arr :: R1) := fun r hr => inR_self (.tail _ hr)
  have hA2 := airR_mono hA hR2
  have hT2 := setR_mono hT hR2
  have hX2 := stateR_mono hX hR2
  have hl2 : InR (isl l.arr) (isl l.arr :: R1) := inR_self (.head _)
  refine qay ?_
  refine qaa ?_
  refine qbm ?_
  refine qag ?_
  refine qar ?_
  refine q_l rfl (mod_tri _ _ _ _ h1 (by omega)) ?_
  refine qad ?_
  refine qco ?_
  obtain ⟨k, hk⟩ : ∃ k, k = modS place ((l.l.length : Int) + 1) := ⟨_, rfl⟩
  rw [← hk]
  refine qay ?_
  refine qbm ?_
  refine qab ?_
  refine qac ?_
  refine qbm ?_
  refine LJ_g (gives_buildSlice (qs := [(0, (Value.slice _ _ _).cells.toList), (1, (Value.slice _ _ _).cells.toList), (2, (Value.slice _ _ _).cells.toList)]) (out := [_, _, _]) tb rfl rfl rfl rfl rfl rfl rfl) rfl ?_
  rintro v L' R' ⟨b44, rfl, rfl, hR44⟩
  replace hR44 := hR44.symm; subst hR44
  refine qag ?_
  refine qaa ?_
  refine qa2 ?_
  refine CJ_forget [(8, Value.pointer _), (9, Value.pointer _), (12, Value.int _ _), (44, Value.slice _ _ _), (45, Value.int _ _), (46, Value.int _ _)] (by repeat' (first | exact trivial | refine And.intro rfl ?_)) fun tq0 => ?_
  refine CJ_frz (wd := 1) (len := 3) (cap := 3) (rows := [l.arr, x.pres, raw].map acell) (subs := [l.arr, x.pres, raw].map isl) rfl (by decide) (by decide) (fun r hr => by obtain ⟨y, _, rfl⟩ := List.mem_map.1 hr; rfl) (by decide) rfl (fun s hs => by
    simp only [List.map_cons, List.map_nil, List.mem_cons, List.not_mem_nil, or_false] at hs
    rcases hs with rfl | rfl | rfl
    · exact hl2
    · exact hX2.pres
    · exact hraw1.mono hR2) ?_
  obtain ⟨xs, hxs⟩ : ∃ xs : Arr (Arr Int), xs = ⟨some ⟨b44, 0, none⟩, 3, [l.arr, x.pres, raw]⟩ := ⟨_, rfl⟩
  refine CJ_weak (R' := aasl xs :: isl l.arr :: R1) (List.Sublist.refl _) (fun r hr => inR_self (by rw [hxs] at hr; exact hr)) ?_
  have hR3 : ∀ r ∈ isl l.arr :: R1, InR r (aasl xs :: isl l.arr :: R1) := fun r hr => inR_self (.tail _ hr)
  have hA3 := airR_mono hA2 hR3
  have hT3 := setR_mono hT2 hR3
  have hxI : InR (aasl xs) (aasl xs :: isl l.arr :: R1) := inR_self (.head _)
  refine q_s [6, 14, 15, 16, 17, 18, 19, 20, 21, 22, 46, 47, 48, 49, 50, 51, 52, 53, 54, 55, 56, 57, 58, 59, 60, 61, 62, 63, 64, 65, 66, 67, 68, 69, 70, 71, 72, 73, 74, 75, 76, 77, 78, 79, 80, 81, 82, 83, 84, 85, 86, 87, 88, 89, 90, 91, 92, 93, 94, 95, 96, 97, 98, 99, 100] (fun g : {k : Nat // k ≤ 3} => [(46, .int .i64 ((g.1 : Nat) : Int))]) (fun g => 3 - g.1) (⟨0, by omega⟩) ?_
  rintro ⟨j, hj⟩ junk
  try dsimp only
  refine qae ?_
  refine qaj ?_
  refine qa4 ?_
  refine q_c (fun hc0 => ?_) (fun hc0 => ?_)
  ·
   have hxj := get_D (l := xs.l) (k := j) default (by rw [hxs]; simp; omega)
   have hzI := InR.arr hxI hxj
   refine qbb ?_
   refine LJ_q (yv_index_ro (ar := xs.a) (len := xs.l.length) (cap := xs.cap) tb rfl rfl (by rw [hxs]; rfl) rfl hxI rfl (by rw [hxs]; simp; omega)) rfl ?_
   refine qa7 ?_
   refine qc4 ?_
   refine qam ?_
   refine qa8 ?_
   refine qbe ?_
   refine qbm ?_
   refine qaa ?_
   refine LJ_call rfl (balLeast_tri a s (xs.l.getD j default) k _ _ hA3 hT3 hzI) rfl ?_
   rintro v L' R' ⟨z1, ok1, rfl, g1, rfl, rfl⟩
   refine LJ_q (yv_move rfl) rfl ?_
   refine qbs ?_
   refine qbs ?_
   refine qad ?_
   refine qaz ?_
   refine qam ?_
   refine qa8 ?_
   refine qbe ?_
   refine qbm ?_
   refine qaa ?_
   refine LJ_call rfl (refLeast_tri a s (xs.l.getD j default) k _ _ hA3 hT3 hzI) rfl ?_
   rintro v L' R' ⟨z2, ok2, rfl, g2, rfl, rfl⟩
   refine LJ_q (yv_move rfl) rfl ?_
   refine qbs ?_
   refine qbs ?_
   refine qad ?_
   refine qaz ?_
   refine qam ?_
   refine qa8 ?_
   refine qbe ?_
   refine qbm ?_
   refine qaa ?_
   refine LJ_call rfl (balGreatest_tri a s (xs.l.getD j default) k _ _ hA3 hT3 hzI) rfl ?_
   rintro v L' R' ⟨z3, ok3, rfl, g3, rfl, rfl⟩
   refine LJ_q (yv_move rfl) rfl ?_
   refine qbs ?_
   refine qbs ?_
   refine qad ?_
   refine qaz ?_
   refine qam ?_
   refine qa8 ?_
   refine qbe ?_
   refine qbm ?_
   refine qaa ?_
   refine LJ_call rfl (refGreatest_tri a s (xs.l.getD j default) k _ _ hA3 hT3 hzI) rfl ?_
   rintro v L' R' ⟨z4, ok4, rfl, g4, rfl, rfl⟩
   refine LJ_q (yv_move rfl) rfl ?_
   refine qbs ?_
   refine qbs ?_
   refine qad ?_
   refine qaz ?_
   refine qa4 ?_
   obtain ⟨rfl, rfl⟩ := g1.unique g2
   obtain ⟨rfl, rfl⟩ := g3.unique g4
   refine qay ?_
   refine qaa ?_
   refine qaa ?_
   refine qbq ?_
   refine qah ?_
   apply LJ_or (G := [_, _, _]) (j := 3) (cj := 85) rfl rfl (by rfl) rfl (show _ = Value.bool _ from rfl) rfl
   ·
    intro hg4
    replace hg4 := qb hg4
    refine qah ?_
    refine qah ?_
    refine LJ_q (yv_neq_bool tb rfl rfl rfl) rfl ?_
    exact qai
   intro junk4
   refine qah ?_
   apply LJ_or (G := [_, _, _]) (j := 8) (cj := 90) rfl rfl (by rfl) rfl (show _ = Value.bool _ from rfl) rfl
   ·
    intro hg9
    replace hg9 := qb hg9
    refine qaa ?_
    refine qaa ?_
    refine qbq ?_
    exact qai
   intro junk9
   refine qah ?_
   apply LJ_or (G := [_, _, _]) (j := 13) (cj := 95) rfl rfl (by rfl) rfl (show _ = Value.bool _ from rfl) rfl
   ·
    intro hg14
    replace hg14 := qb hg14
    refine qah ?_
    refine qah ?_
    refine LJ_q (yv_neq_bool tb rfl rfl rfl) rfl ?_
    exact qai
   intro junk14
   refine qaf ?_
   refine q_c (fun hc1 => ?_) (fun hc1 => ?_)
   ·
    (simp at hc1)
   ·
    refine qbj ?_
    refine qar ?_
    refine qaa ?_
    refine qav ?_
    exact q_k ⟨j + 1, by omega⟩
  ·
   refine qbk ?_
   refine q_l rfl (awake10_tri _ _) ?_
   refine qaz ?_
   refine qa0 ?_
   refine retK_ret (L' := []) (R' := R) (res1 rfl (rv_tmp (show _ = Value.bool _ from rfl))) ?hp ?hL ?hR
   case hp => exact ⟨rfl, rfl, rfl⟩
   case hL => exact List.nil_sublist _
   case hR => exact fun r hr => (((hR0 r hr).mono hR2)).mono fun s hs => inR_self (by simp [hs])
end Go.Proofs.Ytdnhinkamcfpkaa
