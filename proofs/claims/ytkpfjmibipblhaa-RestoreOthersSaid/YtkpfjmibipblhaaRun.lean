/-
  The steps of a walk under short names: what a step asks is shown by the tactic that stands with its name. Written by a program of ours (mkrun.py). By an AI agent; no person has read it.
-/
import Derived.Test.YtkpfjmibipblhaaTab
import Derived.Test.YtkpfjmibipblhaaOwn
set_option linter.unusedSimpArgs false
set_option linter.unusedVariables false
namespace Go.Proofs.Ytkpfjmibipblhaa
open Go.Aw Go
section
variable {A B : Prop}
theorem qb {b v : Bool} {p : Prop} (h : b = v) (e : (b = v) = p := by (try simp only [zb1, zb2, zb3, zb4, zb5, zb6, zb7, zb8]); (first | done | exact rfl)) : p := e.mp h

section
variable {P : Program} {fn : Func} {Post : VPost} {n m : Nat} {t : Nat → Value} {L L' : List Blk} {R R' : List Sl} {Q K : TPost} {all : Array Oper} {ty : TypeId} {pos : String} {after : Array Edge} {rest : List Oper} {d : Tmp} {g : Option (Nat × Bool)} {Lc Lc2 : List Blk} {late : List Nat} {v a : Value} {f : FuncId} {xs : List Operand} {ts : Array TypeId} {args : List Value} {L2 : List Blk} {R2 : List Sl}
theorem q_r (h : ∀ c n a w, Fr n t a → St c L R w → (results fn a.tmps).run Try.prog w = .ok v w) (hp : Post v L' R') (hL : L'.Sublist L := by exact (by repeat (first | exact zs0 _ | exact zs1 _ | apply zs2 | apply zs3 | apply zs4 | apply zs5))) (hR : ∀ r ∈ R', InR r R := by exact allR_self _) : retK Try.prog fn Post .ret t L R := retK_ret h hp hL hR
theorem q_i (hp : Post v L' R') (h : ∀ c n a w, Fr n t a → St c L R w → (results fn a.tmps).run Try.prog w = .ok v w := by exact res1 rfl (rv_tmp (show _ = Value.int _ _ from rfl))) (hL : L'.Sublist L := by exact (by repeat (first | exact zs0 _ | exact zs1 _ | apply zs2 | apply zs3 | apply zs4 | apply zs5))) (hR : ∀ r ∈ R', InR r R := by exact allR_self _) : retK Try.prog fn Post .ret t L R := retK_ret h hp hL hR
theorem q_b (hp : Post v L' R') (h : ∀ c n a w, Fr n t a → St c L R w → (results fn a.tmps).run Try.prog w = .ok v w := by exact res1 rfl (rv_tmp (show _ = Value.bool _ from rfl))) (hL : L'.Sublist L := by exact (by repeat (first | exact zs0 _ | exact zs1 _ | apply zs2 | apply zs3 | apply zs4 | apply zs5))) (hR : ∀ r ∈ R', InR r R := by exact allR_self _) : retK Try.prog fn Post .ret t L R := retK_ret h hp hL hR
theorem q_c {x : Operand} {A B : Code} {b : Bool} {p q : Prop} (ht : p → CJ Try.prog n A t L R Q) (hf : q → CJ Try.prog n B t L R Q) (hc : ev t x = .bool b := by exact (show _ = Value.bool _ from rfl)) (hp : (b = true) = p := by (try simp only [zb1, zb2, zb3, zb4, zb5, zb6, zb7, zb8]); (first | done | exact rfl)) (hq : (b = false) = q := by (try simp only [zb1, zb2, zb3, zb4, zb5, zb6, zb7, zb8]); (first | done | exact rfl)) : CJ Try.prog n (.cond x A B) t L R Q :=
  CJ_cond hc (fun h => ht (hp.mp h)) (fun h => hf (hq.mp h))
theorem q_l (ha : xs.map (ev t) = args) (h : Tri Try.prog f args.toArray L R (fun v L' R' => v = a ∧ L2 = L' ∧ R2 = R')) (k : LJ Try.prog n all rest (upd t d a) L2 R2 Q) (hd : Nat.blt d n = true := by exact rfl) : LJ Try.prog n all (⟨some d, .call ⟨.value (.func f), xs.toArray, ts⟩, ty, pos, after, none⟩ :: rest) t L R Q :=
  LJ_call ha h hd fun _ _ _ ⟨e1, e2, e3⟩ => by subst e1; subst e2; subst e3; exact k
theorem q_d (ha : xs.map (ev t) = args) (h : Tri Try.prog f args.toArray L R (fun v L' R' => v = a ∧ L2 = L' ∧ R2 = R')) (k : DJ Try.prog tb n all Lc K rest (upd t d a) L2 R2) (hw : wantT all t g = true := by exact rfl) (hd : Nat.blt d n = true := by exact rfl) (hL : Lc.Sublist L2 := by exact (by repeat (first | exact zs0 _ | exact zs1 _ | apply zs2 | apply zs3 | apply zs4 | apply zs5))) (hR : ∀ r ∈ R, InR r R2 := by first | exact allR_self _ | exact (fun r h => inR_self (by simp [h]))) : DJ Try.prog tb n all Lc K (⟨some d, .call ⟨.value (.func f), xs.toArray, ts⟩, ty, pos, after, g⟩ :: rest) t L R :=
  DJ_call ha h hw hd fun _ _ _ ⟨e1, e2, e3⟩ => by subst e1; subst e2; subst e3; exact ⟨hL, hR, k⟩
theorem q_k {γ : Type} {ws : List Nat} {t0 : Nat → Value} {hd : Head γ} {m0 : Nat} (g : γ) (ho : Off ws t0 t := by exact (by repeat (first | exact Off.refl | apply Off.upd rfl | apply Off.havoc rfl | apply Off.updL rfl | apply Off.left rfl))) (hs : Shows t (hd.slots g) := by exact (by repeat' (first | exact trivial | refine And.intro rfl ?_))) (hL : (hd.L g).Sublist L := by exact (by repeat (first | exact zs0 _ | exact zs1 _ | apply zs2 | apply zs3 | apply zs4 | apply zs5))) (hR : ∀ r ∈ hd.R g, InR r R := by exact allR_self _) (hm : hd.m g < m0 := by dsimp only; omega) : loopK ws t0 hd m0 Q .normal t L R := loopK_mk g ho hs hL hR hm
theorem q_j {γ : Type} {ws : List Nat} {t0 : Nat → Value} {hd : Head γ} (g : γ) (ho : Off ws t0 t := by exact (by repeat (first | exact Off.refl | apply Off.upd rfl | apply Off.havoc rfl | apply Off.updL rfl | apply Off.left rfl))) (hs : Shows t (hd.slots g) := by exact (by repeat' (first | exact trivial | refine And.intro rfl ?_))) (hL : (hd.L g).Sublist L := by exact (by repeat (first | exact zs0 _ | exact zs1 _ | apply zs2 | apply zs3 | apply zs4 | apply zs5))) (hR : ∀ r ∈ hd.R g, InR r R := by exact allR_self _) : joinK ws t0 hd Q .normal t L R := joinK_mk g ho hs hL hR
theorem q_p {γ : Type} {body : Code} (ws : List Nat) (hd : Head γ) (g0 : γ) (hstep : ∀ g junk, CJ Try.prog n body (updL (havoc ws t junk) (hd.slots g)) (hd.L g) (hd.R g) (loopK ws t hd (hd.m g) Q)) (h0 : Shows t (hd.slots g0) := by exact (by repeat' (first | exact trivial | refine And.intro rfl ?_))) (hL : (hd.L g0).Sublist L := by exact (by repeat (first | exact zs0 _ | exact zs1 _ | apply zs2 | apply zs3 | apply zs4 | apply zs5))) (hR : ∀ r ∈ hd.R g0, InR r R := by exact allR_self _) : CJ Try.prog n (.loop body) t L R Q := CJ_loop ws hd g0 h0 hL hR hstep
theorem q_s {γ : Type} {body : Code} (ws : List Nat) (slots : γ → List (Nat × Value)) (m : γ → Nat) (g0 : γ) (hstep : ∀ g junk, CJ Try.prog n body (updL (havoc ws t junk) (slots g)) L R (loopK ws t ⟨slots, fun _ => L, fun _ => R, m⟩ (m g) Q)) (h0 : Shows t (slots g0) := by exact (by repeat' (first | exact trivial | refine And.intro rfl ?_))) : CJ Try.prog n (.loop body) t L R Q := CJ_loopS ws slots m g0 h0 hstep
end
theorem qaa (a : A) (h : A → B := by exact LJ_q (yv_move (show _ = Value.int _ _ from rfl)) rfl) : B := h a
theorem qab (a : A) (h : A → B := by exact LJ_q (yv_field tb rfl rfl rfl) rfl) : B := h a
theorem qac (a : A) (h : A → B := by exact LJ_q (yv_load1 tb rfl rfl rfl (by repeat (first | exact zi0 | apply zi1 | apply zi2)) (by rfl)) rfl) : B := h a
theorem qad (a : A) (h : A → B := by exact LJ_q (yv_assign (show _ = Value.int _ _ from rfl)) rfl) : B := h a
theorem qae (a : A) (h : A → B := by intro a; refine CJ_seq (CJ_region ?_); exact a) : B := h a
theorem qaf (a : A) (h : A → B := by intro a; refine LJ_nil (seqK_normal ?_); exact a) : B := h a
theorem qag (a : A) (h : A → B := by exact LJ_q (yv_len tb rfl rfl rfl) rfl) : B := h a
theorem qah (a : A) (h : A → B := by exact LJ_q (yv_move (show _ = Value.bool _ from rfl)) rfl) : B := h a
theorem qai (h : B := by exact LJ_merge_end (show _ = Value.bool _ from rfl) (by repeat (first | exact Off.refl | apply Off.upd rfl | apply Off.havoc rfl | apply Off.updL rfl | apply Off.left rfl)) (by repeat (first | exact zs0 _ | exact zs1 _ | apply zs2 | apply zs3 | apply zs4 | apply zs5)) (by first | exact allR_self _ | exact fun r h => inR_self (by simp [h]))) : B := h
theorem qaj (a : A) (h : A → B := by exact LJ_q (yv_lss rfl rfl) rfl) : B := h a
theorem qak (a : A) (h : A → B := by exact LJ_storeW tb rfl rfl rfl rfl (by repeat (first | apply zu0 | apply zu1 | apply zu2)) (by rfl) (by rfl)) : B := h a
theorem qal (a : A) (h : A → B := by exact DJ_q (yv_field tb rfl rfl rfl) rfl rfl rfl) : B := h a
theorem qam (a : A) (h : A → B := by intro a; refine LJ_nil (seqK_normal (CJ_seq (CJ_region ?_))); exact a) : B := h a
theorem qan (a : A) (h : A → B := by exact DJ3_q (yv_field tb rfl rfl rfl) rfl rfl rfl rfl) : B := h a
theorem qao (a : A) (h : A → B := by exact DJ_q (yv_move (show _ = Value.int _ _ from rfl)) rfl rfl rfl) : B := h a
theorem qap (a : A) (h : A → B := by exact DJ_skip rfl rfl rfl) : B := h a
theorem qaq (a : A) (h : A → B := by exact LJ_alloc tb rfl rfl) : B := h a
theorem qar (a : A) (h : A → B := by exact LJ_q (by first | exact yv_add64 rfl rfl (by omega) (by omega) | exact yv_addU rfl rfl (by omega) (by omega) | exact yv_add rfl rfl) rfl) : B := h a
theorem qas (a : A) (h : A → B := by intro a; refine ⟨(by repeat (first | exact zs0 _ | exact zs1 _ | apply zs2 | apply zs3 | apply zs4 | apply zs5)), (by first | exact allR_self _ | exact (fun r h => inR_self (by simp [h]))), ?_⟩; exact a) : B := h a
theorem qat (a : A) (h : A → B := by exact DJ_q (yv_load1 tb rfl rfl rfl (by repeat (first | exact zi0 | apply zi1 | apply zi2)) (by rfl)) rfl rfl rfl) : B := h a
theorem qau (a : A) (h : A → B := by exact DJ3_q (yv_load1 tb rfl rfl rfl (by repeat (first | exact zi0 | apply zi1 | apply zi2)) (by rfl)) rfl rfl rfl rfl) : B := h a
theorem qav (a : A) (h : A → B := by intro a; refine LJ_nil ?_; exact a) : B := h a
theorem qaw (a : A) (h : A → B := by intro a; refine LJ_nil (seqK_normal (CJ_seq (CJ_seq (CJ_region ?_)))); exact a) : B := h a
theorem qax (a : A) (h : A → B := by exact LJ_boxN rfl rfl) : B := h a
theorem qay (a : A) (h : A → B := by intro a; refine CJ_region ?_; exact a) : B := h a
theorem qaz (a : A) (h : A → B := by exact LJ_q (yv_assign (show _ = Value.bool _ from rfl)) rfl) : B := h a
theorem qa0 (a : A) (h : A → B := by intro a; refine LJ_nil (seqK_normal (CJ_ret ?_)); exact a) : B := h a
theorem qa1 (a : A) (h : A → B := by intro a; refine ⟨(by repeat (first | exact zs0 _ | exact zs1 _ | apply zs2 | apply zs3 | apply zs4 | apply zs5)), allR_self _, ?_⟩; exact a) : B := h a
theorem qa2 (a : A) (h : A → B := by intro a; refine LJ_nil (seqK_normal (CJ_block ?_)); exact a) : B := h a
theorem qa3 (a : A) (h : A → B := by exact LJ_q (by first | exact yv_index_ro tb rfl rfl rfl rfl (by first | assumption | exact zr (by simp)) rfl (by omega) | exact yv_index tb rfl rfl rfl rfl rfl (by omega)) rfl) : B := h a
theorem qa4 (a : A) (h : A → B := by intro a; refine LJ_nil (seqK_normal (CJ_seq ?_)); exact a) : B := h a
theorem qa5 (a : A) (h : A → B := by exact LJ_q (yv_gtr rfl rfl) rfl) : B := h a
theorem qa6 (a : A) (h : A → B := by exact LJ_q (yv_move (show _ = Value.pointer _ from rfl)) rfl) : B := h a
theorem qa7 (a : A) (h : A → B := by exact LJ_q (by first | exact yv_load1_ro tb rfl rfl rfl (by first | assumption | exact zr (by simp)) (by assumption) (by rfl) | exact yv_load1 tb rfl rfl rfl (by repeat (first | exact zi0 | apply zi1 | apply zi2)) (by rfl) | exact yv_load1 tb rfl rfl rfl (by repeat (first | exact zi0 | apply zi1 | apply zi2)) (icell_get (by assumption)) | exact yv_load1 tb rfl rfl rfl (by repeat (first | exact zi0 | apply zi1 | apply zi2)) (rcell_get (fun _ => rfl) (by assumption) rfl)) rfl) : B := h a
theorem qa8 (a : A) (h : A → B := by exact LJ_q (yv_loadN (row := [_, _, _, _]) tb rfl rfl rfl (by repeat (first | exact zi0 | apply zi1 | apply zi2)) (by rfl) (by rfl)) rfl) : B := h a
theorem qa9 (a : A) (h : A → B := by exact LJ_q (by first | exact yv_sub64 rfl rfl (by omega) (by omega) | exact yv_sub rfl rfl) rfl) : B := h a
theorem qba (a : A) (h : A → B := by intro a; refine DJ3_phase ?_; exact a) : B := h a
theorem qbb (a : A) (h : A → B := by intro a; refine CJ_skip (seqK_normal (CJ_seq (CJ_block (CJ_seq (CJ_region ?_))))); exact a) : B := h a
theorem qbe (a : A) (h : A → B := by exact LJ_q (yv_loadN (row := [_, _]) tb rfl rfl rfl (by repeat (first | exact zi0 | apply zi1 | apply zi2)) (by rfl) (by rfl)) rfl) : B := h a
theorem qbg (a : A) (h : A → B := by exact DJ_storeW rfl rfl rfl rfl (by repeat (first | apply zu0 | apply zu1 | apply zu2)) (by rfl) (by rfl) (by repeat (first | exact zs0 _ | exact zs1 _ | apply zs2 | apply zs3 | apply zs4 | apply zs5))) : B := h a
theorem qbh (a : A) (h : A → B := by intro a; refine LJ_nil (seqK_normal (CJ_ret (seqK_ret ?_))); exact a) : B := h a
theorem qbi (a : A) (h : A → B := by intro a; refine CJ_seq (CJ_seq (CJ_region ?_)); exact a) : B := h a
theorem qbj (a : A) (h : A → B := by intro a; refine CJ_skip (blockK_normal (seqK_normal (CJ_region ?_))); exact a) : B := h a
theorem qbk (a : A) (h : A → B := by intro a; refine CJ_exit (seqK_exit (loopK_exit (blockK_exit (seqK_normal (CJ_seq (CJ_region ?_)))))); exact a) : B := h a
theorem qbl (a : A) (h : A → B := by exact DJ_q (by first | exact yv_load1_ro tb rfl rfl rfl (by first | assumption | exact zr (by simp)) (by assumption) (by rfl) | exact yv_load1 tb rfl rfl rfl (by repeat (first | exact zi0 | apply zi1 | apply zi2)) (by rfl) | exact yv_load1 tb rfl rfl rfl (by repeat (first | exact zi0 | apply zi1 | apply zi2)) (icell_get (by assumption)) | exact yv_load1 tb rfl rfl rfl (by repeat (first | exact zi0 | apply zi1 | apply zi2)) (rcell_get (fun _ => rfl) (by assumption) rfl)) rfl rfl rfl) : B := h a
theorem qbm (a : A) (h : A → B := by exact LJ_q (yv_move (show _ = Value.slice _ _ _ from rfl)) rfl) : B := h a
theorem qbn (a : A) (h : A → B := by exact LJ_q (yv_eql rfl rfl) rfl) : B := h a
theorem qbo (a : A) (h : A → B := by intro a; refine CJ_skip (seqK_normal (CJ_seq (CJ_seq (CJ_region ?_)))); exact a) : B := h a
theorem qbp (a : A) (h : A → B := by exact DJ_q (by first | exact yv_pick_true rfl rfl | exact yv_pick_false rfl rfl | exact yv_pick rfl) rfl rfl rfl) : B := h a
theorem qbq (a : A) (h : A → B := by exact LJ_q (yv_neq rfl rfl) rfl) : B := h a
theorem qbr (a : A) (h : A → B := by exact DJ_alloc rfl rfl) : B := h a
theorem qbs (a : A) (h : A → B := by exact LJ_q (yv_extract rfl rfl) rfl) : B := h a
theorem qbt (a : A) (h : A → B := by intro a; refine LJ_nil (seqK_normal (CJ_ret (blockK_ret (seqK_ret (loopK_ret (blockK_ret (seqK_ret ?_))))))); exact a) : B := h a
theorem qbu (a : A) (h : A → B := by intro a; refine DJ_nil (seqK_normal ?_); exact a) : B := h a
theorem qbv (a : A) (h : A → B := by intro a; refine CJ_skip (seqK_normal (CJ_seq (CJ_region ?_))); exact a) : B := h a
theorem qbw (a : A) (h : A → B := by exact DJ_store1 (v := Value.slice _ _ _) rfl rfl rfl rfl (by repeat (first | apply zu0 | apply zu1 | apply zu2)) (by first | exact icell_fit (by omega) | rfl) (by first | exact icell_set | rfl) (by rfl) (by repeat (first | exact zs0 _ | exact zs1 _ | apply zs2 | apply zs3 | apply zs4 | apply zs5))) : B := h a
theorem qbx (a : A) (h : A → B := by exact LJ_q (yv_leq rfl rfl) rfl) : B := h a
theorem qby (a : A) (h : A → B := by intro a; refine DJ_nil (blockK_normal (seqK_normal (CJ_region ?_))); exact a) : B := h a
theorem qbz (a : A) (h : A → B := by exact LJ_q (yv_geq rfl rfl) rfl) : B := h a
theorem qb0 (a : A) (h : A → B := by exact LJ_q (yv_field_eo tb rfl rfl rfl) rfl) : B := h a
theorem qb1 (a : A) (h : A → B := by exact CJ_L (by simp only [List.cons_append, List.nil_append]; rfl)) : B := h a
theorem qb2 (a : A) (h : A → B := by exact DJ_q (yv_move (show _ = Value.bool _ from rfl)) rfl rfl rfl) : B := h a
theorem qb4 (a : A) (h : A → B := by exact LJ_q (yv_not rfl) rfl) : B := h a
theorem qb7 (a : A) (h : A → B := by exact DJ_q (by first | exact yv_sub64 rfl rfl (by omega) (by omega) | exact yv_sub rfl rfl) rfl rfl rfl) : B := h a
theorem qb8 (a : A) (h : A → B := by exact DJ_q (yv_move (show _ = Value.pointer _ from rfl)) rfl rfl rfl) : B := h a
theorem qb9 (a : A) (h : A → B := by intro a; refine DJ_nil (seqK_normal (CJ_seq ?_)); exact a) : B := h a
theorem qca (a : A) (h : A → B := by intro a; refine WSteps_cons ?_ WSteps_nil; exact a) : B := h a
theorem qcb (a : A) (h : A → B := by exact DJ_q (yv_nilCheck rfl) rfl rfl rfl) : B := h a
theorem qcd (a : A) (h : A → B := by exact LJ_q (yv_build (qs := [(0, (Value.int _ _).cells.toList), (1, (Value.int _ _).cells.toList)]) (out := [_, _]) tb rfl rfl rfl rfl) rfl) : B := h a
theorem qce (a : A) (h : A → B := by exact DJ_q (yv_field_eo tb rfl rfl rfl) rfl rfl rfl) : B := h a
theorem qcf (a : A) (h : A → B := by intro a; refine CJ_exit (seqK_exit (loopK_exit (blockK_exit (seqK_normal (CJ_seq (CJ_seq (CJ_region ?_))))))); exact a) : B := h a
theorem qcg (a : A) (h : A → B := by exact DJ_q (yv_assign (show _ = Value.int _ _ from rfl)) rfl rfl rfl) : B := h a
theorem qch (a : A) (h : A → B := by intro a; refine LJ_nil (seqK_normal (CJ_ret (seqK_ret (blockK_ret (seqK_ret (loopK_ret (blockK_ret (seqK_ret ?_)))))))); exact a) : B := h a
theorem qcl (a : A) (h : A → B := by intro a; refine CJ_skip (seqK_normal (CJ_seq ?_)); exact a) : B := h a
theorem qcm (a : A) (h : A → B := by exact LJ_q (by first | exact yv_mul64 rfl rfl (by omega) (by omega) | exact yv_mulU rfl rfl (by omega) (by omega) | exact yv_mul rfl rfl) rfl) : B := h a
theorem qcn (a : A) (h : A → B := by exact LJ_store1 (v := Value.int _ _) tb rfl rfl rfl rfl (by repeat (first | apply zu0 | apply zu1 | apply zu2)) (by first | exact icell_fit (by omega) | rfl) (by first | exact icell_set | rfl) (by rfl)) : B := h a
theorem qco (a : A) (h : A → B := by intro a; refine LJ_nil (seqK_normal (CJ_seq (CJ_seq ?_))); exact a) : B := h a
theorem qcp (a : A) (h : A → B := by exact DJ3_ql (yv_field tb rfl rfl rfl) rfl rfl rfl rfl) : B := h a
theorem qcq (a : A) (h : A → B := by exact LJ_q (yv_neg64 rfl (by omega) (by omega)) rfl) : B := h a
theorem qcs (a : A) (h : A → B := by intro a; refine LJ_nil (blockK_normal (seqK_normal (CJ_region ?_))); exact a) : B := h a
theorem qcu (a : A) (h : A → B := by exact DJ3_ql (yv_load1 tb rfl rfl rfl (by repeat (first | exact zi0 | apply zi1 | apply zi2)) (by rfl)) rfl rfl rfl rfl) : B := h a
theorem qcv (a : A) (h : A → B := by exact DJ3_q (yv_field_eo tb rfl rfl rfl) rfl rfl rfl rfl) : B := h a
theorem qcx (a : A) (h : A → B := by exact LJ_g (gives_buildSlice (qs := [(0, (Value.int _ _).cells.toList)]) (out := [_]) tb rfl rfl rfl rfl rfl rfl rfl) rfl) : B := h a
theorem qcy (a : A) (h : A → B := by exact LJ_store1 (v := Value.slice _ _ _) tb rfl rfl rfl rfl (by repeat (first | apply zu0 | apply zu1 | apply zu2)) (by first | exact icell_fit (by omega) | rfl) (by first | exact icell_set | rfl) (by rfl)) : B := h a
theorem qc1 (a : A) (h : A → B := by exact LJ_q (yv_assign (show _ = Value.pointer _ from rfl)) rfl) : B := h a
theorem qc2 (a : A) (h : A → B := by exact DJ_q (by first | exact yv_add64 rfl rfl (by omega) (by omega) | exact yv_addU rfl rfl (by omega) (by omega) | exact yv_add rfl rfl) rfl rfl rfl) : B := h a
theorem qc3 (a : A) (h : A → B := by intro a; refine CJ_exit (seqK_exit (loopK_exit (blockK_exit (seqK_normal (CJ_seq ?_))))); exact a) : B := h a
theorem qc4 (a : A) (h : A → B := by exact LJ_q (yv_assign (show _ = Value.slice _ _ _ from rfl)) rfl) : B := h a
theorem qc6 (a : A) (h : A → B := by intro a; refine DJ_nil (seqK_normal (CJ_seq (CJ_seq (CJ_region ?_)))); exact a) : B := h a
theorem qc7 (a : A) (h : A → B := by exact LJ_g (gives_makeSlice tb rfl rfl rfl rfl rfl rfl rfl (by omega) (by omega)) rfl) : B := h a
theorem qc8 (a : A) (h : A → B := by exact LJ_q (by first | exact yv_loadN_ro (row := [_, _, _, _, _, _, _, _, _, _]) tb rfl rfl rfl (by first | assumption | exact zr (by simp)) (by assumption) (by rfl) (by rfl) | exact yv_loadN (row := [_, _, _, _, _, _, _, _, _, _]) tb rfl rfl rfl (by repeat (first | exact zi0 | apply zi1 | apply zi2)) (by rfl) (by rfl)) rfl) : B := h a
theorem qda (a : A) (h : A → B := by exact LJ_q (by first | exact yv_remU rfl rfl (by omega) (by omega) | exact yv_rem rfl rfl (by omega)) rfl) : B := h a
theorem qdb (a : A) (h : A → B := by intro a; refine LJ_nil (seqK_normal (CJ_ret (blockK_ret (seqK_ret ?_)))); exact a) : B := h a
theorem qdd (a : A) (h : A → B := by exact LJ_q (by first | exact yv_quo64 rfl rfl (by omega) (by omega) (by omega) | exact yv_quoU rfl rfl (by omega) (by omega) (by omega) | exact yv_quo rfl rfl (by omega)) rfl) : B := h a
theorem qdh (a : A) (h : A → B := by exact DJ_q (by first | exact yv_mul64 rfl rfl (by omega) (by omega) | exact yv_mulU rfl rfl (by omega) (by omega) | exact yv_mul rfl rfl) rfl rfl rfl) : B := h a
theorem qdk (a : A) (h : A → B := by exact LJ_q (by first | exact yv_loadN_ro (row := [_, _, _]) tb rfl rfl rfl (by first | assumption | exact zr (by simp)) (by assumption) (by rfl) (by rfl) | exact yv_loadN (row := [_, _, _]) tb rfl rfl rfl (by repeat (first | exact zi0 | apply zi1 | apply zi2)) (by rfl) (by rfl)) rfl) : B := h a
theorem qdl (a : A) (h : A → B := by exact LJ_q (by first | exact yv_loadN_ro (row := [_, _]) tb rfl rfl rfl (by first | assumption | exact zr (by simp)) (by assumption) (by rfl) (by rfl) | exact yv_loadN (row := [_, _]) tb rfl rfl rfl (by repeat (first | exact zi0 | apply zi1 | apply zi2)) (by rfl) (by rfl)) rfl) : B := h a
theorem qdm (a : A) (h : A → B := by exact DJ_q (by first | exact yv_convert64 tb rfl rfl rfl (by omega) (by omega) | exact yv_convertU tb rfl rfl rfl (by omega) (by omega) | exact yv_convert tb rfl rfl rfl) rfl rfl rfl) : B := h a
theorem qdo (a : A) (h : A → B := by exact DJ_q (by first | exact yv_loadN_ro (row := [_, _]) tb rfl rfl rfl (by first | assumption | exact zr (by simp)) (by assumption) (by rfl) (by rfl) | exact yv_loadN (row := [_, _]) tb rfl rfl rfl (by repeat (first | exact zi0 | apply zi1 | apply zi2)) (by rfl) (by rfl)) rfl rfl rfl) : B := h a
theorem qdp (a : A) (h : A → B := by exact DJ_q (by first | exact yv_loadN_ro (row := [_, _, _, _]) tb rfl rfl rfl (by first | assumption | exact zr (by simp)) (by assumption) (by rfl) (by rfl) | exact yv_loadN (row := [_, _, _, _]) tb rfl rfl rfl (by repeat (first | exact zi0 | apply zi1 | apply zi2)) (by rfl) (by rfl)) rfl rfl rfl) : B := h a
theorem qdr (a : A) (h : A → B := by exact LJ_q (by first | exact yv_loadN_ro (row := [_, _, _, _]) tb rfl rfl rfl (by first | assumption | exact zr (by simp)) (by assumption) (by rfl) (by rfl) | exact yv_loadN (row := [_, _, _, _]) tb rfl rfl rfl (by repeat (first | exact zi0 | apply zi1 | apply zi2)) (by rfl) (by rfl)) rfl) : B := h a
theorem qds (a : A) (h : A → B := by exact DJ_q (by first | exact yv_index_ro tb rfl rfl rfl rfl (by first | assumption | exact zr (by simp)) (i := k) (by first | rfl | omega | (simp; omega)) (by omega) | exact yv_index tb rfl rfl rfl rfl (i := k) (by first | rfl | omega | (simp; omega)) (by omega)) rfl rfl rfl) : B := h a
theorem qdt (a : A) (h : A → B := by exact LJ_q (by first | exact yv_index_ro tb rfl rfl rfl rfl (by first | assumption | exact zr (by simp)) (i := 0) (by first | rfl | omega | (simp; omega)) (by omega) | exact yv_index tb rfl rfl rfl rfl (i := 0) (by first | rfl | omega | (simp; omega)) (by omega)) rfl) : B := h a
theorem qdu (a : A) (h : A → B := by exact DJ_q (by first | exact yv_index_ro tb rfl rfl rfl rfl (by first | assumption | exact zr (by simp)) (i := 0) (by first | rfl | omega | (simp; omega)) (by omega) | exact yv_index tb rfl rfl rfl rfl (i := 0) (by first | rfl | omega | (simp; omega)) (by omega)) rfl rfl rfl) : B := h a
theorem qdv (a : A) (h : A → B := by exact DJ_q (by first | exact yv_loadN_ro (row := [_, _, _]) tb rfl rfl rfl (by first | assumption | exact zr (by simp)) (by assumption) (by rfl) (by rfl) | exact yv_loadN (row := [_, _, _]) tb rfl rfl rfl (by repeat (first | exact zi0 | apply zi1 | apply zi2)) (by rfl) (by rfl)) rfl rfl rfl) : B := h a
theorem qdw (a : A) (h : A → B := by exact LJ_q (by first | exact yv_loadN_ro (row := [_, _, _, _, _]) tb rfl rfl rfl (by first | assumption | exact zr (by simp)) (by assumption) (by rfl) (by rfl) | exact yv_loadN (row := [_, _, _, _, _]) tb rfl rfl rfl (by repeat (first | exact zi0 | apply zi1 | apply zi2)) (by rfl) (by rfl)) rfl) : B := h a
theorem qdy (a : A) (h : A → B := by exact DJ_q (by first | exact yv_index_ro tb rfl rfl rfl rfl (by first | assumption | exact zr (by simp)) (i := k + 1) (by first | rfl | omega | (simp; omega)) (by omega) | exact yv_index tb rfl rfl rfl rfl (i := k + 1) (by first | rfl | omega | (simp; omega)) (by omega)) rfl rfl rfl) : B := h a
theorem qd2 (a : A) (h : A → B := by exact DJ3_q (by first | exact yv_index_ro tb rfl rfl rfl rfl (by first | assumption | exact zr (by simp)) (i := 0) (by first | rfl | omega | (simp; omega)) (by omega) | exact yv_index tb rfl rfl rfl rfl (i := 0) (by first | rfl | omega | (simp; omega)) (by omega)) rfl rfl rfl rfl) : B := h a
end
end Go.Proofs.Ytkpfjmibipblhaa
