import Derived.Test.YtkpfjmibipblhaaRoundA
import Derived.OwnWalkIn
import Derived.LoopNIn
import Derived.Test.YtkpfjmibipblhaaFed
import Derived.Test.YtkpfjmibipblhaaOneR
import Derived.Laws.StructEq
import Derived.Test.YtkpfjmibipblhaaDraws
section
/-
  The library's slices.Collect over the iterator of power networks. By an AI agent; no person has read it.
-/
set_option linter.unusedSimpArgs false
set_option linter.unusedVariables false
namespace Go.Proofs.Ytkpfjmibipblhaa
open Go.Aw Go
set_option maxRecDepth 20000
attribute [local irreducible] CJ LJ DJ Tri YV Gives seqK blockK loopK retK RV mergeK OwL.L
def upF (sw : List XSwitch) : Nat → Int → List Int
  | 0, _ => []
  | n + 1, s => if s < 0 then [] else s :: upF sw n (sw.getD s.toNat default).above
def pathS (sw : List XSwitch) (s : Int) : List Int := upF sw (s + 1).toNat s
def UpOk (sw : List XSwitch) : Prop := ∀ i : Nat, i < sw.length → -1 ≤ (sw.getD i default).above ∧ (sw.getD i default).above < i
theorem upF_fuel {sw : List XSwitch} (h : UpOk sw) : ∀ (n : Nat) (s : Int), s < sw.length → (s + 1).toNat ≤ n → upF sw n s = pathS sw s := by
  intro n
  induction n using Nat.strongRecOn with
  | _ n ih =>
    intro s hs hn
    by_cases h0 : s < 0
    · rw [pathS, show (s + 1).toNat = 0 by omega]
      cases n with
      | zero => rfl
      | succ n => show (if s < 0 then [] else _) = ([] : List Int); rw [if_pos h0]
    · obtain ⟨k, rfl⟩ : ∃ k, n = k + 1 := ⟨n - 1, by omega⟩
      have ha := h s.toNat (by omega)
      rw [pathS, show (s + 1).toNat = s.toNat + 1 by omega, upF, upF, if_neg (by omega), if_neg (by omega), ih k (by omega) _ (by omega) (by omega), ih s.toNat (by omega) _ (by omega) (by omega)]
theorem pathS_neg {sw : List XSwitch} {s : Int} (h : s < 0) : pathS sw s = [] := by rw [pathS, show (s + 1).toNat = 0 by omega]; rfl
theorem pathS_step {sw : List XSwitch} (h : UpOk sw) {s : Int} (h0 : 0 ≤ s) (h1 : s < sw.length) : pathS sw s = s :: pathS sw (sw.getD s.toNat default).above := by
  have ha := h s.toNat (by omega)
  rw [pathS, show (s + 1).toNat = s.toNat + 1 by omega, upF, if_neg (by omega), upF_fuel h _ _ (by omega) (by omega)]
theorem pathS_len {sw : List XSwitch} (h : UpOk sw) : ∀ (n : Nat) (s : Int), s < sw.length → (s + 1).toNat ≤ n → (pathS sw s).length ≤ n := by
  intro n
  induction n with
  | zero => intro s _ hn; rw [pathS_neg (by omega)]; exact Nat.le_refl _
  | succ n ih =>
    intro s hs hn
    by_cases h0 : s < 0
    · rw [pathS_neg h0]; simp
    · have ha := h s.toNat (by omega)
      rw [pathS_step h (by omega) hs, List.length_cons]
      have := ih (sw.getD s.toNat default).above (by omega) (by omega)
      omega

def rfAsg (c : Code) : Code := match c with
  | .seq _ (.seq (.seq _ (.block _ (.rangeFunc _ _ x _))) _) => x
  | _ => .skip
def rfBody (c : Code) : Code := match c with
  | .seq _ (.seq (.seq _ (.block _ (.rangeFunc _ _ _ x))) _) => x
  | _ => .skip
def apTmps (sv x : Value) (B : Nat) : Array Value := #[.slice none 0 0, sv, .pointer (some ⟨B, 0, none⟩), undef, .slice none 0 0, undef, sv, x, undef, undef, undef, undef, undef]
def apLoop (cd : Code) (fn : FuncId) (sv : Value) (B : Nat) (st : LoopState) : Loop := { state := st, pending := none, fn, tmps := apTmps sv undef B, params := #[7], assign := rfAsg cd, body := rfBody cd, defers := B + 1 }
def apRec (cd : Code) (fn : FuncId) (sv : Value) (B : Nat) (st : LoopState) : Obj := .loop (apLoop cd fn sv B st)
theorem apRec_no {cd fn sv B st} : NoCells (apRec cd fn sv B st) := fun c t f h => by cases h
def dObj : Obj := .deferred (some [])
theorem dObj_no : NoCells dObj := fun c t f h => by cases h
theorem fr_arr (t : Array Value) (n : Nat) (h : t.size = n) : Fr n (fun k => t.getD k undef) { tmps := t, defers := [] } := ⟨rfl, h, fun _ => rfl⟩
def isDef (o : Oper) : Bool := match o.op with
  | .defer _ => true
  | _ => false
theorem nodef {ops : List Oper} (h : ops.any isDef = false) : ∀ o ∈ ops, ∀ c, o.op ≠ .defer c := fun o ho c e => by
  have := List.any_eq_false.1 h o ho
  rw [isDef, e] at this
  exact this rfl
section
variable {w0 : World} {Lc : List Blk} {G : Nat → Prop} {R : List Sl} (hh : Holds Lc G R w0)
include hh
theorem ap_round {fn : FuncId} {sv : Value} {m : Nat} {Lf : List Blk} {p : OwL Int} (hok : p.ok 1 icell) (hlen : p.l.length ≤ 1000000) (x : Int) {W : World} (h : At2 w0 Lc G R (w0.heap.size + 1) dObj (apRec (Try.f143.body.getD .skip) fn sv w0.heap.size .ready) (⟨w0.heap.size, [p.val], 38⟩ :: (p.L 3 icell ++ Lf)) W) :
    YieldAt Fence.wide m Try.prog (w0.heap.size + 1 + 1) #[.int .i64 x] W fun e W' => e = .returned (.bool true) ∧ ∃ o, (⟨o, p.l ++ [x]⟩ : OwL Int).ok 1 icell ∧ At2 w0 Lc G R (w0.heap.size + 1) dObj (apRec (Try.f143.body.getD .skip) fn sv w0.heap.size .ready) (⟨w0.heap.size, [(⟨o, p.l ++ [x]⟩ : OwL Int).val], 38⟩ :: ((⟨o, p.l ++ [x]⟩ : OwL Int).L 3 icell ++ Lf)) W' := by
  refine ⟨fn, apTmps sv (.int .i64 x) w0.heap.size, (rfAsg (Try.f143.body.getD .skip)), (rfBody (Try.f143.body.getD .skip)), (by have := run_yield (P := Try.prog) (args := #[.int .i64 x]) (r := apLoop (Try.f143.body.getD .skip) fn sv w0.heap.size .ready) h.lp rfl; simpa [apLoop, apTmps] using this), roundIn_of_wpIn trivial ?_⟩
  refine At2.round hh dObj_no apRec_no h (t := fun k => (apTmps sv (.int .i64 x) w0.heap.size).getD k undef) (Q := fun e t L' R' => e = .normal ∧ (t 5 = .int .i64 x ∧ t 2 = .pointer (some ⟨w0.heap.size, 0, none⟩)) ∧ L' = (⟨w0.heap.size, [p.val], 38⟩ :: (p.L 3 icell ++ Lf)) ∧ R' = R) (fr_arr _ 13 rfl) (nodef rfl) ?_ (fun _ _ _ h => by cases h.1) ?_
  · refine LJ_q (yv_assign (show _ = Value.int _ _ from rfl)) rfl ?_
    exact LJ_nil ⟨rfl, ⟨rfl, rfl⟩, rfl, rfl⟩
  rintro e a1 W1 t1 L1 R1 ⟨rfl, ⟨ht5, ht2⟩, rfl, rfl⟩ hf1 h1
  refine ⟨_, run_beginRound h1.lp rfl, ?_⟩
  have h2 := At2.put hh (by omega) apRec_no (apRec_no (cd := (Try.f143.body.getD .skip)) (fn := fn) (sv := sv) (B := w0.heap.size) (st := .busy)) h1
  show (Code.block _ _).wpIn _ _ _ _ _ _
  refine wpIn_block ?_
  refine At2.round hh dObj_no apRec_no h2 (Q := fun e t L' R' => e = .normal ∧ ∃ o, (⟨o, p.l ++ [x]⟩ : OwL Int).ok 1 icell ∧ (⟨w0.heap.size, [(⟨o, p.l ++ [x]⟩ : OwL Int).val], 38⟩ :: ((⟨o, p.l ++ [x]⟩ : OwL Int).L 3 icell ++ Lf)).Sublist L') hf1 (nodef rfl) ?_ (fun _ _ _ h => by cases h.1) ?_
  · refine LJ_q (yv_load1 tb ht2 rfl rfl (by repeat (first | exact zi0 | apply zi1 | apply zi2)) (by rfl)) rfl ?_
    refine LJ_q (yv_move (v := .int .i64 x) ht5) rfl ?_
    refine qcx ?_
    rintro v L' R' ⟨b88, rfl, rfl, hR88⟩
    replace hR88 := hR88.symm; subst hR88
    refine LJ_g (gives_append1 (f := icell) (a := x) tb rfl rfl rfl rfl hok (by repeat (first | apply OSeg.cons | exact OSeg.here | exact OSeg.last | exact OSeg.at (by assumption) | apply OSeg.app)) (shown_own (by repeat (first | exact zi0 | apply zi1 | apply zi2)) rfl rfl) rfl (by omega)) rfl ?_
    rintro v L' R' ⟨o, rfl, hok89, rfl, rfl⟩
    refine LJ_store1 (v := Value.slice _ _ _) tb rfl ht2 rfl rfl (by repeat (first | apply zu0 | apply zu1 | apply zu2)) rfl rfl (by rfl) ?_
    exact LJ_nil ⟨rfl, o, hok89, List.sublist_cons_self _ _⟩
  rintro e a3 W3 t3 L3 R3 ⟨rfl, o, hok3, hsub⟩ hf3 h3
  have h4 : At2 _ _ _ _ _ _ _ _ _ := ⟨h3.st.weak hsub (allR_self _), h3.df, h3.lp⟩
  exact ⟨_, _, run_endRound none h4.lp, rfl, o, hok3, At2.put hh (by omega) apRec_no apRec_no h4⟩

def numAt (w : World) (b : Nat) : Int := match w.cell? ⟨b, 0, none⟩ with
  | some (.int _ n) => n
  | _ => -1
theorem up_in {fn : FuncId} {sv : Value} {m : Nat} {f : XFeeder} {bs bf : Nat} {L : List Blk} (hsR : InR (swsl f.switches) R) (hu : UpOk f.switches.l) (hn : f.switches.l.length ≤ 1000) {cur : Int} (hc : cur < f.switches.l.length) {W : World} {p : OwL Int} (hk : p.ok 1 icell) (hpl : p.l = [])
    (h : At2 w0 Lc G R (w0.heap.size + 1) dObj (apRec (Try.f143.body.getD .skip) fn sv w0.heap.size .ready) (⟨w0.heap.size, [p.val], 38⟩ :: (p.L 3 icell ++ (⟨bs, [.int .i64 cur], 3⟩ :: ⟨bf, f.cells, 71⟩ :: L))) W) :
    CallsIn Fence.wide m Try.prog 144 #[.func (.yield (w0.heap.size + 1 + 1)) #[] #[], .pointer (some ⟨bs, 0, none⟩), .pointer (some ⟨bf, 0, none⟩)] W fun e W' => (∃ v, e = .returned v) ∧ ∃ (q : OwL Int) (c' : Int), q.ok 1 icell ∧ q.l = pathS f.switches.l cur ∧
      At2 w0 Lc G R (w0.heap.size + 1) dObj (apRec (Try.f143.body.getD .skip) fn sv w0.heap.size .ready) (⟨w0.heap.size, [q.val], 38⟩ :: (q.L 3 icell ++ (⟨bs, [.int .i64 c'], 3⟩ :: ⟨bf, f.cells, 71⟩ :: L))) W' := by
  refine callsIn_of_wp Try.func144 rfl trivial ?_ rfl
  simp only [Try.ntmps144, List.size_toArray, List.length_cons, List.length_nil, Nat.reduceAdd, Nat.reduceSub, Array.replicate_succ, Array.replicate_zero, List.push_toArray, List.append_toArray, List.nil_append, List.cons_append]
  refine wpIn_block ?_
  refine wpIn_loop (fun a w => ∃ (t : Nat → Value) (q : OwL Int) (c' : Int), Fr 16 t a ∧ (t 0 = .func (.yield (w0.heap.size + 1 + 1)) #[] #[] ∧ t 1 = .pointer (some ⟨bs, 0, none⟩) ∧ t 2 = .pointer (some ⟨bf, 0, none⟩)) ∧ q.ok 1 icell ∧ (-1 ≤ c' ∨ True) ∧ c' < f.switches.l.length ∧ pathS f.switches.l cur = q.l ++ pathS f.switches.l c' ∧
      At2 w0 Lc G R (w0.heap.size + 1) dObj (apRec (Try.f143.body.getD .skip) fn sv w0.heap.size .ready) (⟨w0.heap.size, [q.val], 38⟩ :: (q.L 3 icell ++ (⟨bs, [.int .i64 c'], 3⟩ :: ⟨bf, f.cells, 71⟩ :: L))) w) (fun _ w => (numAt w bs + 1).toNat) ?_ ?_
  · exact ⟨_, p, cur, fr_arr _ 16 rfl, ⟨rfl, rfl, rfl⟩, hk, .inr trivial, hc, by rw [hpl]; rfl, h⟩
  rintro a w ⟨t, q, c', hf, ⟨t0, t1, t2⟩, hk, _, hc', hp, h⟩
  have hnum : numAt w bs = c' := by
    have := cell_own (e := ⟨bs, [.int .i64 c'], 3⟩) h.st (List.mem_cons_of_mem _ (List.mem_append_right _ List.mem_cons_self)) 0
    rw [numAt, this]; rfl
  refine wpIn_seq (wpIn_seq ?_)
  refine At2.plain hh dObj_no apRec_no h (Q := fun e t' L' R' => e = .normal ∧ ((t' 0 = .func (.yield (w0.heap.size + 1 + 1)) #[] #[] ∧ t' 1 = .pointer (some ⟨bs, 0, none⟩) ∧ t' 2 = .pointer (some ⟨bf, 0, none⟩)) ∧ t' 5 = .bool (decide (0 ≤ c'))) ∧ (⟨w0.heap.size, [q.val], 38⟩ :: (q.L 3 icell ++ (⟨bs, [.int .i64 c'], 3⟩ :: ⟨bf, f.cells, 71⟩ :: L))) = L') hf ?_ ?_
  · refine CJ_region ?_
    refine LJ_q (yv_load1 tb t1 rfl rfl (by repeat (first | exact zi0 | apply zi1 | apply zi2)) (by rfl)) rfl ?_
    refine qbz ?_
    exact LJ_nil ⟨rfl, ⟨⟨t0, t1, t2⟩, rfl⟩, rfl⟩
  rintro e a1 w1 t' L1 R1 ⟨rfl, ⟨⟨t0, t1, t2⟩, t5⟩, rfl⟩ hf1 h1
  refine wpIn_cond (t := decide (0 ≤ c')) (by rw [hf1.eval]; exact t5) ?_
  by_cases h0 : 0 ≤ c'
  · rw [decide_eq_true h0, if_pos rfl]
    refine wpIn_skip ?_
    refine wpIn_seq (wpIn_block (wpIn_seq ?_))
    refine wpIn_region_lit ?_
    refine in_q hf1 h1.st (yv_move (v := .func (.yield (w0.heap.size + 1 + 1)) #[] #[]) t0) rfl fun a2 hf2 => ?_
    refine in_q hf2 h1.st (yv_load1 tb t1 rfl rfl (by repeat (first | exact zi0 | apply zi1 | apply zi2)) (by rfl)) rfl fun a3 hf3 => ?_
    have hpl2 : q.l.length ≤ 1000000 := by
      have := pathS_len hu _ cur hc (Nat.le_refl _)
      rw [hp, List.length_append] at this
      omega
    refine in_yield (v := .int .i64 c') hf3 rfl rfl rfl (ap_round hh hk hpl2 c' h1) fun a4 w4 hf4 ⟨o, hok4, h4⟩ => ?_
    refine in_q hf4 h4.st (yv_not rfl) rfl fun a5 hf5 => ?_
    show Exit.then _ _ Exit.normal _ _
    refine wpIn_cond (t := false) (by rw [hf5.eval]; rfl) ?_
    rw [if_neg (by simp)]
    refine wpIn_skip ?_
    have hg := get_D (l := f.switches.l) (k := c'.toNat) default (by omega)
    have ha := hu c'.toNat (by omega)
    refine At2.plain hh dObj_no apRec_no h4 (Q := fun e t' L' R' => e = .normal ∧ (t' 0 = .func (.yield (w0.heap.size + 1 + 1)) #[] #[] ∧ t' 1 = .pointer (some ⟨bs, 0, none⟩) ∧ t' 2 = .pointer (some ⟨bf, 0, none⟩)) ∧
      ⟨w0.heap.size, [(⟨o, q.l ++ [c']⟩ : OwL Int).val], 38⟩ :: ((⟨o, q.l ++ [c']⟩ : OwL Int).L 3 icell ++ (⟨bs, [.int .i64 (f.switches.l.getD c'.toNat default).above], 3⟩ :: ⟨bf, f.cells, 71⟩ :: L)) = L') hf5 ?_ ?_
    · refine CJ_region ?_
      refine LJ_q (yv_field tb rfl (show _ = Value.pointer (some ⟨bf, 0, none⟩) from t2) rfl) rfl ?_
      refine qac ?_
      refine LJ_q (yv_load1 tb (show _ = Value.pointer (some ⟨bs, 0, none⟩) from t1) rfl rfl (by repeat (first | exact zi0 | apply zi1 | apply zi2)) (by rfl)) rfl ?_
      refine LJ_q (yv_index_ro tb rfl rfl rfl rfl hsR (i := c'.toNat) (by omega) (by omega)) rfl ?_
      refine qb0 ?_
      refine LJ_q (yv_load1_ro tb rfl rfl rfl hsR hg rfl) rfl ?_
      refine LJ_store1 (v := Value.int _ _) tb rfl (show _ = Value.pointer (some ⟨bs, 0, none⟩) from t1) rfl rfl (by repeat (first | apply zu0 | apply zu1 | apply zu2)) rfl rfl (by rfl) ?_
      exact LJ_nil ⟨rfl, ⟨t0, t1, t2⟩, rfl⟩
    rintro e a6 w6 t6 L6 R6 ⟨rfl, ht6, rfl⟩ hf6 h6
    have hnum6 : numAt w6 bs = (f.switches.l.getD c'.toNat default).above := by
      have := cell_own (e := ⟨bs, [.int .i64 (f.switches.l.getD c'.toNat default).above], 3⟩) h6.st (List.mem_cons_of_mem _ (List.mem_append_right _ List.mem_cons_self)) 0
      rw [numAt, this]; rfl
    refine ⟨⟨t6, ⟨o, q.l ++ [c']⟩, _, hf6, ht6, hok4, .inr trivial, by omega, ?_, h6⟩, ?_⟩
    · rw [hp, pathS_step hu h0 hc', List.append_assoc]; rfl
    · rw [hnum, hnum6]; omega
  · rw [decide_eq_false h0, if_neg (by simp)]
    refine wpIn_exit ?_
    simp only [Exit.then, Exit.inBlock, if_true]
    refine ⟨hf1.defers, _, results_none rfl _ _ _, ⟨_, rfl⟩, q, c', hk, ?_, h1⟩
    rw [hp, pathS_neg (by omega), List.append_nil]
end
set_option maxHeartbeats 1000000 in
theorem appendSeq_tri (f : XFeeder) (s : Int) (bs bf : Nat) (L : List Blk) (R : List Sl) (hsR : InR (swsl f.switches) R) (hu : UpOk f.switches.l) (hn : f.switches.l.length ≤ 1000) (hc : s < f.switches.l.length) :
    Tri Try.prog 143 [.slice none 0 0, .func (.func 144) #[] #[.pointer (some ⟨bs, 0, none⟩), .pointer (some ⟨bf, 0, none⟩)]].toArray (⟨bs, [.int .i64 s], 3⟩ :: ⟨bf, f.cells, 71⟩ :: L) R
      (fun v L' R' => ∃ (q : OwL Int) (c' : Int), v = q.val ∧ q.ok 1 icell ∧ q.l = pathS f.switches.l s ∧ q.L 3 icell ++ (⟨bs, [.int .i64 c'], 3⟩ :: ⟨bf, f.cells, 71⟩ :: L) = L' ∧ R = R') := by
  refine Tri.raw Try.call143 fun w G hh => (callsIn_wide (n := 5)).1 ?_
  refine callsIn_of_wp_marks Try.func143 rfl trivial ?_ rfl
  simp only [Try.ntmps143, List.size_toArray, List.length_cons, List.length_nil, Nat.reduceAdd, Nat.reduceSub, Array.replicate_succ, Array.replicate_zero, List.push_toArray, List.append_toArray, List.nil_append, List.cons_append]
  gi_wp2
  refine wpIn_rangeFunc ?_
  intro fn hfn
  obtain ⟨sv, hsv⟩ : ∃ sv : Value, sv = .func (.func 144) #[] #[.pointer (some ⟨bs, 0, none⟩), .pointer (some ⟨bf, 0, none⟩)] := ⟨_, rfl⟩
  obtain ⟨W0, hW0⟩ : ∃ W0, w.alloc (.cells #[.slice none 0 0] 38) = W0 := ⟨_, rfl⟩
  have hs0 : W0.heap.size = w.heap.size + 1 := by rw [← hW0]; simp
  have st0 : St ⟨w, inL (⟨bs, [.int .i64 s], 3⟩ :: ⟨bf, f.cells, 71⟩ :: L), G⟩ (⟨w.heap.size, [.slice none 0 0], 38⟩ :: ⟨bs, [.int .i64 s], 3⟩ :: ⟨bf, f.cells, 71⟩ :: L) R W0 := by rw [← hW0]; exact (St.init hh).alloc #[.slice none 0 0] 38
  rw [hW0]
  obtain ⟨W1, hW1⟩ : ∃ W1, (W0.alloc dObj).alloc (apRec (Try.f143.body.getD .skip) fn sv w.heap.size .ready) = W1 := ⟨_, rfl⟩
  have hA : At2 w (⟨bs, [.int .i64 s], 3⟩ :: ⟨bf, f.cells, 71⟩ :: L) G R (w.heap.size + 1) dObj (apRec (Try.f143.body.getD .skip) fn sv w.heap.size .ready) (⟨w.heap.size, [(OwL.nil : OwL Int).val], 38⟩ :: ((OwL.nil : OwL Int).L 3 icell ++ (⟨bs, [.int .i64 s], 3⟩ :: ⟨bf, f.cells, 71⟩ :: L))) W1 := by
    rw [← hW1]
    refine ⟨(by rw [nil_L, List.nil_append]; exact (st0.allocO dObj_no).allocO apRec_no), ?_, ?_⟩
    · rw [← hs0]
      exact (heap_old _ _ _ (by simp)).trans (World.alloc_heap_new W0 _)
    · have := World.alloc_heap_new (W0.alloc dObj) (apRec (Try.f143.body.getD .skip) fn sv w.heap.size .ready)
      rwa [World.size_alloc, hs0] at this
  refine ⟨w.heap.size + 1 + 1, [{ target := .collected (w.heap.size + 1), args := #[] }], W1, { target := .fn (.func 144) #[.pointer (some ⟨bs, 0, none⟩), .pointer (some ⟨bf, 0, none⟩)], args := #[.func (.yield (w.heap.size + 1 + 1)) #[] #[]] }, W1, 144,
    #[.func (.yield (w.heap.size + 1 + 1)) #[] #[], .pointer (some ⟨bs, 0, none⟩), .pointer (some ⟨bf, 0, none⟩)], W1, ?_, ?_, fun _ _ => trivial, ?_, fun h => (by cases h), ?_⟩
  · have := run_enterLoop_outer (P := Try.prog) (w := W0) fn (apTmps sv undef w.heap.size) #[7] (rfAsg (Try.f143.body.getD .skip)) (rfBody (Try.f143.body.getD .skip))
    rw [hs0] at this
    rw [← hW1, hsv]
    rw [hsv] at this
    exact this
  · simp [resolve, go_sem]
  · simp [invoke, go_sem, Try.call144]
  · refine (up_in hh hsR hu hn hc OwL.nil_ok rfl hA).mono ?_
    rintro e W2 ⟨⟨v0, rfl⟩, q, c', hk, hq, h2⟩
    have hend := run_endLoop (P := Try.prog) h2.lp (by simp [apLoop])
    have h3 := At2.put hh (by omega) apRec_no (ol' := .loop { apLoop (Try.f143.body.getD .skip) fn sv w.heap.size .ready with state := .exhausted }) (fun c t f h => by cases h) h2
    obtain ⟨W3, hW3⟩ : ∃ W3, W2.putObj (w.heap.size + 1 + 1) (.loop { apLoop (Try.f143.body.getD .skip) fn sv w.heap.size .ready with state := .exhausted }) = W3 := ⟨_, rfl⟩
    rw [hW3] at hend h3
    have hc3 : W3.cell? ⟨w.heap.size, 0, none⟩ = some q.val := cell_own (e := ⟨w.heap.size, [q.val], 38⟩) h3.st List.mem_cons_self 0
    have hd3 := h3.df
    have st3 := h3.st
    clear hW3 h3 h2 hA hW1 st0 hW0
    refine ⟨none, W3, hend, ?_⟩
    gi_wp2
    have st4 := (st3.put hh hd3 dObj_no (o' := .deferred none) (fun c t f h => by cases h) (by omega)).weak (List.sublist_cons_self _ _) (allR_self _)
    refine ⟨by simp, .inl ⟨_, _, rfl, run_takeDeferred hd3, ?_⟩⟩
    exact ⟨_, results_tmp rfl _ _ _, q.val, _, _, rfl, ⟨q, c', rfl, hk, hq, rfl, rfl⟩, st4⟩
end Go.Proofs.Ytkpfjmibipblhaa
end
section
/-
  Power networks: the reference's check. By an AI agent; no person has read it.
-/
set_option linter.unusedSimpArgs false
set_option linter.unusedVariables false
namespace Go.Proofs.Ytkpfjmibipblhaa
open Go.Aw Go
set_option maxRecDepth 20000
attribute [local irreducible] CJ LJ DJ Tri YV Gives seqK blockK loopK retK RV mergeK OwL.L
end Go.Proofs.Ytkpfjmibipblhaa
end
section
/-
  Power networks: a switch and those above it: feeder.Path and the reference's. By an AI agent; no person has read it.
-/
set_option linter.unusedSimpArgs false
set_option linter.unusedVariables false
namespace Go.Proofs.Ytkpfjmibipblhaa
open Go.Aw Go
set_option maxRecDepth 20000
attribute [local irreducible] CJ LJ DJ Tri YV Gives seqK blockK loopK retK RV mergeK OwL.L
section
variable {A9 B9 : Prop}
theorem yb3aa (a : A9) (h : A9 → B9 := by exact LJ_q (yv_loadN (row := [_, _, _]) tb rfl rfl rfl (by repeat (first | exact zi0 | apply zi1 | apply zi2)) (by rfl) (by rfl)) rfl) : B9 := h a
end
structure FeedOk (sw : List XSwitch) (zn : List Int) (rp : Int) : Prop where
  sn : sw.length ≤ 32
  zl : zn.length ≤ 16
  up : UpOk sw
  since : ∀ i : Nat, i < sw.length → 0 ≤ (sw.getD i default).since ∧ (sw.getD i default).since ≤ 2147483648
  shown : ∀ i : Nat, i < sw.length → -1 ≤ (sw.getD i default).shown ∧ (sw.getD i default).shown ≤ 1
  zr : ∀ i : Nat, i < zn.length → 0 ≤ zn.getD i 0 ∧ zn.getD i 0 < sw.length
  zd : ∀ i j : Nat, j < i → i < zn.length → zn.getD j 0 ≠ zn.getD i 0
  rp : 1 ≤ rp ∧ rp ≤ 100000
theorem findS_none {β : Type} {f : Nat → Option β} {n : Nat} (h : (List.range n).findSome? f = none) {i : Nat} (hi : i < n) : f i = none := by
  rw [List.findSome?_eq_none_iff] at h
  exact h i (List.mem_range.2 hi)
theorem swErr_ne {l : List XSwitch} {i : Nat} : swErr l i ≠ some 0 := by
  rw [swErr]
  repeat' split
  all_goals (intro h; first | cases h | (injection h with h; omega))
theorem znErr_ne {n : Nat} {l : List Int} {i : Nat} : znErr n l i ≠ some 0 := by
  rw [znErr]
  repeat' split
  all_goals (intro h; first | cases h | (injection h with h; omega))
theorem findS_ne {f : Nat → Option Int} {n : Nat} {e : Int} (hf : ∀ i, f i ≠ some 0) (h : (List.range n).findSome? f = some e) : e ≠ 0 := by
  obtain ⟨i, _, hi⟩ := List.exists_of_findSome?_eq_some h
  rintro rfl
  exact hf _ hi
theorem feedOk_of {sw : List XSwitch} {zn : List Int} {rp : Int} (h : feedE sw zn rp = 0) : FeedOk sw zn rp := by
  by_cases h0 : 32 < sw.length ∨ 16 < zn.length
  · rw [feedE, if_pos h0] at h; omega
  cases h1 : (List.range sw.length).findSome? (swErr sw) with
  | some e => rw [feedE_sw h0 h1] at h; exact absurd h (findS_ne (fun _ => swErr_ne) h1)
  | none =>
    cases h2 : (List.range zn.length).findSome? (znErr sw.length zn) with
    | some e => rw [feedE_zn h0 h1 h2] at h; exact absurd h (findS_ne (fun _ => znErr_ne) h2)
    | none =>
      rw [feedE_rp h0 h1 h2] at h
      have hs : ∀ i : Nat, i < sw.length → (-1 ≤ (sw.getD i default).above ∧ (sw.getD i default).above < i) ∧ (0 ≤ (sw.getD i default).since ∧ (sw.getD i default).since ≤ 2147483648) ∧ (-1 ≤ (sw.getD i default).shown ∧ (sw.getD i default).shown ≤ 1) := fun i hi => by
        have := findS_none h1 hi
        rw [swErr] at this
        split at this
        · cases this
        split at this
        · cases this
        split at this
        · cases this
        rename_i k1 k2 k3
        rw [not_or] at k3
        omega
      have hz : ∀ i : Nat, i < zn.length → (0 ≤ zn.getD i 0 ∧ zn.getD i 0 < sw.length) ∧ ∀ j : Nat, j < i → zn.getD j 0 ≠ zn.getD i 0 := fun i hi => by
        have := findS_none h2 hi
        rw [znErr] at this
        split at this
        · cases this
        split at this
        · cases this
        rename_i k1 k2
        exact ⟨by omega, fun j hj hh => k2 ⟨j, hj, hh⟩⟩
      refine ⟨by omega, by omega, fun i hi => (hs i hi).1, fun i hi => (hs i hi).2.1, fun i hi => (hs i hi).2.2, fun i hi => (hz i hi).1, fun i j hj hi => (hz i hi).2 j hj, ?_⟩
      by_cases hr : rp < 1 ∨ 100000 < rp
      · rw [if_pos hr] at h; omega
      · omega
def pathL (sw : List XSwitch) (zn : List Int) (rp : Int) (s : Int) : List Int := if feedE sw zn rp ≠ 0 ∨ s < 0 ∨ (sw.length : Int) ≤ s then [] else pathS sw s
theorem up_tri (f : XFeeder) (s : Int) (L : List Blk) (R : List Sl) :
    Tri Try.prog 139 [f.val, .int .i64 s].toArray L R (fun v L' R' => ∃ bs bf, v = .func (.func 144) #[] #[.pointer (some ⟨bs, 0, none⟩), .pointer (some ⟨bf, 0, none⟩)] ∧ (⟨bs, [.int .i64 s], 3⟩ :: ⟨bf, f.cells, 71⟩ :: L) = L' ∧ R = R') := by
  refine tri_enter 6 Try.call139 Try.func139 rfl rfl rfl ?_
  refine qae ?_
  refine qax ?_
  intro b2
  refine LJ_box1 (v := Value.int _ _) rfl rfl rfl ?_
  intro b3
  refine LJ_q (yv_assign rfl) rfl ?_
  refine qam ?_
  refine LJ_q (yv_func rfl) rfl ?_
  refine LJ_q (yv_assign rfl) rfl ?_
  refine qa0 ?_
  refine q_r (L' := ⟨b3, [.int .i64 s], 3⟩ :: ⟨b2, f.cells, 71⟩ :: L) (R' := R) (res1 rfl (rv_tmp rfl)) ?_
  exact ⟨b3, b2, rfl, rfl, rfl⟩
theorem collect_tri (f : XFeeder) (s : Int) (bs bf : Nat) (L : List Blk) (R : List Sl) (hsR : InR (swsl f.switches) R) (hu : UpOk f.switches.l) (hn : f.switches.l.length ≤ 1000) (hc : s < f.switches.l.length) :
    Tri Try.prog 138 [.func (.func 144) #[] #[.pointer (some ⟨bs, 0, none⟩), .pointer (some ⟨bf, 0, none⟩)]].toArray (⟨bs, [.int .i64 s], 3⟩ :: ⟨bf, f.cells, 71⟩ :: L) R
      (fun v L' R' => ∃ (q : OwL Int) (c' : Int), v = q.val ∧ q.ok 1 icell ∧ q.l = pathS f.switches.l s ∧ q.L 3 icell ++ (⟨bs, [.int .i64 c'], 3⟩ :: ⟨bf, f.cells, 71⟩ :: L) = L' ∧ R = R') := by
  refine tri_enter 5 Try.call138 Try.func138 rfl rfl rfl ?_
  refine qae ?_
  refine qc4 ?_
  refine qam ?_
  refine LJ_q (yv_move rfl) rfl ?_
  refine LJ_call rfl (appendSeq_tri f s bs bf L R hsR hu hn hc) rfl ?_
  rintro v L' R' ⟨q, c', rfl, hk, hq, rfl, rfl⟩
  refine qc4 ?_
  refine qa0 ?_
  refine q_r (L' := q.L 3 icell ++ (⟨bs, [.int .i64 c'], 3⟩ :: ⟨bf, f.cells, 71⟩ :: L)) (R' := R) (res1 rfl (rv_tmp (show _ = Value.slice _ _ _ from rfl))) ?_
  exact ⟨q, c', rfl, hk, hq, rfl, rfl⟩
theorem path_tri (f : XFeeder) (s : Int) (L : List Blk) (R : List Sl) (hf : FeederR f R) :
    Tri Try.prog 130 [f.val, .int .i64 s].toArray L R (fun v L' R' => ∃ q : OwL Int, v = q.val ∧ q.ok 1 icell ∧ q.l = pathL f.switches.l f.zones.l f.reply s ∧ q.L 3 icell ++ L = L' ∧ R = R') := by
  refine tri_enter 23 Try.call130 Try.func130 rfl rfl rfl ?_
  refine qae ?_
  refine qax ?_
  intro b2
  refine qc4 ?_
  refine qaw ?_
  refine yb3aa ?_
  refine q_l rfl (feedCheck_tri f _ _ hf) ?_
  refine qbq ?_
  refine qah ?_
  apply LJ_or (G := [_, _]) (j := 3) (cj := 8) rfl rfl (by rfl) rfl (show _ = Value.bool _ from rfl) rfl
  ·
   intro hg4
   replace hg4 := qb hg4
   refine qaa ?_
   refine qaj ?_
   exact qai
  intro junk4
  refine qah ?_
  apply LJ_or (G := [_, _, _, _, _]) (j := 7) (cj := 12) rfl rfl (by rfl) rfl (show _ = Value.bool _ from rfl) rfl
  ·
   intro hg8
   replace hg8 := qb hg8
   refine qaa ?_
   refine qab ?_
   refine qac ?_
   refine qag ?_
   refine qbz ?_
   exact qai
  intro junk8
  refine qaf ?_
  refine q_c (fun hc0 => ?_) (fun hc0 => ?_)
  ·
   refine qae ?_
   refine qc4 ?_
   refine qbh ?_
   refine q_r (L' := L) (R' := R) (res1 rfl (rv_tmp (show _ = Value.slice _ _ _ from rfl))) ?_
   exact ⟨.nil, rfl, OwL.nil_ok, by rw [pathL, if_pos (by omega)], by rw [nil_L]; rfl, rfl⟩
  have hok := feedOk_of (sw := f.switches.l) (zn := f.zones.l) (rp := f.reply) (by omega)
  have hsn := hok.sn
  refine qbv ?_
  refine yb3aa ?_
  refine qaa ?_
  refine LJ_call rfl (up_tri f s _ _) rfl ?_
  rintro v L' R' ⟨bs, bf, rfl, rfl, rfl⟩
  refine LJ_call rfl (collect_tri f s bs bf _ _ hf.sw hok.up (by omega) (by omega)) rfl ?_
  rintro v L' R' ⟨q, c', rfl, hk, hq, rfl, rfl⟩
  refine qc4 ?_
  refine qa0 ?_
  refine q_r (L' := q.L 3 icell ++ L) (R' := R) (res1 rfl (rv_tmp (show _ = Value.slice _ _ _ from rfl))) ?_
  exact ⟨q, rfl, hk, by rw [pathL, if_neg (by omega)]; exact hq, rfl, rfl⟩
end Go.Proofs.Ytkpfjmibipblhaa
end
section
/-
  '==' between structs of numbers and truths, spans inside them. No program is named in the first part. By an AI agent; no person has read it.
-/
set_option linter.unusedSimpArgs false
set_option linter.unusedVariables false
namespace Go.Proofs.Ytkpfjmibipblhaa
open Go.Aw Go
inductive KC where
  | i
  | b
def KC.fits : KC → Value → Prop
  | .i, .int .i64 _ => True
  | .b, .bool _ => True
  | _, _ => False
def kFits : List KC → List Value → Prop
  | [], [] => True
  | k :: ks, v :: vs => k.fits v ∧ kFits ks vs
  | _, _ => False
def cellEq : Value → Value → Bool
  | .int _ a, .int _ b => decide (a = b)
  | .bool a, .bool b => decide (a = b)
  | _, _ => false
def cellsEq : List Value → List Value → Bool
  | a :: l, b :: m => cellEq a b && cellsEq l m
  | _, _ => true
theorem kFits_len : ∀ {ks : List KC} {l : List Value}, kFits ks l → l.length = ks.length
  | [], [], _ => rfl
  | [], _ :: _, h => h.elim
  | _ :: _, [], h => h.elim
  | k :: ks, v :: vs, h => by simp [kFits_len h.2]
theorem kFits_split : ∀ {ks ms : List KC} {l : List Value}, kFits (ks ++ ms) l → kFits ks (l.take ks.length) ∧ kFits ms (l.drop ks.length)
  | [], ms, l, h => ⟨by simp [kFits], by simpa using h⟩
  | k :: ks, ms, [], h => h.elim
  | k :: ks, ms, v :: vs, h => by
    have := kFits_split (ks := ks) (ms := ms) (l := vs) h.2
    exact ⟨⟨h.1, this.1⟩, this.2⟩
theorem cellsEq_split : ∀ (n : Nat) (l m : List Value), cellsEq l m = (cellsEq (l.take n) (m.take n) && cellsEq (l.drop n) (m.drop n))
  | 0, l, m => by simp [cellsEq]
  | n + 1, [], m => by simp [cellsEq]
  | n + 1, a :: l, [] => by simp [cellsEq]
  | n + 1, a :: l, b :: m => by
    simp only [List.take_succ_cons, List.drop_succ_cons, cellsEq]
    rw [cellsEq_split n l m, Bool.and_assoc]
section
variable {P : Program}
def FE (P : Program) (d : Nat) (I : TypeId) (ks : List KC) : Prop :=
  ∀ (xs ys : List Value) (off : Nat) (w : World), kFits ks ((xs.drop off).take ks.length) → kFits ks ((ys.drop off).take ks.length) →
    ∃ a b, (part I xs.toArray off).run P w = .ok a w ∧ (part I ys.toArray off).run P w = .ok b w ∧ (Op.equalIn d I a b).run P w = .ok (cellsEq ((xs.drop off).take ks.length) ((ys.drop off).take ks.length)) w
theorem part_one {I : TypeId} {xs : List Value} {off : Nat} {v : Value} {w : World} (hag : (isAgg I).run P w = .ok false w) (h : (xs.drop off).take 1 = [v]) : (part I xs.toArray off).run P w = .ok v w := by
  have hv : xs[off]? = some v := by
    have : ((xs.drop off).take 1)[0]? = some v := by rw [h]; rfl
    rw [List.getElem?_take] at this
    simpa using this
  simp only [part, Sem.run_bind, hag, Result.andThen_ok]
  simp [hv]
theorem one_of {l : List Value} {k : KC} (h : kFits [k] l) : ∃ v, l = [v] ∧ k.fits v := by
  match l, h with
  | [v], h => exact ⟨v, rfl, h.1⟩
theorem fe_int {d : Nat} {I : TypeId} (h : P.underlying I = some (.int .i64)) : FE P (d + 1) I [.i] := by
  intro xs ys off w hx hy
  have hag : (isAgg I).run P w = .ok false w := by simp [isAgg, run_underlying h]
  obtain ⟨u, hu, fu⟩ := one_of hx
  obtain ⟨v, hv, fv⟩ := one_of hy
  refine ⟨u, v, part_one hag hu, part_one hag hv, ?_⟩
  have hu' : (xs.drop off).take [KC.i].length = [u] := hu
  have hv' : (ys.drop off).take [KC.i].length = [v] := hv
  rw [hu', hv']
  match u, v, fu, fv with
  | .int .i64 a, .int .i64 b, _, _ =>
    rw [run_equalIn_int (P := P) w d I .i64 .i64 a b h, beq_dec]
    simp [cellsEq, cellEq]
theorem fe_bool {d : Nat} {I : TypeId} (h : P.underlying I = some .bool) : FE P (d + 1) I [.b] := by
  intro xs ys off w hx hy
  have hag : (isAgg I).run P w = .ok false w := by simp [isAgg, run_underlying h]
  obtain ⟨u, hu, fu⟩ := one_of hx
  obtain ⟨v, hv, fv⟩ := one_of hy
  refine ⟨u, v, part_one hag hu, part_one hag hv, ?_⟩
  have hu' : (xs.drop off).take [KC.b].length = [u] := hu
  have hv' : (ys.drop off).take [KC.b].length = [v] := hv
  rw [hu', hv']
  match u, v, fu, fv with
  | .bool a, .bool b, _, _ =>
    rw [run_equalIn_bool (P := P) w d I a b h]
    simp only [cellsEq, cellEq, Bool.and_true]
    cases a <;> cases b <;> rfl
def offsE : Nat → List (TypeId × List KC) → List (Bool × TypeId × Nat)
  | _, [] => []
  | o, (I, ks) :: l => (false, I, o) :: offsE (o + ks.length) l
theorem run_fields {d : Nat} : ∀ (pl : List (TypeId × List KC)) (fs : List Field) (xs ys : List Value) (off : Nat) (w : World), fs.map (fun f => (f.name == "_", f.type, f.offset)) = offsE off pl → (∀ p ∈ pl, FE P d p.1 p.2) →
    kFits (pl.flatMap (·.2)) (xs.drop off) → kFits (pl.flatMap (·.2)) (ys.drop off) → (Op.eqFields d xs.toArray ys.toArray fs).run P w = .ok (cellsEq (xs.drop off) (ys.drop off)) w
  | [], fs, xs, ys, off, w, hm, _, hx, hy => by
    have : fs = [] := by simpa [offsE] using hm
    subst this
    have h1 := kFits_len hx
    have h2 : xs.drop off = [] := List.eq_nil_of_length_eq_zero (by simpa using h1)
    rw [h2]
    simp [Op.eqFields, cellsEq]
  | (I, ks) :: pl, [], xs, ys, off, w, hm, _, _, _ => by simp [offsE] at hm
  | (I, ks) :: pl, f :: fs, xs, ys, off, w, hm, hp, hx, hy => by
    simp only [List.map_cons, offsE, List.cons.injEq, Prod.mk.injEq] at hm
    obtain ⟨⟨f1, f2, f3⟩, hm⟩ := hm
    have nf : f.name ≠ "_" := by simpa using f1
    rw [List.flatMap_cons] at hx hy
    obtain ⟨x1, x2⟩ := kFits_split hx
    obtain ⟨y1, y2⟩ := kFits_split hy
    obtain ⟨a, b, ha, hb, hab⟩ := hp (I, ks) List.mem_cons_self xs ys off w x1 y1
    have ih := run_fields pl fs xs ys (off + ks.length) w hm (fun p h => hp p (List.mem_cons_of_mem _ h)) (by rw [← List.drop_drop]; exact x2) (by rw [← List.drop_drop]; exact y2)
    simp only [Op.eqFields, if_pos nf, f2, f3, Sem.run_bind, ha, hb, hab, Result.andThen_ok, Sem.run_ite, Sem.run_pure]
    rw [cellsEq_split ks.length (xs.drop off) (ys.drop off), List.drop_drop, List.drop_drop]
    cases hc : cellsEq ((xs.drop off).take ks.length) ((ys.drop off).take ks.length) with
    | false => simp
    | true => simpa using ih
theorem run_strEq {d : Nat} {T : TypeId} {pl : List (TypeId × List KC)} (h1 : P.underlying T = some (.struct (P.fieldsOf T))) (h2 : P.stoodInHeld T = false) (h4 : (P.fieldsOf T).toList.map (fun f => (f.name == "_", f.type, f.offset)) = offsE 0 pl) (hp : ∀ p ∈ pl, FE P d p.1 p.2)
    {xs ys : List Value} {w : World} (hx : kFits (pl.flatMap (·.2)) xs) (hy : kFits (pl.flatMap (·.2)) ys) : (Op.equalIn (d + 1) T (.agg xs.toArray) (.agg ys.toArray)).run P w = .ok (cellsEq xs ys) w := by
  rw [run_equalIn_agg w d T _ _ h1 h2]
  exact run_fields pl _ xs ys 0 w h4 hp hx hy
structure StrEq (P : Program) (T : TypeId) (ks : List KC) : Prop where
  eq : ∀ (xs ys : List Value) (w : World), kFits ks xs → kFits ks ys → (Op.equalIn 10000 T (.agg xs.toArray) (.agg ys.toArray)).run P w = .ok (cellsEq xs ys) w
  guard : P.eqGuardType P.depth T = false
theorem strEq_of {T : TypeId} (pl : List (TypeId × List KC)) {ks : List KC} (h1 : P.underlying T = some (.struct (P.fieldsOf T))) (h2 : P.stoodInHeld T = false) (h3 : P.eqGuardType P.depth T = false) (h4 : (P.fieldsOf T).toList.map (fun f => (f.name == "_", f.type, f.offset)) = offsE 0 pl) (hk : pl.flatMap (·.2) = ks) (hp : ∀ p ∈ pl, FE P 9999 p.1 p.2) : StrEq P T ks :=
  ⟨fun xs ys w hx hy => run_strEq h1 h2 h4 hp (by rw [hk]; exact hx) (by rw [hk]; exact hy), h3⟩
end
section
variable {P : Program} {ρ : Operand → Value} {L : List Blk} {R : List Sl} {dst : Option Tmp} {ty : TypeId} {pos : String} {after : Array Edge} {guard : Option (Nat × Bool)} {T T2 : TypeId} {x y : Operand} {ks : List KC} {xs ys : List Value}
theorem yv_eql_str (hT : StrEq P T ks) (hx : ρ x = .agg xs.toArray) (hy : ρ y = .agg ys.toArray) (fx : kFits ks xs) (fy : kFits ks ys) {b : Bool} (hb : cellsEq xs ys = b) : YV P ⟨dst, .binOp .eql T x y T2, ty, pos, after, guard⟩ ρ L R (.bool b) := fun _ w _ => by
  have h1 := run_eqGuard_agg (P := P) w .eql T x y xs.toArray ys.toArray hT.guard
  simp only [execOp, hx, hy, Sem.run_bind, h1, Result.andThen_ok, run_eql_struct, hT.eq xs ys _ fx fy, hb]
  simp
theorem yv_neq_str (hT : StrEq P T ks) (hx : ρ x = .agg xs.toArray) (hy : ρ y = .agg ys.toArray) (fx : kFits ks xs) (fy : kFits ks ys) {b : Bool} (hb : cellsEq xs ys = b) : YV P ⟨dst, .binOp .neq T x y T2, ty, pos, after, guard⟩ ρ L R (.bool (!b)) := fun _ w _ => by
  have h1 := run_eqGuard_agg (P := P) w .neq T x y xs.toArray ys.toArray hT.guard
  simp only [execOp, hx, hy, Sem.run_bind, h1, Result.andThen_ok, run_neq_struct, hT.eq xs ys _ fx fy, hb]
  simp
end
theorem cutEq : StrEq Try.prog 93 [.b, .i, .i] :=
  strEq_of [(4, [.b]), (3, [.i]), (3, [.i])] (by kernel_rfl) (by kernel_rfl) (by kernel_rfl) (by kernel_rfl) rfl (by
    intro p hp
    simp only [List.mem_cons, List.not_mem_nil, or_false] at hp
    rcases hp with rfl | rfl | rfl
    · exact fe_bool (by kernel_rfl)
    · exact fe_int (by kernel_rfl)
    · exact fe_int (by kernel_rfl))
end Go.Proofs.Ytkpfjmibipblhaa
end
