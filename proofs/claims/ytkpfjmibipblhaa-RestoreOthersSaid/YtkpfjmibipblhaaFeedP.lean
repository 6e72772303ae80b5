import Derived.Test.YtkpfjmibipblhaaRoundA
import Derived.OwnWalkIn
import Derived.LoopNIn
import Derived.Test.YtkpfjmibipblhaaNarrow
section
/-
  The library's slices.Collect over the iterator of power networks. By an AI agent; no person has read it.
-/
set_option linter.unusedSimpArgs false
set_option linter.unusedVariables false
namespace Go.Proofs.Ytkpfjmibipblhaa
open Go.Aw Go
set_option maxRecDepth 20000
attribute [local irreducible] CJ LJ DJ Tri YV Gives seqK blockK loopK retK RV mergeK OwL.L
def upF (sw : List XSwitch) : Nat → Int → List Int
  | 0, _ => []
  | n + 1, s => if s < 0 then [] else s :: upF sw n (sw.getD s.toNat default).above
def pathS (sw : List XSwitch) (s : Int) : List Int := upF sw (s + 1).toNat s
def UpOk (sw : List XSwitch) : Prop := ∀ i : Nat, i < sw.length → -1 ≤ (sw.getD i default).above ∧ (sw.getD i default).above < i
theorem upF_fuel {sw : List XSwitch} (h : UpOk sw) : ∀ (n : Nat) (s : Int), s < sw.length → (s + 1).toNat ≤ n → upF sw n s = pathS sw s := by
  intro n
  induction n using Nat.strongRecOn with
  | _ n ih =>
    intro s hs hn
    by_cases h0 : s < 0
    · rw [pathS, show (s + 1).toNat = 0 by omega]
      cases n with
      | zero => rfl
      | succ n => show (if s < 0 then [] else _) = ([] : List Int); rw [if_pos h0]
    · obtain ⟨k, rfl⟩ : ∃ k, n = k + 1 := ⟨n - 1, by omega⟩
      have ha := h s.toNat (by omega)
      rw [pathS, show (s + 1).toNat = s.toNat + 1 by omega, upF, upF, if_neg (by omega), if_neg (by omega), ih k (by omega) _ (by omega) (by omega), ih s.toNat (by omega) _ (by omega) (by omega)]
theorem pathS_neg {sw : List XSwitch} {s : Int} (h : s < 0) : pathS sw s = [] := by rw [pathS, show (s + 1).toNat = 0 by omega]; rfl
theorem pathS_step {sw : List XSwitch} (h : UpOk sw) {s : Int} (h0 : 0 ≤ s) (h1 : s < sw.length) : pathS sw s = s :: pathS sw (sw.getD s.toNat default).above := by
  have ha := h s.toNat (by omega)
  rw [pathS, show (s + 1).toNat = s.toNat + 1 by omega, upF, if_neg (by omega), upF_fuel h _ _ (by omega) (by omega)]
theorem pathS_len {sw : List XSwitch} (h : UpOk sw) : ∀ (n : Nat) (s : Int), s < sw.length → (s + 1).toNat ≤ n → (pathS sw s).length ≤ n := by
  intro n
  induction n with
  | zero => intro s _ hn; rw [pathS_neg (by omega)]; exact Nat.le_refl _
  | succ n ih =>
    intro s hs hn
    by_cases h0 : s < 0
    · rw [pathS_neg h0]; simp
    · have ha := h s.toNat (by omega)
      rw [pathS_step h (by omega) hs, List.length_cons]
      have := ih (sw.getD s.toNat default).above (by omega) (by omega)
      omega

def rfAsg (c : Code) : Code := match c with
  | .seq _ (.seq (.seq _ (.block _ (.rangeFunc _ _ x _))) _) => x
  | _ => .skip
def rfBody (c : Code) : Code := match c with
  | .seq _ (.seq (.seq _ (.block _ (.rangeFunc _ _ _ x))) _) => x
  | _ => .skip
def apTmps (sv x : Value) (B : Nat) : Array Value := #[.slice none 0 0, sv, .pointer (some ⟨B, 0, none⟩), undef, .slice none 0 0, undef, sv, x, undef, undef, undef, undef, undef]
def apLoop (cd : Code) (fn : FuncId) (sv : Value) (B : Nat) (st : LoopState) : Loop := { state := st, pending := none, fn, tmps := apTmps sv undef B, params := #[7], assign := rfAsg cd, body := rfBody cd, defers := B + 1 }
def apRec (cd : Code) (fn : FuncId) (sv : Value) (B : Nat) (st : LoopState) : Obj := .loop (apLoop cd fn sv B st)
theorem apRec_no {cd fn sv B st} : NoCells (apRec cd fn sv B st) := fun c t f h => by cases h
def dObj : Obj := .deferred (some [])
theorem dObj_no : NoCells dObj := fun c t f h => by cases h
theorem fr_arr (t : Array Value) (n : Nat) (h : t.size = n) : Fr n (fun k => t.getD k undef) { tmps := t, defers := [] } := ⟨rfl, h, fun _ => rfl⟩
def isDef (o : Oper) : Bool := match o.op with
  | .defer _ => true
  | _ => false
theorem nodef {ops : List Oper} (h : ops.any isDef = false) : ∀ o ∈ ops, ∀ c, o.op ≠ .defer c := fun o ho c e => by
  have := List.any_eq_false.1 h o ho
  rw [isDef, e] at this
  exact this rfl
section
variable {w0 : World} {Lc : List Blk} {G : Nat → Prop} {R : List Sl} (hh : Holds Lc G R w0)
include hh
theorem ap_round {fn : FuncId} {sv : Value} {m : Nat} {Lf : List Blk} {p : OwL Int} (hok : p.ok 1 icell) (hlen : p.l.length ≤ 1000000) (x : Int) {W : World} (h : At2 w0 Lc G R (w0.heap.size + 1) dObj (apRec (Try.f143.body.getD .skip) fn sv w0.heap.size .ready) (⟨w0.heap.size, [p.val], 38⟩ :: (p.L 3 icell ++ Lf)) W) :
    YieldAt Fence.wide m Try.prog (w0.heap.size + 1 + 1) #[.int .i64 x] W fun e W' => e = .returned (.bool true) ∧ ∃ o, (⟨o, p.l ++ [x]⟩ : OwL Int).ok 1 icell ∧ At2 w0 Lc G R (w0.heap.size + 1) dObj (apRec (Try.f143.body.getD .skip) fn sv w0.heap.size .ready) (⟨w0.heap.size, [(⟨o, p.l ++ [x]⟩ : OwL Int).val], 38⟩ :: ((⟨o, p.l ++ [x]⟩ : OwL Int).L 3 icell ++ Lf)) W' := by
  refine ⟨fn, apTmps sv (.int .i64 x) w0.heap.size, (rfAsg (Try.f143.body.getD .skip)), (rfBody (Try.f143.body.getD .skip)), (by have := run_yield (P := Try.prog) (args := #[.int .i64 x]) (r := apLoop (Try.f143.body.getD .skip) fn sv w0.heap.size .ready) h.lp rfl; simpa [apLoop, apTmps] using this), roundIn_of_wpIn trivial ?_⟩
  refine At2.round hh dObj_no apRec_no h (t := fun k => (apTmps sv (.int .i64 x) w0.heap.size).getD k undef) (Q := fun e t L' R' => e = .normal ∧ (t 5 = .int .i64 x ∧ t 2 = .pointer (some ⟨w0.heap.size, 0, none⟩)) ∧ L' = (⟨w0.heap.size, [p.val], 38⟩ :: (p.L 3 icell ++ Lf)) ∧ R' = R) (fr_arr _ 13 rfl) (nodef rfl) ?_ (fun _ _ _ h => by cases h.1) ?_
  · refine LJ_q (yv_assign (show _ = Value.int _ _ from rfl)) rfl ?_
    exact LJ_nil ⟨rfl, ⟨rfl, rfl⟩, rfl, rfl⟩
  rintro e a1 W1 t1 L1 R1 ⟨rfl, ⟨ht5, ht2⟩, rfl, rfl⟩ hf1 h1
  refine ⟨_, run_beginRound h1.lp rfl, ?_⟩
  have h2 := At2.put hh (by omega) apRec_no (apRec_no (cd := (Try.f143.body.getD .skip)) (fn := fn) (sv := sv) (B := w0.heap.size) (st := .busy)) h1
  show (Code.block _ _).wpIn _ _ _ _ _ _
  refine wpIn_block ?_
  refine At2.round hh dObj_no apRec_no h2 (Q := fun e t L' R' => e = .normal ∧ ∃ o, (⟨o, p.l ++ [x]⟩ : OwL Int).ok 1 icell ∧ (⟨w0.heap.size, [(⟨o, p.l ++ [x]⟩ : OwL Int).val], 38⟩ :: ((⟨o, p.l ++ [x]⟩ : OwL Int).L 3 icell ++ Lf)).Sublist L') hf1 (nodef rfl) ?_ (fun _ _ _ h => by cases h.1) ?_
  · refine LJ_q (yv_load1 tb ht2 rfl rfl (by repeat (first | exact zi0 | apply zi1 | apply zi2)) (by rfl)) rfl ?_
    refine LJ_q (yv_move (v := .int .i64 x) ht5) rfl ?_
    refine qcx ?_
    rintro v L' R' ⟨b88, rfl, rfl, hR88⟩
    replace hR88 := hR88.symm; subst hR88
    refine LJ_g (gives_append1 (f := icell) (a := x) tb rfl rfl rfl rfl hok (by repeat (first | apply OSeg.cons | exact OSeg.here | exact OSeg.last | exact OSeg.at (by assumption) | apply OSeg.app)) (shown_own (by repeat (first | exact zi0 | apply zi1 | apply zi2)) rfl rfl) rfl (by omega)) rfl ?_
    rintro v L' R' ⟨o, rfl, hok89, rfl, rfl⟩
    refine LJ_store1 (v := Value.slice _ _ _) tb rfl ht2 rfl rfl (by repeat (first | apply zu0 | apply zu1 | apply zu2)) rfl rfl (by rfl) ?_
    exact LJ_nil ⟨rfl, o, hok89, List.sublist_cons_self _ _⟩
  rintro e a3 W3 t3 L3 R3 ⟨rfl, o, hok3, hsub⟩ hf3 h3
  have h4 : At2 _ _ _ _ _ _ _ _ _ := ⟨h3.st.weak hsub (allR_self _), h3.df, h3.lp⟩
  exact ⟨_, _, run_endRound none h4.lp, rfl, o, hok3, At2.put hh (by omega) apRec_no apRec_no h4⟩

def numAt (w : World) (b : Nat) : Int := match w.cell? ⟨b, 0, none⟩ with
  | some (.int _ n) => n
  | _ => -1
theorem up_in {fn : FuncId} {sv : Value} {m : Nat} {f : XFeeder} {bs bf : Nat} {L : List Blk} (hsR : InR (swsl f.switches) R) (hu : UpOk f.switches.l) (hn : f.switches.l.length ≤ 1000) {cur : Int} (hc : cur < f.switches.l.length) {W : World} {p : OwL Int} (hk : p.ok 1 icell) (hpl : p.l = [])
    (h : At2 w0 Lc G R (w0.heap.size + 1) dObj (apRec (Try.f143.body.getD .skip) fn sv w0.heap.size .ready) (⟨w0.heap.size, [p.val], 38⟩ :: (p.L 3 icell ++ (⟨bs, [.int .i64 cur], 3⟩ :: ⟨bf, f.cells, 71⟩ :: L))) W) :
    CallsIn Fence.wide m Try.prog 144 #[.func (.yield (w0.heap.size + 1 + 1)) #[] #[], .pointer (some ⟨bs, 0, none⟩), .pointer (some ⟨bf, 0, none⟩)] W fun e W' => (∃ v, e = .returned v) ∧ ∃ (q : OwL Int) (c' : Int), q.ok 1 icell ∧ q.l = pathS f.switches.l cur ∧
      At2 w0 Lc G R (w0.heap.size + 1) dObj (apRec (Try.f143.body.getD .skip) fn sv w0.heap.size .ready) (⟨w0.heap.size, [q.val], 38⟩ :: (q.L 3 icell ++ (⟨bs, [.int .i64 c'], 3⟩ :: ⟨bf, f.cells, 71⟩ :: L))) W' := by
  refine callsIn_of_wp Try.func144 rfl trivial ?_ rfl
  simp only [Try.ntmps144, List.size_toArray, List.length_cons, List.length_nil, Nat.reduceAdd, Nat.reduceSub, Array.replicate_succ, Array.replicate_zero, List.push_toArray, List.append_toArray, List.nil_append, List.cons_append]
  refine wpIn_block ?_
  refine wpIn_loop (fun a w => ∃ (t : Nat → Value) (q : OwL Int) (c' : Int), Fr 16 t a ∧ (t 0 = .func (.yield (w0.heap.size + 1 + 1)) #[] #[] ∧ t 1 = .pointer (some ⟨bs, 0, none⟩) ∧ t 2 = .pointer (some ⟨bf, 0, none⟩)) ∧ q.ok 1 icell ∧ (-1 ≤ c' ∨ True) ∧ c' < f.switches.l.length ∧ pathS f.switches.l cur = q.l ++ pathS f.switches.l c' ∧
      At2 w0 Lc G R (w0.heap.size + 1) dObj (apRec (Try.f143.body.getD .skip) fn sv w0.heap.size .ready) (⟨w0.heap.size, [q.val], 38⟩ :: (q.L 3 icell ++ (⟨bs, [.int .i64 c'], 3⟩ :: ⟨bf, f.cells, 71⟩ :: L))) w) (fun _ w => (numAt w bs + 1).toNat) ?_ ?_
  · exact ⟨_, p, cur, fr_arr _ 16 rfl, ⟨rfl, rfl, rfl⟩, hk, .inr trivial, hc, by rw [hpl]; rfl, h⟩
  rintro a w ⟨t, q, c', hf, ⟨t0, t1, t2⟩, hk, _, hc', hp, h⟩
  have hnum : numAt w bs = c' := by
    have := cell_own (e := ⟨bs, [.int .i64 c'], 3⟩) h.st (List.mem_cons_of_mem _ (List.mem_append_right _ List.mem_cons_self)) 0
    rw [numAt, this]; rfl
  refine wpIn_seq (wpIn_seq ?_)
  refine At2.plain hh dObj_no apRec_no h (Q := fun e t' L' R' => e = .normal ∧ ((t' 0 = .func (.yield (w0.heap.size + 1 + 1)) #[] #[] ∧ t' 1 = .pointer (some ⟨bs, 0, none⟩) ∧ t' 2 = .pointer (some ⟨bf, 0, none⟩)) ∧ t' 5 = .bool (decide (0 ≤ c'))) ∧ (⟨w0.heap.size, [q.val], 38⟩ :: (q.L 3 icell ++ (⟨bs, [.int .i64 c'], 3⟩ :: ⟨bf, f.cells, 71⟩ :: L))) = L') hf ?_ ?_
  · refine CJ_region ?_
    refine LJ_q (yv_load1 tb t1 rfl rfl (by repeat (first | exact zi0 | apply zi1 | apply zi2)) (by rfl)) rfl ?_
    refine qbz ?_
    exact LJ_nil ⟨rfl, ⟨⟨t0, t1, t2⟩, rfl⟩, rfl⟩
  rintro e a1 w1 t' L1 R1 ⟨rfl, ⟨⟨t0, t1, t2⟩, t5⟩, rfl⟩ hf1 h1
  refine wpIn_cond (t := decide (0 ≤ c')) (by rw [hf1.eval]; exact t5) ?_
  by_cases h0 : 0 ≤ c'
  · rw [decide_eq_true h0, if_pos rfl]
    refine wpIn_skip ?_
    refine wpIn_seq (wpIn_block (wpIn_seq ?_))
    refine wpIn_region_lit ?_
    refine in_q hf1 h1.st (yv_move (v := .func (.yield (w0.heap.size + 1 + 1)) #[] #[]) t0) rfl fun a2 hf2 => ?_
    refine in_q hf2 h1.st (yv_load1 tb t1 rfl rfl (by repeat (first | exact zi0 | apply zi1 | apply zi2)) (by rfl)) rfl fun a3 hf3 => ?_
    have hpl2 : q.l.length ≤ 1000000 := by
      have := pathS_len hu _ cur hc (Nat.le_refl _)
      rw [hp, List.length_append] at this
      omega
    refine in_yield (v := .int .i64 c') hf3 rfl rfl rfl (ap_round hh hk hpl2 c' h1) fun a4 w4 hf4 ⟨o, hok4, h4⟩ => ?_
    refine in_q hf4 h4.st (yv_not rfl) rfl fun a5 hf5 => ?_
    show Exit.then _ _ Exit.normal _ _
    refine wpIn_cond (t := false) (by rw [hf5.eval]; rfl) ?_
    rw [if_neg (by simp)]
    refine wpIn_skip ?_
    have hg := get_D (l := f.switches.l) (k := c'.toNat) default (by omega)
    have ha := hu c'.toNat (by omega)
    refine At2.plain hh dObj_no apRec_no h4 (Q := fun e t' L' R' => e = .normal ∧ (t' 0 = .func (.yield (w0.heap.size + 1 + 1)) #[] #[] ∧ t' 1 = .pointer (some ⟨bs, 0, none⟩) ∧ t' 2 = .pointer (some ⟨bf, 0, none⟩)) ∧
      ⟨w0.heap.size, [(⟨o, q.l ++ [c']⟩ : OwL Int).val], 38⟩ :: ((⟨o, q.l ++ [c']⟩ : OwL Int).L 3 icell ++ (⟨bs, [.int .i64 (f.switches.l.getD c'.toNat default).above], 3⟩ :: ⟨bf, f.cells, 71⟩ :: L)) = L') hf5 ?_ ?_
    · refine CJ_region ?_
      refine LJ_q (yv_field tb rfl (show _ = Value.pointer (some ⟨bf, 0, none⟩) from t2) rfl) rfl ?_
      refine qac ?_
      refine LJ_q (yv_load1 tb (show _ = Value.pointer (some ⟨bs, 0, none⟩) from t1) rfl rfl (by repeat (first | exact zi0 | apply zi1 | apply zi2)) (by rfl)) rfl ?_
      refine LJ_q (yv_index_ro tb rfl rfl rfl rfl hsR (i := c'.toNat) (by omega) (by omega)) rfl ?_
      refine qb0 ?_
      refine LJ_q (yv_load1_ro tb rfl rfl rfl hsR hg rfl) rfl ?_
      refine LJ_store1 (v := Value.int _ _) tb rfl (show _ = Value.pointer (some ⟨bs, 0, none⟩) from t1) rfl rfl (by repeat (first | apply zu0 | apply zu1 | apply zu2)) rfl rfl (by rfl) ?_
      exact LJ_nil ⟨rfl, ⟨t0, t1, t2⟩, rfl⟩
    rintro e a6 w6 t6 L6 R6 ⟨rfl, ht6, rfl⟩ hf6 h6
    have hnum6 : numAt w6 bs = (f.switches.l.getD c'.toNat default).above := by
      have := cell_own (e := ⟨bs, [.int .i64 (f.switches.l.getD c'.toNat default).above], 3⟩) h6.st (List.mem_cons_of_mem _ (List.mem_append_right _ List.mem_cons_self)) 0
      rw [numAt, this]; rfl
    refine ⟨⟨t6, ⟨o, q.l ++ [c']⟩, _, hf6, ht6, hok4, .inr trivial, by omega, ?_, h6⟩, ?_⟩
    · rw [hp, pathS_step hu h0 hc', List.append_assoc]; rfl
    · rw [hnum, hnum6]; omega
  · rw [decide_eq_false h0, if_neg (by simp)]
    refine wpIn_exit ?_
    simp only [Exit.then, Exit.inBlock, if_true]
    refine ⟨hf1.defers, _, results_none rfl _ _ _, ⟨_, rfl⟩, q, c', hk, ?_, h1⟩
    rw [hp, pathS_neg (by omega), List.append_nil]
end
set_option maxHeartbeats 1000000 in
theorem appendSeq_tri (f : XFeeder) (s : Int) (bs bf : Nat) (L : List Blk) (R : List Sl) (hsR : InR (swsl f.switches) R) (hu : UpOk f.switches.l) (hn : f.switches.l.length ≤ 1000) (hc : s < f.switches.l.length) :
    Tri Try.prog 143 [.slice none 0 0, .func (.func 144) #[] #[.pointer (some ⟨bs, 0, none⟩), .pointer (some ⟨bf, 0, none⟩)]].toArray (⟨bs, [.int .i64 s], 3⟩ :: ⟨bf, f.cells, 71⟩ :: L) R
      (fun v L' R' => ∃ (q : OwL Int) (c' : Int), v = q.val ∧ q.ok 1 icell ∧ q.l = pathS f.switches.l s ∧ q.L 3 icell ++ (⟨bs, [.int .i64 c'], 3⟩ :: ⟨bf, f.cells, 71⟩ :: L) = L' ∧ R = R') := by
  refine Tri.raw Try.call143 fun w G hh => (callsIn_wide (n := 5)).1 ?_
  refine callsIn_of_wp_marks Try.func143 rfl trivial ?_ rfl
  simp only [Try.ntmps143, List.size_toArray, List.length_cons, List.length_nil, Nat.reduceAdd, Nat.reduceSub, Array.replicate_succ, Array.replicate_zero, List.push_toArray, List.append_toArray, List.nil_append, List.cons_append]
  gi_wp2
  refine wpIn_rangeFunc ?_
  intro fn hfn
  obtain ⟨sv, hsv⟩ : ∃ sv : Value, sv = .func (.func 144) #[] #[.pointer (some ⟨bs, 0, none⟩), .pointer (some ⟨bf, 0, none⟩)] := ⟨_, rfl⟩
  obtain ⟨W0, hW0⟩ : ∃ W0, w.alloc (.cells #[.slice none 0 0] 38) = W0 := ⟨_, rfl⟩
  have hs0 : W0.heap.size = w.heap.size + 1 := by rw [← hW0]; simp
  have st0 : St ⟨w, inL (⟨bs, [.int .i64 s], 3⟩ :: ⟨bf, f.cells, 71⟩ :: L), G⟩ (⟨w.heap.size, [.slice none 0 0], 38⟩ :: ⟨bs, [.int .i64 s], 3⟩ :: ⟨bf, f.cells, 71⟩ :: L) R W0 := by rw [← hW0]; exact (St.init hh).alloc #[.slice none 0 0] 38
  rw [hW0]
  obtain ⟨W1, hW1⟩ : ∃ W1, (W0.alloc dObj).alloc (apRec (Try.f143.body.getD .skip) fn sv w.heap.size .ready) = W1 := ⟨_, rfl⟩
  have hA : At2 w (⟨bs, [.int .i64 s], 3⟩ :: ⟨bf, f.cells, 71⟩ :: L) G R (w.heap.size + 1) dObj (apRec (Try.f143.body.getD .skip) fn sv w.heap.size .ready) (⟨w.heap.size, [(OwL.nil : OwL Int).val], 38⟩ :: ((OwL.nil : OwL Int).L 3 icell ++ (⟨bs, [.int .i64 s], 3⟩ :: ⟨bf, f.cells, 71⟩ :: L))) W1 := by
    rw [← hW1]
    refine ⟨(by rw [nil_L, List.nil_append]; exact (st0.allocO dObj_no).allocO apRec_no), ?_, ?_⟩
    · rw [← hs0]
      exact (heap_old _ _ _ (by simp)).trans (World.alloc_heap_new W0 _)
    · have := World.alloc_heap_new (W0.alloc dObj) (apRec (Try.f143.body.getD .skip) fn sv w.heap.size .ready)
      rwa [World.size_alloc, hs0] at this
  refine ⟨w.heap.size + 1 + 1, [{ target := .collected (w.heap.size + 1), args := #[] }], W1, { target := .fn (.func 144) #[.pointer (some ⟨bs, 0, none⟩), .pointer (some ⟨bf, 0, none⟩)], args := #[.func (.yield (w.heap.size + 1 + 1)) #[] #[]] }, W1, 144,
    #[.func (.yield (w.heap.size + 1 + 1)) #[] #[], .pointer (some ⟨bs, 0, none⟩), .pointer (some ⟨bf, 0, none⟩)], W1, ?_, ?_, fun _ _ => trivial, ?_, fun h => (by cases h), ?_⟩
  · have := run_enterLoop_outer (P := Try.prog) (w := W0) fn (apTmps sv undef w.heap.size) #[7] (rfAsg (Try.f143.body.getD .skip)) (rfBody (Try.f143.body.getD .skip))
    rw [hs0] at this
    rw [← hW1, hsv]
    rw [hsv] at this
    exact this
  · simp [resolve, go_sem]
  · simp [invoke, go_sem, Try.call144]
  · refine (up_in hh hsR hu hn hc OwL.nil_ok rfl hA).mono ?_
    rintro e W2 ⟨⟨v0, rfl⟩, q, c', hk, hq, h2⟩
    have hend := run_endLoop (P := Try.prog) h2.lp (by simp [apLoop])
    have h3 := At2.put hh (by omega) apRec_no (ol' := .loop { apLoop (Try.f143.body.getD .skip) fn sv w.heap.size .ready with state := .exhausted }) (fun c t f h => by cases h) h2
    obtain ⟨W3, hW3⟩ : ∃ W3, W2.putObj (w.heap.size + 1 + 1) (.loop { apLoop (Try.f143.body.getD .skip) fn sv w.heap.size .ready with state := .exhausted }) = W3 := ⟨_, rfl⟩
    rw [hW3] at hend h3
    have hc3 : W3.cell? ⟨w.heap.size, 0, none⟩ = some q.val := cell_own (e := ⟨w.heap.size, [q.val], 38⟩) h3.st List.mem_cons_self 0
    have hd3 := h3.df
    have st3 := h3.st
    clear hW3 h3 h2 hA hW1 st0 hW0
    refine ⟨none, W3, hend, ?_⟩
    gi_wp2
    have st4 := (st3.put hh hd3 dObj_no (o' := .deferred none) (fun c t f h => by cases h) (by omega)).weak (List.sublist_cons_self _ _) (allR_self _)
    refine ⟨by simp, .inl ⟨_, _, rfl, run_takeDeferred hd3, ?_⟩⟩
    exact ⟨_, results_tmp rfl _ _ _, q.val, _, _, rfl, ⟨q, c', rfl, hk, hq, rfl, rfl⟩, st4⟩
end Go.Proofs.Ytkpfjmibipblhaa
end
section
/-
  Power networks: the reference's check. By an AI agent; no person has read it.
-/
set_option linter.unusedSimpArgs false
set_option linter.unusedVariables false
namespace Go.Proofs.Ytkpfjmibipblhaa
open Go.Aw Go
set_option maxRecDepth 20000
attribute [local irreducible] CJ LJ DJ Tri YV Gives seqK blockK loopK retK RV mergeK OwL.L
section
variable {A9 B9 : Prop}
theorem yb2aa (a : A9) (h : A9 → B9 := by exact DJ_q (by first | exact yv_index_ro tb rfl rfl rfl rfl (by first | assumption | exact zr (by simp)) (i := k1) (by first | rfl | omega | (simp; omega)) (by omega) | exact yv_index tb rfl rfl rfl rfl (i := k1) (by first | rfl | omega | (simp; omega)) (by omega)) rfl rfl rfl) : B9 := h a
end
theorem ref18Check_tri (f : XFeeder) (L : List Blk) (R : List Sl) (hf : FeederR f R) :
    Tri Try.prog 82 [f.val].toArray L R (fun v L' R' => v = .int .i64 (feedE f.switches.l f.zones.l f.reply) ∧ L = L' ∧ R = R') := by
  have hsR := hf.sw
  have hzR := hf.zn
  refine Tri_cap Try.call82 hsR fun hcap => ?_
  refine Tri_cap Try.call82 hzR fun hcap2 => ?_
  refine tri_enter 115 Try.call82 Try.func82 rfl rfl rfl ?_
  refine qae ?_
  refine qax ?_
  intro b1
  refine qad ?_
  refine qaw ?_
  refine qab ?_
  refine qac ?_
  refine qag ?_
  refine qa5 ?_
  refine qah ?_
  apply LJ_or (G := [_, _, _, _]) (j := 4) (cj := 11) rfl rfl (by rfl) rfl (show _ = Value.bool _ from rfl) rfl
  ·
   intro hg5
   replace hg5 := qb hg5
   refine qab ?_
   refine qac ?_
   refine qag ?_
   refine qa5 ?_
   exact qai
  intro junk5
  refine qaf ?_
  refine q_c (fun hc0 => ?_) (fun hc0 => ?_)
  ·
   refine qae ?_
   refine qad ?_
   refine qbh ?_
   refine q_i (L' := L) (R' := R) ?_
   exact ⟨by rw [feedE, if_pos (by omega)], rfl, rfl⟩
  have h0 : ¬ (32 < f.switches.l.length ∨ 16 < f.zones.l.length) := by omega
  refine qbo ?_
  refine qad ?_
  refine qa2 ?_
  refine CJ_forget [(1, Value.pointer _), (3, Value.int _ _)] (by repeat' (first | exact trivial | refine And.intro rfl ?_)) fun tq0 => ?_
  refine q_s [2, 3, 4, 17, 18, 19, 20, 21, 22, 23, 24, 25, 26, 27, 28, 29, 30, 31, 32, 33, 34, 35, 36, 37, 38, 39, 40, 41, 42, 43, 44, 45, 46, 47, 48, 49, 50, 51, 52, 53, 54, 55, 56, 57, 58, 59, 60, 61, 62, 63, 64, 65, 66] (fun g : FSR (swErr f.switches.l) (f.switches.l.length) => [(3, .int .i64 ((g.1 : Nat) : Int))]) (fun g => (f.switches.l.length) - g.1) ⟨0, FSR_zero _ _⟩ ?_
  rintro ⟨k0, hk0, hp0⟩ junk
  try dsimp only
  refine qbi ?_
  refine qaa ?_
  refine qab ?_
  refine qac ?_
  refine qag ?_
  refine qaj ?_
  refine qaf ?_
  refine q_c (fun hc1 => ?_) (fun hc1 => ?_)
  ·
   have hxg := get_D (l := f.switches.l) (k := k0) default (by omega)
   obtain ⟨x, hx⟩ : ∃ x, x = f.switches.l.getD k0 default := ⟨_, rfl⟩
   rw [← hx] at hxg
   refine qbb ?_
   refine qab ?_
   refine qac ?_
   refine qaa ?_
   refine LJ_q (by first | exact yv_index_ro tb rfl rfl rfl rfl (by first | assumption | exact zr (by simp)) (i := k0) (by first | rfl | omega | (simp; omega)) (by omega) | exact yv_index tb rfl rfl rfl rfl (i := k0) (by first | rfl | omega | (simp; omega)) (by omega)) rfl ?_
   refine qdw ?_
   refine qaq ?_
   intro b4
   refine qak ?_
   refine qaw ?_
   refine qab ?_
   refine qac ?_
   refine qaj ?_
   refine qah ?_
   apply LJ_or (G := [_, _, _, _]) (j := 3) (cj := 32) rfl rfl (by rfl) rfl (show _ = Value.bool _ from rfl) rfl
   ·
    intro hg4
    replace hg4 := qb hg4
    refine qab ?_
    refine qac ?_
    refine qaa ?_
    refine qbz ?_
    exact qai
   intro junk4
   refine qaf ?_
   refine q_c (fun hc2 => ?_) (fun hc2 => ?_)
   ·
    refine qae ?_
    refine qad ?_
    refine qch ?_
    refine q_i (L' := L) (R' := R) ?_
    exact ⟨by rw [feedE_sw h0 (FSR_some hp0 (by omega) (swErr_16 hx (by omega)))], rfl, rfl⟩
   refine qbo ?_
   refine qab ?_
   refine qac ?_
   refine qaj ?_
   refine qah ?_
   apply LJ_or (G := [_, _, _]) (j := 3) (cj := 41) rfl rfl (by rfl) rfl (show _ = Value.bool _ from rfl) rfl
   ·
    intro hg4
    replace hg4 := qb hg4
    refine qab ?_
    refine qac ?_
    refine qa5 ?_
    exact qai
   intro junk4
   refine qaf ?_
   refine q_c (fun hc3 => ?_) (fun hc3 => ?_)
   ·
    refine qae ?_
    refine qad ?_
    refine qch ?_
    refine q_i (L' := L) (R' := R) ?_
    exact ⟨by rw [feedE_sw h0 (FSR_some hp0 (by omega) (swErr_8 hx (by omega) (by omega)))], rfl, rfl⟩
   refine qbv ?_
   refine qab ?_
   refine qac ?_
   refine qaj ?_
   refine qah ?_
   apply LJ_or (G := [_, _, _]) (j := 3) (cj := 49) rfl rfl (by rfl) rfl (show _ = Value.bool _ from rfl) rfl
   ·
    intro hg4
    replace hg4 := qb hg4
    refine qab ?_
    refine qac ?_
    refine qa5 ?_
    exact qai
   intro junk4
   refine qah ?_
   apply LJ_or (G := [_, _, _, _, _, _, _, _, _, _, _]) (j := 8) (cj := 54) rfl rfl (by rfl) rfl (show _ = Value.bool _ from rfl) rfl
   ·
    intro hg9
    replace hg9 := qb hg9
    refine qab ?_
    refine qac ?_
    refine qah ?_
    apply LJ_and (G := [_, _, _, _, _, _, _]) (j := 11) (cj := 57) rfl rfl (by rfl) rfl (show _ = Value.bool _ from rfl) rfl
    ·
     intro hg12
     replace hg12 := qb hg12
     refine qab ?_
     refine qac ?_
     refine qah ?_
     apply LJ_or (G := [_, _, _]) (j := 14) (cj := 60) rfl rfl (by rfl) rfl (show _ = Value.bool _ from rfl) rfl
     ·
      intro hg15
      replace hg15 := qb hg15
      refine qab ?_
      refine qac ?_
      refine qbn ?_
      exact qai
     intro junk15
     exact qai
    intro junk12
    exact qai
   intro junk9
   refine qaf ?_
   refine q_c (fun hc4 => ?_) (fun hc4 => ?_)
   ·
    refine qae ?_
    refine qad ?_
    refine qbt ?_
    refine q_i (L' := L) (R' := R) ?_
    exact ⟨by rw [feedE_sw h0 (FSR_some hp0 (by omega) (swErr_10 hx (by omega) (by omega) (by simpa using hc4)))], rfl, rfl⟩
   refine qbj ?_
   refine qaa ?_
   refine qar ?_
   refine qad ?_
   refine qav ?_
   exact q_k ⟨k0 + 1, FSR_next hp0 (by omega) (swErr_0 hx (by omega) (by omega) (by cases hl : x.late <;> simp [hl] at hc4 ⊢ <;> first | exact hc4 | omega))⟩
  have hn0 := FSR_none hp0 (by omega)
  refine qcf ?_
  refine qad ?_
  refine qa2 ?_
  refine CJ_forget [(1, Value.pointer _), (5, Value.int _ _)] (by repeat' (first | exact trivial | refine And.intro rfl ?_)) fun tq1 => ?_
  refine q_s [2, 5, 6, 67, 68, 69, 70, 71, 72, 73, 74, 75, 76, 77, 78, 79, 80, 81, 82, 83, 84, 85, 86, 87, 88, 89, 90, 91, 92, 93, 94, 95, 96, 97, 98, 99, 100, 101, 102, 103, 104, 105, 106] (fun g : FSR (znErr f.switches.l.length f.zones.l) (f.zones.l.length) => [(5, .int .i64 ((g.1 : Nat) : Int))]) (fun g => (f.zones.l.length) - g.1) ⟨0, FSR_zero _ _⟩ ?_
  rintro ⟨k1, hk1, hp1⟩ junk
  try dsimp only
  refine qbi ?_
  refine qaa ?_
  refine qab ?_
  refine qac ?_
  refine qag ?_
  refine qaj ?_
  refine qaf ?_
  refine q_c (fun hc5 => ?_) (fun hc5 => ?_)
  ·
   have hzg := get_D (l := f.zones.l) (k := k1) 0 (by omega)
   refine CJ_skip (seqK_normal (CJ_seq (CJ_block (CJ_seq (CJ_seq ?_)))))
   refine CJ_drawn tb [0, 1, 2, 3, 4, 5, 6, 7, 8, 9, 10, 11, 12, 13, 14, 15, 16] _ mixed (by kernel_rfl) (List.Sublist.refl _) ?_
   refine qal ?_
   refine qat ?_
   refine qao ?_
   refine yb2aa ?_
   refine qbl ?_
   refine DJ_q (yv_lss rfl rfl) rfl rfl rfl ?_
   refine qb2 ?_
   refine DJ_case (k := 80) (show _ = Value.bool _ from rfl) (fun hg6 => ?_) (fun hg6 => ?_)
   ·
    replace hg6 := qb hg6
    iterate 9 refine qap ?_
    refine qbp ?_
    refine qbu ?_
    refine CJ_cond_true rfl ?_
    refine qae ?_
    refine qad ?_
    refine qch ?_
    refine q_i (L' := L) (R' := R) ?_
    exact ⟨by rw [feedE_zn h0 hn0 (FSR_some hp1 (by omega) (znErr_16 (by omega)))], rfl, rfl⟩
   replace hg6 := qb hg6
   refine qal ?_
   refine qat ?_
   refine qao ?_
   refine yb2aa ?_
   refine qbl ?_
   refine qal ?_
   refine qat ?_
   refine DJ_q (yv_len tb rfl rfl rfl) rfl rfl rfl ?_
   refine DJ_q (yv_geq rfl rfl) rfl rfl rfl ?_
   refine qbp ?_
   refine qbu ?_
   refine q_c (fun hc6 => ?_) (fun hc6 => ?_)
   ·
    refine qae ?_
    refine qad ?_
    refine qch ?_
    refine q_i (L' := L) (R' := R) ?_
    exact ⟨by rw [feedE_zn h0 hn0 (FSR_some hp1 (by omega) (znErr_16 (by omega)))], rfl, rfl⟩
   refine qbv ?_
   refine qad ?_
   refine qa2 ?_
   refine CJ_forgetW [2, 5, 6, 67, 68, 69, 70, 71, 72, 73, 74, 75, 76, 77, 78, 79, 80, 81, 82, 83, 84, 85, 86, 87, 88, 89, 90, 91, 92, 93, 94, 95, 96, 97, 98, 99, 100, 101, 102, 103, 104, 105, 106] (by repeat (first | apply Off.upd rfl | apply Off.havoc rfl | refine Off.updL (t' := havoc _ _ _) rfl ?_ | exact Off.refl)) [(5, Value.int _ _), (6, Value.int _ _), (81, Value.pointer _), (82, Value.slice _ _ _), (83, Value.int _ _), (84, Value.pointer _), (85, Value.int _ _), (86, Value.pointer _), (87, Value.slice _ _ _), (88, Value.int _ _), (89, Value.bool _)] (by repeat' (first | exact trivial | refine And.intro rfl ?_)) fun tq2 => ?_
   refine q_s [2, 6, 91, 92, 93, 94, 95, 96, 97, 98, 99, 100, 101, 102, 103, 104, 105, 106] (fun g : {j : Nat // j ≤ k1 ∧ ∀ m : Nat, m < j → f.zones.l.getD m 0 ≠ f.zones.l.getD k1 0} => [(6, .int .i64 ((g.1 : Nat) : Int))]) (fun g => k1 - g.1) (⟨0, by omega, fun m hm => by omega⟩) ?_
   rintro ⟨j, hj, hal⟩ junk
   try dsimp only
   refine qbi ?_
   refine qaa ?_
   refine qaa ?_
   refine qaj ?_
   refine qaf ?_
   refine q_c (fun hc7 => ?_) (fun hc7 => ?_)
   ·
    have hjg := get_D (l := f.zones.l) (k := j) 0 (by omega)
    refine CJ_skip (seqK_normal (CJ_seq (CJ_block (CJ_seq ?_))))
    refine CJ_drawn tb [0, 1, 2, 3, 4, 5, 6, 7, 8, 9, 10] _ mixed (by kernel_rfl) (List.Sublist.refl _) ?_
    refine qal ?_
    refine qat ?_
    refine qao ?_
    refine DJ_q (by first | exact yv_index_ro tb rfl rfl rfl rfl (by first | assumption | exact zr (by simp)) (i := j) (by first | rfl | omega | (simp; omega)) (by omega) | exact yv_index tb rfl rfl rfl rfl (i := j) (by first | rfl | omega | (simp; omega)) (by omega)) rfl rfl rfl ?_
    refine qbl ?_
    refine qal ?_
    refine qat ?_
    refine qao ?_
    refine yb2aa ?_
    refine qbl ?_
    refine DJ_q (yv_eql rfl rfl) rfl rfl rfl ?_
    refine qbu ?_
    refine q_c (fun hc8 => ?_) (fun hc8 => ?_)
    ·
     refine qae ?_
     refine qad ?_
     refine LJ_nil (seqK_normal (CJ_ret (blockK_ret (seqK_ret (loopK_ret (blockK_ret (blockK_ret (seqK_ret (loopK_ret (blockK_ret (seqK_ret ?_)))))))))))
     refine q_i (L' := L) (R' := R) ?_
     exact ⟨by rw [feedE_zn h0 hn0 (FSR_some hp1 (by omega) (znErr_17 (by omega) ⟨j, by omega, hc8⟩))], rfl, rfl⟩
    refine qbj ?_
    refine qaa ?_
    refine qar ?_
    refine qad ?_
    refine qav ?_
    exact loopK_mk (⟨j + 1, by omega, fun m hm => by
    rcases Nat.lt_or_ge m j with h | h
    · exact hal m h
    · obtain rfl : m = j := by omega
      exact hc8⟩) (by repeat (first | exact Off.refl | apply Off.upd rfl | apply Off.havoc rfl | apply Off.updL rfl | apply Off.left rfl)) (by repeat' (first | exact trivial | refine And.intro rfl ?_)) (by repeat (first | exact zs0 _ | exact zs1 _ | apply zs2 | apply zs3 | apply zs4 | apply zs5)) (allR_self _) (by dsimp only; omega)
   refine CJ_exit (seqK_exit (loopK_exit (blockK_exit (blockK_normal (seqK_normal (CJ_region ?_))))))
   refine qaa ?_
   refine qar ?_
   refine qad ?_
   refine qav ?_
   exact q_k ⟨k1 + 1, FSR_next hp1 (by omega) (znErr_0 (by omega) (fun ⟨m, m1, m2⟩ => hal m (by omega) m2))⟩
  have hn1 := FSR_none hp1 (by omega)
  refine qcf ?_
  refine qab ?_
  refine qac ?_
  refine qaj ?_
  refine qah ?_
  apply LJ_or (G := [_, _, _]) (j := 3) (cj := 110) rfl rfl (by rfl) rfl (show _ = Value.bool _ from rfl) rfl
  ·
   intro hg4
   replace hg4 := qb hg4
   refine qab ?_
   refine qac ?_
   refine qa5 ?_
   exact qai
  intro junk4
  refine qaf ?_
  refine q_c (fun hc9 => ?_) (fun hc9 => ?_)
  ·
   refine qae ?_
   refine qad ?_
   refine qbh ?_
   refine q_i (L' := L) (R' := R) ?_
   exact ⟨by rw [feedE_rp h0 hn0 hn1, if_pos (by omega)], rfl, rfl⟩
  refine qbv ?_
  refine qad ?_
  refine qa0 ?_
  refine q_i (L' := L) (R' := R) ?_
  exact ⟨by rw [feedE_rp h0 hn0 hn1, if_neg (by omega)], rfl, rfl⟩
end Go.Proofs.Ytkpfjmibipblhaa
end
section
/-
  Power networks: a switch and those above it: feeder.Path and the reference's. By an AI agent; no person has read it.
-/
set_option linter.unusedSimpArgs false
set_option linter.unusedVariables false
namespace Go.Proofs.Ytkpfjmibipblhaa
open Go.Aw Go
set_option maxRecDepth 20000
attribute [local irreducible] CJ LJ DJ Tri YV Gives seqK blockK loopK retK RV mergeK OwL.L
section
variable {A9 B9 : Prop}
theorem yb3aa (a : A9) (h : A9 → B9 := by exact LJ_q (yv_loadN (row := [_, _, _]) tb rfl rfl rfl (by repeat (first | exact zi0 | apply zi1 | apply zi2)) (by rfl) (by rfl)) rfl) : B9 := h a
end
structure FeedOk (sw : List XSwitch) (zn : List Int) (rp : Int) : Prop where
  sn : sw.length ≤ 32
  zl : zn.length ≤ 16
  up : UpOk sw
  since : ∀ i : Nat, i < sw.length → 0 ≤ (sw.getD i default).since ∧ (sw.getD i default).since ≤ 2147483648
  shown : ∀ i : Nat, i < sw.length → -1 ≤ (sw.getD i default).shown ∧ (sw.getD i default).shown ≤ 1
  zr : ∀ i : Nat, i < zn.length → 0 ≤ zn.getD i 0 ∧ zn.getD i 0 < sw.length
  zd : ∀ i j : Nat, j < i → i < zn.length → zn.getD j 0 ≠ zn.getD i 0
  rp : 1 ≤ rp ∧ rp ≤ 100000
theorem findS_none {β : Type} {f : Nat → Option β} {n : Nat} (h : (List.range n).findSome? f = none) {i : Nat} (hi : i < n) : f i = none := by
  rw [List.findSome?_eq_none_iff] at h
  exact h i (List.mem_range.2 hi)
theorem swErr_ne {l : List XSwitch} {i : Nat} : swErr l i ≠ some 0 := by
  rw [swErr]
  repeat' split
  all_goals (intro h; first | cases h | (injection h with h; omega))
theorem znErr_ne {n : Nat} {l : List Int} {i : Nat} : znErr n l i ≠ some 0 := by
  rw [znErr]
  repeat' split
  all_goals (intro h; first | cases h | (injection h with h; omega))
theorem findS_ne {f : Nat → Option Int} {n : Nat} {e : Int} (hf : ∀ i, f i ≠ some 0) (h : (List.range n).findSome? f = some e) : e ≠ 0 := by
  obtain ⟨i, _, hi⟩ := List.exists_of_findSome?_eq_some h
  rintro rfl
  exact hf _ hi
theorem feedOk_of {sw : List XSwitch} {zn : List Int} {rp : Int} (h : feedE sw zn rp = 0) : FeedOk sw zn rp := by
  by_cases h0 : 32 < sw.length ∨ 16 < zn.length
  · rw [feedE, if_pos h0] at h; omega
  cases h1 : (List.range sw.length).findSome? (swErr sw) with
  | some e => rw [feedE_sw h0 h1] at h; exact absurd h (findS_ne (fun _ => swErr_ne) h1)
  | none =>
    cases h2 : (List.range zn.length).findSome? (znErr sw.length zn) with
    | some e => rw [feedE_zn h0 h1 h2] at h; exact absurd h (findS_ne (fun _ => znErr_ne) h2)
    | none =>
      rw [feedE_rp h0 h1 h2] at h
      have hs : ∀ i : Nat, i < sw.length → (-1 ≤ (sw.getD i default).above ∧ (sw.getD i default).above < i) ∧ (0 ≤ (sw.getD i default).since ∧ (sw.getD i default).since ≤ 2147483648) ∧ (-1 ≤ (sw.getD i default).shown ∧ (sw.getD i default).shown ≤ 1) := fun i hi => by
        have := findS_none h1 hi
        rw [swErr] at this
        split at this
        · cases this
        split at this
        · cases this
        split at this
        · cases this
        rename_i k1 k2 k3
        rw [not_or] at k3
        omega
      have hz : ∀ i : Nat, i < zn.length → (0 ≤ zn.getD i 0 ∧ zn.getD i 0 < sw.length) ∧ ∀ j : Nat, j < i → zn.getD j 0 ≠ zn.getD i 0 := fun i hi => by
        have := findS_none h2 hi
        rw [znErr] at this
        split at this
        · cases this
        split at this
        · cases this
        rename_i k1 k2
        exact ⟨by omega, fun j hj hh => k2 ⟨j, hj, hh⟩⟩
      refine ⟨by omega, by omega, fun i hi => (hs i hi).1, fun i hi => (hs i hi).2.1, fun i hi => (hs i hi).2.2, fun i hi => (hz i hi).1, fun i j hj hi => (hz i hi).2 j hj, ?_⟩
      by_cases hr : rp < 1 ∨ 100000 < rp
      · rw [if_pos hr] at h; omega
      · omega
def pathL (sw : List XSwitch) (zn : List Int) (rp : Int) (s : Int) : List Int := if feedE sw zn rp ≠ 0 ∨ s < 0 ∨ (sw.length : Int) ≤ s then [] else pathS sw s
theorem up_tri (f : XFeeder) (s : Int) (L : List Blk) (R : List Sl) :
    Tri Try.prog 139 [f.val, .int .i64 s].toArray L R (fun v L' R' => ∃ bs bf, v = .func (.func 144) #[] #[.pointer (some ⟨bs, 0, none⟩), .pointer (some ⟨bf, 0, none⟩)] ∧ (⟨bs, [.int .i64 s], 3⟩ :: ⟨bf, f.cells, 71⟩ :: L) = L' ∧ R = R') := by
  refine tri_enter 6 Try.call139 Try.func139 rfl rfl rfl ?_
  refine qae ?_
  refine qax ?_
  intro b2
  refine LJ_box1 (v := Value.int _ _) rfl rfl rfl ?_
  intro b3
  refine LJ_q (yv_assign rfl) rfl ?_
  refine qam ?_
  refine LJ_q (yv_func rfl) rfl ?_
  refine LJ_q (yv_assign rfl) rfl ?_
  refine qa0 ?_
  refine q_r (L' := ⟨b3, [.int .i64 s], 3⟩ :: ⟨b2, f.cells, 71⟩ :: L) (R' := R) (res1 rfl (rv_tmp rfl)) ?_
  exact ⟨b3, b2, rfl, rfl, rfl⟩
theorem collect_tri (f : XFeeder) (s : Int) (bs bf : Nat) (L : List Blk) (R : List Sl) (hsR : InR (swsl f.switches) R) (hu : UpOk f.switches.l) (hn : f.switches.l.length ≤ 1000) (hc : s < f.switches.l.length) :
    Tri Try.prog 138 [.func (.func 144) #[] #[.pointer (some ⟨bs, 0, none⟩), .pointer (some ⟨bf, 0, none⟩)]].toArray (⟨bs, [.int .i64 s], 3⟩ :: ⟨bf, f.cells, 71⟩ :: L) R
      (fun v L' R' => ∃ (q : OwL Int) (c' : Int), v = q.val ∧ q.ok 1 icell ∧ q.l = pathS f.switches.l s ∧ q.L 3 icell ++ (⟨bs, [.int .i64 c'], 3⟩ :: ⟨bf, f.cells, 71⟩ :: L) = L' ∧ R = R') := by
  refine tri_enter 5 Try.call138 Try.func138 rfl rfl rfl ?_
  refine qae ?_
  refine qc4 ?_
  refine qam ?_
  refine LJ_q (yv_move rfl) rfl ?_
  refine LJ_call rfl (appendSeq_tri f s bs bf L R hsR hu hn hc) rfl ?_
  rintro v L' R' ⟨q, c', rfl, hk, hq, rfl, rfl⟩
  refine qc4 ?_
  refine qa0 ?_
  refine q_r (L' := q.L 3 icell ++ (⟨bs, [.int .i64 c'], 3⟩ :: ⟨bf, f.cells, 71⟩ :: L)) (R' := R) (res1 rfl (rv_tmp (show _ = Value.slice _ _ _ from rfl))) ?_
  exact ⟨q, c', rfl, hk, hq, rfl, rfl⟩
theorem path_tri (f : XFeeder) (s : Int) (L : List Blk) (R : List Sl) (hf : FeederR f R) :
    Tri Try.prog 130 [f.val, .int .i64 s].toArray L R (fun v L' R' => ∃ q : OwL Int, v = q.val ∧ q.ok 1 icell ∧ q.l = pathL f.switches.l f.zones.l f.reply s ∧ q.L 3 icell ++ L = L' ∧ R = R') := by
  refine tri_enter 23 Try.call130 Try.func130 rfl rfl rfl ?_
  refine qae ?_
  refine qax ?_
  intro b2
  refine qc4 ?_
  refine qaw ?_
  refine yb3aa ?_
  refine q_l rfl (feedCheck_tri f _ _ hf) ?_
  refine qbq ?_
  refine qah ?_
  apply LJ_or (G := [_, _]) (j := 3) (cj := 8) rfl rfl (by rfl) rfl (show _ = Value.bool _ from rfl) rfl
  ·
   intro hg4
   replace hg4 := qb hg4
   refine qaa ?_
   refine qaj ?_
   exact qai
  intro junk4
  refine qah ?_
  apply LJ_or (G := [_, _, _, _, _]) (j := 7) (cj := 12) rfl rfl (by rfl) rfl (show _ = Value.bool _ from rfl) rfl
  ·
   intro hg8
   replace hg8 := qb hg8
   refine qaa ?_
   refine qab ?_
   refine qac ?_
   refine qag ?_
   refine qbz ?_
   exact qai
  intro junk8
  refine qaf ?_
  refine q_c (fun hc0 => ?_) (fun hc0 => ?_)
  ·
   refine qae ?_
   refine qc4 ?_
   refine qbh ?_
   refine q_r (L' := L) (R' := R) (res1 rfl (rv_tmp (show _ = Value.slice _ _ _ from rfl))) ?_
   exact ⟨.nil, rfl, OwL.nil_ok, by rw [pathL, if_pos (by omega)], by rw [nil_L]; rfl, rfl⟩
  have hok := feedOk_of (sw := f.switches.l) (zn := f.zones.l) (rp := f.reply) (by omega)
  have hsn := hok.sn
  refine qbv ?_
  refine yb3aa ?_
  refine qaa ?_
  refine LJ_call rfl (up_tri f s _ _) rfl ?_
  rintro v L' R' ⟨bs, bf, rfl, rfl, rfl⟩
  refine LJ_call rfl (collect_tri f s bs bf _ _ hf.sw hok.up (by omega) (by omega)) rfl ?_
  rintro v L' R' ⟨q, c', rfl, hk, hq, rfl, rfl⟩
  refine qc4 ?_
  refine qa0 ?_
  refine q_r (L' := q.L 3 icell ++ L) (R' := R) (res1 rfl (rv_tmp (show _ = Value.slice _ _ _ from rfl))) ?_
  exact ⟨q, rfl, hk, by rw [pathL, if_neg (by omega)]; exact hq, rfl, rfl⟩
theorem ref18Path_tri (f : XFeeder) (s : Int) (L : List Blk) (R : List Sl) (hf : FeederR f R) :
    Tri Try.prog 45 [f.val, .int .i64 s].toArray L R (fun v L' R' => ∃ q : OwL Int, v = q.val ∧ q.ok 1 icell ∧ q.l = pathL f.switches.l f.zones.l f.reply s ∧ q.L 3 icell ++ L = L' ∧ R = R') := by
  have hsR := hf.sw
  refine Tri_cap Try.call45 hsR fun hcap => ?_
  refine tri_enter 33 Try.call45 Try.func45 rfl rfl rfl ?_
  refine qae ?_
  refine qax ?_
  intro b2
  refine qc4 ?_
  refine qaw ?_
  refine yb3aa ?_
  refine q_l rfl (ref18Check_tri f _ _ hf) ?_
  refine qbq ?_
  refine qah ?_
  apply LJ_or (G := [_, _]) (j := 3) (cj := 9) rfl rfl (by rfl) rfl (show _ = Value.bool _ from rfl) rfl
  ·
   intro hg4
   replace hg4 := qb hg4
   refine qaa ?_
   refine qaj ?_
   exact qai
  intro junk4
  refine qah ?_
  apply LJ_or (G := [_, _, _, _, _]) (j := 7) (cj := 13) rfl rfl (by rfl) rfl (show _ = Value.bool _ from rfl) rfl
  ·
   intro hg8
   replace hg8 := qb hg8
   refine qaa ?_
   refine qab ?_
   refine qac ?_
   refine qag ?_
   refine qbz ?_
   exact qai
  intro junk8
  refine qaf ?_
  refine q_c (fun hc0 => ?_) (fun hc0 => ?_)
  ·
   refine qae ?_
   refine qc4 ?_
   refine qbh ?_
   refine q_r (L' := L) (R' := R) (res1 rfl (rv_tmp (show _ = Value.slice _ _ _ from rfl))) ?_
   exact ⟨.nil, rfl, OwL.nil_ok, by rw [pathL, if_pos (by omega)], by rw [nil_L]; rfl, rfl⟩
  have hok := feedOk_of (sw := f.switches.l) (zn := f.zones.l) (rp := f.reply) (by omega)
  have hsn := hok.sn
  have hup := hok.up
  refine qbv ?_
  refine qc4 ?_
  refine LJ_nil (seqK_normal (CJ_seq (CJ_block ?_)))
  refine CJ_forget [(1, Value.int _ _), (2, Value.pointer _), (5, Value.slice _ _ _)] (by repeat' (first | exact trivial | refine And.intro rfl ?_)) fun tq0 => ?_
  refine CJ_loop [1, 5, 20, 21, 22, 23, 24, 25, 26, 27, 28, 29, 30, 31] ((⟨fun g => [(1, .int .i64 g.1.1), (5, g.1.2.val)], fun g => g.1.2.L 3 icell ++ (⟨b2, f.cells, 71⟩ :: L), fun _ => R, fun g => (g.1.1 + 1).toNat⟩ : Head {g : Int × OwL Int // (g.1 < f.switches.l.length ∧ pathS f.switches.l s = g.2.l ++ pathS f.switches.l g.1) ∧ g.2.ok 1 icell})) (⟨(s, OwL.nil), ⟨by dsimp only; omega, rfl⟩, OwL.nil_ok⟩) (by repeat' (first | exact trivial | refine And.intro rfl ?_)) (by dsimp only; rw [nil_L, List.nil_append]; exact List.Sublist.refl _) (allR_self _) ?_
  rintro ⟨⟨cu, q⟩, ⟨hcu, hq⟩, hqk⟩ junk
  try dsimp only
  dsimp only at hcu hq hqk
  refine qbi ?_
  refine qaa ?_
  refine qbz ?_
  refine qaf ?_
  refine q_c (fun hc1 => ?_) (fun hc1 => ?_)
  ·
   have hg := get_D (l := f.switches.l) (k := cu.toNat) default (by omega)
   have ha := hup cu.toNat (by omega)
   have hql : q.l.length ≤ 33 := by
     have := pathS_len hup _ s (by omega) (Nat.le_refl _)
     rw [hq, List.length_append] at this
     omega
   refine CJ_skip (seqK_normal (CJ_seq (CJ_block (CJ_region ?_))))
   refine qbm ?_
   refine qaa ?_
   refine qcx ?_
   rintro v L' R' ⟨b30, rfl, rfl, hR30⟩
   replace hR30 := hR30.symm; subst hR30
   refine LJ_g (gives_append1 (f := icell) (a := cu) tb rfl rfl rfl rfl (hqk) (by repeat (first | apply OSeg.cons | exact OSeg.here | exact OSeg.last | exact OSeg.at (by assumption) | apply OSeg.app)) (shown_own (by repeat (first | exact zi0 | apply zi1 | apply zi2)) rfl rfl) rfl (by first | omega | (simp only [List.length_cons, List.length_nil, List.length_append]; omega))) rfl ?_
   rintro v L' R' ⟨o31, rfl, hok31, rfl, rfl⟩
   refine qc4 ?_
   refine qcs ?_
   refine qab ?_
   refine qac ?_
   refine qaa ?_
   refine LJ_q (by first | exact yv_index_ro tb rfl rfl rfl rfl (by first | assumption | exact zr (by simp)) (i := cu.toNat) (by first | rfl | omega | (simp; omega)) (by omega) | exact yv_index tb rfl rfl rfl rfl (i := cu.toNat) (by first | rfl | omega | (simp; omega)) (by omega)) rfl ?_
   refine qb0 ?_
   refine qa7 ?_
   refine qad ?_
   refine qav ?_
   exact q_k ⟨((f.switches.l.getD cu.toNat default).above, (⟨o31, q.l ++ [cu]⟩ : OwL Int)), ⟨by dsimp only; omega, by dsimp only; rw [hq, pathS_step hup (by omega) hcu, List.append_assoc]; rfl⟩, hok31⟩
  refine qbk ?_
  refine qbm ?_
  refine qc4 ?_
  refine qa0 ?_
  refine q_r (L' := q.L 3 icell ++ L) (R' := R) (res1 rfl (rv_tmp (show _ = Value.slice _ _ _ from rfl))) ?_
  exact ⟨q, rfl, hqk, by rw [pathL, if_neg (by omega), hq, pathS_neg (by omega), List.append_nil], rfl, rfl⟩
end Go.Proofs.Ytkpfjmibipblhaa
end
