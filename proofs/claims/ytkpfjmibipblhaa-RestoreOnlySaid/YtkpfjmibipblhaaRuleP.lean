import Derived.Test.YtkpfjmibipblhaaFed
section
/-
  What measurements say later: sensor.Check, window.At, window.Meet. By an AI agent; no person has read it.
-/
set_option linter.unusedSimpArgs false
set_option linter.unusedVariables false
namespace Go.Proofs.Ytkpfjmibipblhaa
open Go.Aw Go
set_option maxRecDepth 20000
attribute [local irreducible] CJ LJ DJ Tri YV Gives seqK blockK loopK retK RV mergeK OwL.L

section
variable {A9 B9 : Prop}
theorem ya8aa (a : A9) (h : A9 → B9 := by exact LJ_q (by first | exact yv_pick_true rfl rfl | exact yv_pick_false rfl rfl | exact yv_pick rfl) rfl) : B9 := h a
theorem ya8ab (a : A9) (h : A9 → B9 := by exact LJ_qg (yv_load1 tb rfl rfl rfl (by repeat (first | exact zi0 | apply zi1 | apply zi2)) (by rfl)) rfl rfl) : B9 := h a
end
structure XSens where
  address : Int
  kind : Int
  target : Int
  offset : Int
  scale : Int
  error : Int
  drift : Int
  life : Int
  deriving Inhabited
def XSens.cells (s : XSens) : List Value := [.int .i64 s.address, .int .i64 s.kind, .int .i64 s.target, .int .i64 s.offset, .int .i64 s.scale, .int .i64 s.error, .int .i64 s.drift, .int .i64 s.life]
abbrev XSens.val (s : XSens) : Value := .agg #[.int .i64 s.address, .int .i64 s.kind, .int .i64 s.target, .int .i64 s.offset, .int .i64 s.scale, .int .i64 s.error, .int .i64 s.drift, .int .i64 s.life]
structure XMeas where
  sensor : Int
  time : Int
  span : XSpan
  deriving Inhabited
abbrev sesl (x : Arr XSens) : Sl := x.sl 8 XSens.cells []
theorem sensIn_tri (lo hi : Int) (x : Arr Int) (L : List Blk) (R : List Sl) (hx : InR (isl x) R) (hn : x.l.length ≤ 100) :
    Tri Try.prog 125 [.int .i64 lo, .int .i64 hi, x.val].toArray L R (fun v L' R' => v = .bool (decide (∀ n ∈ x.l, lo ≤ n ∧ n ≤ hi)) ∧ L = L' ∧ R = R') := by
  refine tri_enter 24 Try.call125 Try.func125 rfl rfl rfl ?_
  refine qae ?_
  refine qaz ?_
  refine qaw ?_
  refine qbm ?_
  refine qag ?_
  refine qaa ?_
  refine qa2 ?_
  refine CJ_forget [(0, Value.int _ _), (1, Value.int _ _), (9, Value.slice _ _ _), (10, Value.int _ _), (11, Value.int _ _)] (by repeat' (first | exact trivial | refine And.intro rfl ?_)) fun tq0 => ?_
  refine q_s [6, 8, 11, 12, 13, 14, 15, 16, 17, 18, 19, 20, 21, 22, 23] (fun g : {k : Nat // k ≤ x.l.length ∧ ∀ n ∈ x.l.take k, lo ≤ n ∧ n ≤ hi} => [(11, .int .i64 ((g.1 : Nat) : Int))]) (fun g => x.l.length - g.1) (⟨0, by omega, by simp⟩) ?_
  rintro ⟨k, hk, hal⟩ junk
  try dsimp only
  refine qae ?_
  refine qaj ?_
  refine qa4 ?_
  refine q_c (fun hc0 => ?_) (fun hc0 => ?_)
  ·
   have h1 := get_D (l := x.l) (k := k) 0 (by omega)
   refine qbb ?_
   refine LJ_q (by first | exact yv_index_ro tb rfl rfl rfl rfl (by first | assumption | exact zr (by simp)) (i := k) (by first | rfl | omega | (simp; omega)) (by omega) | exact yv_index tb rfl rfl rfl rfl (i := k) (by first | rfl | omega | (simp; omega)) (by omega)) rfl ?_
   refine qa7 ?_
   refine qad ?_
   refine qam ?_
   refine qaa ?_
   refine qaa ?_
   refine qaj ?_
   refine qah ?_
   apply LJ_or (G := [_, _, _]) (j := 3) (cj := 18) rfl rfl (by rfl) rfl (show _ = Value.bool _ from rfl) rfl
   ·
    intro hg4
    replace hg4 := qb hg4
    refine qaa ?_
    refine qaa ?_
    refine qa5 ?_
    exact qai
   intro junk4
   refine qaf ?_
   refine q_c (fun hc1 => ?_) (fun hc1 => ?_)
   ·
    refine qae ?_
    refine qaz ?_
    refine qbt ?_
    refine q_b (L' := L) (R' := R) ?_
    exact ⟨by rw [decide_eq_false (fun h => by have := h _ (List.mem_of_getElem? h1); omega)], rfl, rfl⟩
   refine qbj ?_
   refine qar ?_
   refine qaa ?_
   refine qav ?_
   exact loopK_mk (⟨k + 1, by omega, fun n hn => by
   rw [List.take_add_one, h1] at hn
   simp only [Option.toList_some, List.mem_append, List.mem_singleton] at hn
   rcases hn with h | h
   · exact hal n h
   · omega⟩) (by repeat (first | exact Off.refl | apply Off.upd rfl | apply Off.havoc rfl | apply Off.updL rfl | apply Off.left rfl)) (by repeat' (first | exact trivial | refine And.intro rfl ?_)) (by repeat (first | exact zs0 _ | exact zs1 _ | apply zs2 | apply zs3 | apply zs4 | apply zs5)) (allR_self _) (by dsimp only; omega)
  refine qbk ?_
  refine qaz ?_
  refine qa0 ?_
  refine q_b (L' := L) (R' := R) ?_
  exact ⟨by rw [decide_eq_true (fun n hn => by rw [List.take_of_length_le (by omega)] at hal; exact hal n hn)], rfl, rfl⟩

def SensOk (s : XSens) : Prop := (0 ≤ s.address ∧ s.address ≤ 255) ∧ 0 ≤ s.target ∧ (-1000000 ≤ s.offset ∧ s.offset ≤ 1000000) ∧ (-1000000 ≤ s.scale ∧ s.scale ≤ 1000000) ∧ (0 ≤ s.error ∧ s.error ≤ 1000000) ∧ (0 ≤ s.drift ∧ s.drift ≤ 1000000) ∧ (1 ≤ s.life ∧ s.life ≤ 1000000)
instance (s : XSens) : Decidable (SensOk s) := by unfold SensOk; infer_instance
def sensErr (s : XSens) : Int := if ¬ (1 ≤ s.kind ∧ s.kind ≤ 6) then 5 else if SensOk s then 0 else 1
theorem sensCheck_tri (s : XSens) (L : List Blk) (R : List Sl) :
    Tri Try.prog 93 [s.val].toArray L R (fun v L' R' => v = .int .i64 (sensErr s) ∧ L = L' ∧ R = R') := by
  refine tri_enter 44 Try.call93 Try.func93 rfl rfl rfl ?_
  refine qae ?_
  refine qax ?_
  intro b1
  refine qad ?_
  refine LJ_nil (seqK_normal (CJ_seq (CJ_block (CJ_seq (CJ_region ?_)))))
  refine qab ?_
  refine qac ?_
  refine qcx ?_
  rintro v L' R' ⟨b6, rfl, rfl, hR6⟩
  replace hR6 := hR6.symm; subst hR6
  refine LJ_frz (wd := 1) (len := 1) (cap := 1) (rows := [icell s.kind]) (subs := []) rfl (by decide) (by decide) (fun r hr => by rw [List.mem_singleton.1 hr]; rfl) (by decide) rfl (fun s hs => by cases hs) ?_
  refine q_l rfl (sensIn_tri 1 6 ⟨some ⟨b6, 0, none⟩, 1, [s.kind]⟩ _ _ (inR_self (.head _)) (by simp)) ?_
  refine qb4 ?_
  refine qaz ?_
  refine qaf ?_
  refine q_c (fun hc0 => ?_) (fun hc0 => ?_)
  ·
   refine qae ?_
   refine qad ?_
   refine qdb ?_
   refine retK_ret (L' := L) (R' := R) (res1 rfl (rv_tmp (show _ = Value.int _ _ from rfl))) ?hp ?hL ?hR
   case hp => exact ⟨by simp at hc0; rw [sensErr, if_pos (by omega)], rfl, rfl⟩
   case hL => exact (by repeat (first | exact zs0 _ | exact zs1 _ | apply zs2 | apply zs3 | apply zs4 | apply zs5))
   case hR => exact fun r h => inR_self (by simp [h])
  refine qae ?_
  refine qab ?_
  refine qac ?_
  refine qcx ?_
  rintro v L' R' ⟨b12, rfl, rfl, hR12⟩
  replace hR12 := hR12.symm; subst hR12
  refine LJ_frz (wd := 1) (len := 1) (cap := 1) (rows := [icell s.address]) (subs := []) rfl (by decide) (by decide) (fun r hr => by rw [List.mem_singleton.1 hr]; rfl) (by decide) rfl (fun s hs => by cases hs) ?_
  refine q_l rfl (sensIn_tri 0 255 ⟨some ⟨b12, 0, none⟩, 1, [s.address]⟩ _ _ (inR_self (.head _)) (by simp)) ?_
  refine qb4 ?_
  refine qah ?_
  refine LJ_case (k := 15) (show _ = Value.bool _ from rfl) (fun hg6 => ?_) (fun hg6 => ?_)
  ·
   replace hg6 := qb hg6
   iterate 3 refine LJ_skg rfl rfl ?_
   refine ya8aa ?_
   refine qah ?_
   ·
    skip
    iterate 7 refine LJ_skg rfl rfl ?_
    refine ya8aa ?_
    refine qaz ?_
    refine qaf ?_
    refine CJ_cond_true rfl ?_
    refine qae ?_
    refine qad ?_
    refine qdb ?_
    refine retK_ret (L' := L) (R' := R) (res1 rfl (rv_tmp (show _ = Value.int _ _ from rfl))) ?hp ?hL ?hR
    case hp => exact ⟨by rw [sensErr, if_neg (by simp at hc0; omega), if_neg (by first | (simp at hc1; rw [SensOk]; omega) | (simp at hg6; rw [SensOk]; omega))], rfl, rfl⟩
    case hL => exact (by repeat (first | exact zs0 _ | exact zs1 _ | apply zs2 | apply zs3 | apply zs4 | apply zs5))
    case hR => exact fun r h => inR_self (by simp [h])
  replace hg6 := qb hg6
  refine LJ_qg (yv_field tb rfl rfl rfl) rfl rfl ?_
  refine ya8ab ?_
  refine LJ_qg (yv_lss rfl rfl) rfl rfl ?_
  refine ya8aa ?_
  refine qah ?_
  refine LJ_case (k := 20) (show _ = Value.bool _ from rfl) (fun hg11 => ?_) (fun hg11 => ?_)
  ·
   replace hg11 := qb hg11
   iterate 7 refine LJ_skg rfl rfl ?_
   refine ya8aa ?_
   refine qaz ?_
   refine qaf ?_
   refine CJ_cond_true rfl ?_
   refine qae ?_
   refine qad ?_
   refine qdb ?_
   refine retK_ret (L' := L) (R' := R) (res1 rfl (rv_tmp (show _ = Value.int _ _ from rfl))) ?hp ?hL ?hR
   case hp => exact ⟨by rw [sensErr, if_neg (by simp at hc0; omega), if_neg (by first | (simp at hc1; rw [SensOk]; omega) | (simp at hg6; rw [SensOk]; omega))], rfl, rfl⟩
   case hL => exact (by repeat (first | exact zs0 _ | exact zs1 _ | apply zs2 | apply zs3 | apply zs4 | apply zs5))
   case hR => exact fun r h => inR_self (by simp [h])
  replace hg11 := qb hg11
  refine LJ_qg (yv_field tb rfl rfl rfl) rfl rfl ?_
  refine ya8ab ?_
  refine LJ_qg (yv_field tb rfl rfl rfl) rfl rfl ?_
  refine ya8ab ?_
  refine LJ_gg (gives_buildSlice (qs := [(0, (Value.int _ _).cells.toList), (1, (Value.int _ _).cells.toList)]) (out := [_, _]) tb rfl rfl rfl rfl rfl rfl rfl) rfl rfl ?_
  rintro v L' R' ⟨b25, rfl, rfl, hR25⟩
  replace hR25 := hR25.symm; subst hR25
  refine LJ_frz (wd := 1) (len := 2) (cap := 2) (rows := [icell s.offset, icell s.scale]) (subs := []) rfl (by decide) (by decide) (fun r hr => by simp only [List.mem_cons, List.not_mem_nil, or_false] at hr; rcases hr with rfl | rfl <;> rfl) (by decide) rfl (fun s hs => by cases hs) ?_
  refine LJ_callg rfl (sensIn_tri (-1000000) 1000000 ⟨some ⟨b25, 0, none⟩, 2, [s.offset, s.scale]⟩ _ _ (inR_self (.head _)) (by simp)) rfl rfl ?_
  rintro v L' R' ⟨rfl, rfl, rfl⟩
  refine LJ_qg (yv_not rfl) rfl rfl ?_
  refine ya8aa ?_
  refine qaz ?_
  refine qaf ?_
  refine q_c (fun hc1 => ?_) (fun hc1 => ?_)
  ·
   refine qae ?_
   refine qad ?_
   refine qdb ?_
   refine retK_ret (L' := L) (R' := R) (res1 rfl (rv_tmp (show _ = Value.int _ _ from rfl))) ?hp ?hL ?hR
   case hp => exact ⟨by rw [sensErr, if_neg (by simp at hc0; omega), if_neg (by first | (simp at hc1; rw [SensOk]; omega) | (simp at hg6; rw [SensOk]; omega))], rfl, rfl⟩
   case hL => exact (by repeat (first | exact zs0 _ | exact zs1 _ | apply zs2 | apply zs3 | apply zs4 | apply zs5))
   case hR => exact fun r h => inR_self (by simp [h])
  refine qae ?_
  refine qab ?_
  refine qac ?_
  refine qab ?_
  refine qac ?_
  refine LJ_g (gives_buildSlice (qs := [(0, (Value.int _ _).cells.toList), (1, (Value.int _ _).cells.toList)]) (out := [_, _]) tb rfl rfl rfl rfl rfl rfl rfl) rfl ?_
  rintro v L' R' ⟨b34, rfl, rfl, hR34⟩
  replace hR34 := hR34.symm; subst hR34
  refine LJ_frz (wd := 1) (len := 2) (cap := 2) (rows := [icell s.error, icell s.drift]) (subs := []) rfl (by decide) (by decide) (fun r hr => by simp only [List.mem_cons, List.not_mem_nil, or_false] at hr; rcases hr with rfl | rfl <;> rfl) (by decide) rfl (fun s hs => by cases hs) ?_
  refine q_l rfl (sensIn_tri 0 1000000 ⟨some ⟨b34, 0, none⟩, 2, [s.error, s.drift]⟩ _ _ (inR_self (.head _)) (by simp)) ?_
  refine qb4 ?_
  refine qah ?_
  refine LJ_case (k := 37) (show _ = Value.bool _ from rfl) (fun hg8 => ?_) (fun hg8 => ?_)
  ·
   replace hg8 := qb hg8
   iterate 5 refine LJ_skg rfl rfl ?_
   refine ya8aa ?_
   refine qaz ?_
   refine qaf ?_
   refine CJ_cond_true rfl ?_
   refine qae ?_
   refine qad ?_
   refine qdb ?_
   refine retK_ret (L' := L) (R' := R) (res1 rfl (rv_tmp (show _ = Value.int _ _ from rfl))) ?hp ?hL ?hR
   case hp => exact ⟨by rw [sensErr, if_neg (by simp at hc0; omega), if_neg (by first | (simp at hc2; rw [SensOk]; omega) | (simp at hg8; rw [SensOk]; omega))], rfl, rfl⟩
   case hL => exact (by repeat (first | exact zs0 _ | exact zs1 _ | apply zs2 | apply zs3 | apply zs4 | apply zs5))
   case hR => exact fun r h => inR_self (by simp [h])
  replace hg8 := qb hg8
  refine LJ_qg (yv_field tb rfl rfl rfl) rfl rfl ?_
  refine ya8ab ?_
  refine LJ_gg (gives_buildSlice (qs := [(0, (Value.int _ _).cells.toList)]) (out := [_]) tb rfl rfl rfl rfl rfl rfl rfl) rfl rfl ?_
  rintro v L' R' ⟨b40, rfl, rfl, hR40⟩
  replace hR40 := hR40.symm; subst hR40
  refine LJ_frz (wd := 1) (len := 1) (cap := 1) (rows := [icell s.life]) (subs := []) rfl (by decide) (by decide) (fun r hr => by rw [List.mem_singleton.1 hr]; rfl) (by decide) rfl (fun s hs => by cases hs) ?_
  refine LJ_callg rfl (sensIn_tri 1 1000000 ⟨some ⟨b40, 0, none⟩, 1, [s.life]⟩ _ _ (inR_self (.head _)) (by simp)) rfl rfl ?_
  rintro v L' R' ⟨rfl, rfl, rfl⟩
  refine LJ_qg (yv_not rfl) rfl rfl ?_
  refine ya8aa ?_
  refine qaz ?_
  refine qaf ?_
  refine q_c (fun hc2 => ?_) (fun hc2 => ?_)
  ·
   refine qae ?_
   refine qad ?_
   refine qdb ?_
   refine retK_ret (L' := L) (R' := R) (res1 rfl (rv_tmp (show _ = Value.int _ _ from rfl))) ?hp ?hL ?hR
   case hp => exact ⟨by rw [sensErr, if_neg (by simp at hc0; omega), if_neg (by first | (simp at hc2; rw [SensOk]; omega) | (simp at hg8; rw [SensOk]; omega))], rfl, rfl⟩
   case hL => exact (by repeat (first | exact zs0 _ | exact zs1 _ | apply zs2 | apply zs3 | apply zs4 | apply zs5))
   case hR => exact fun r h => inR_self (by simp [h])
  refine CJ_skip (blockK_normal (seqK_normal (CJ_seq (CJ_region ?_))))
  refine qad ?_
  refine qa0 ?_
  refine retK_ret (L' := L) (R' := R) (res1 rfl (rv_tmp (show _ = Value.int _ _ from rfl))) ?hp ?hL ?hR
  case hp => exact ⟨by simp at hc0 hg6 hc1 hg8 hc2; rw [sensErr, if_neg (by omega), if_pos (by rw [SensOk]; omega)], rfl, rfl⟩
  case hL => exact (by repeat (first | exact zs0 _ | exact zs1 _ | apply zs2 | apply zs3 | apply zs4 | apply zs5))
  case hR => exact fun r h => inR_self (by simp [h])

def goneS (s : XSens) (m : XMeas) (t : Int) : Prop := sensErr s ≠ 0 ∨ m.sensor < 0 ∨ m.span = nothingS ∨ t < m.time ∨ s.life < t - m.time
instance (s : XSens) (m : XMeas) (t : Int) : Decidable (goneS s m t) := by unfold goneS; infer_instance
end Go.Proofs.Ytkpfjmibipblhaa
end
section
/-
  Statements about chapter 10: what they share. By an AI agent; no person has read it.
-/
set_option linter.unusedSimpArgs false
set_option linter.unusedVariables false
namespace Go.Proofs.Ytkpfjmibipblhaa
open Go.Aw Go
set_option maxRecDepth 20000
attribute [local irreducible] CJ LJ DJ Tri YV Gives seqK blockK loopK retK RV mergeK OwL.L

end Go.Proofs.Ytkpfjmibipblhaa
end
section
/-
  Statements about chapter 11: what they share. By an AI agent; no person has read it.
-/
set_option linter.unusedSimpArgs false
set_option linter.unusedVariables false
namespace Go.Proofs.Ytkpfjmibipblhaa
open Go.Aw Go
set_option maxRecDepth 20000
attribute [local irreducible] CJ LJ DJ Tri YV Gives seqK blockK loopK retK RV mergeK OwL.L

end Go.Proofs.Ytkpfjmibipblhaa
end
section
/-
  Statements about chapter 11: errors; bounds as arguments. By an AI agent; no person has read it.
-/
set_option linter.unusedSimpArgs false
set_option linter.unusedVariables false
namespace Go.Proofs.Ytkpfjmibipblhaa
open Go.Aw Go
set_option maxRecDepth 20000
attribute [local irreducible] CJ LJ DJ Tri YV Gives seqK blockK loopK retK RV mergeK OwL.L

end Go.Proofs.Ytkpfjmibipblhaa
end
section
/-
  Flows and measurements: airflow.Narrow, airflow.Tighten. By an AI agent; no person has read it.
-/
set_option linter.unusedSimpArgs false
set_option linter.unusedVariables false
namespace Go.Proofs.Ytkpfjmibipblhaa
open Go.Aw Go
set_option maxRecDepth 20000
attribute [local irreducible] CJ LJ DJ Tri YV Gives seqK blockK loopK retK RV mergeK OwL.L

def narFor (n : Nat) (kind : Int) (l : List XSens) (x : XMeas) : Prop := (0 ≤ x.sensor ∧ x.sensor < l.length) ∧ (l.getD x.sensor.toNat default).kind = kind ∧ 0 ≤ (l.getD x.sensor.toNat default).target ∧ (l.getD x.sensor.toNat default).target < n
instance (n : Nat) (kind : Int) (l : List XSens) (x : XMeas) : Decidable (narFor n kind l x) := by unfold narFor; infer_instance
end Go.Proofs.Ytkpfjmibipblhaa
end
section
/-
  Sites: thresholds, rules, conditions, zones, what they are by the document. Plain. By an AI agent; no person has read it.
-/
set_option linter.unusedSimpArgs false
set_option linter.unusedVariables false
namespace Go.Proofs.Ytkpfjmibipblhaa
open Go.Aw Go

structure XNode where
  kind : Int
  cond : Int
  left : Int
  right : Int
  deriving Inhabited
def XNode.cells (x : XNode) : List Value := [.int .i64 x.kind, .int .i64 x.cond, .int .i64 x.left, .int .i64 x.right]
structure XLevel where
  cut : Int
  clear : Int
  delay : Int
  deriving Inhabited
abbrev XLevel.val (x : XLevel) : Value := .agg #[.int .i64 x.cut, .int .i64 x.clear, .int .i64 x.delay]
structure XCond where
  kind : Int
  target : Int
  value : Int
  level : XLevel
  deriving Inhabited
def XCond.cells (x : XCond) : List Value := [.int .i64 x.kind, .int .i64 x.target, .int .i64 x.value, .int .i64 x.level.cut, .int .i64 x.level.clear, .int .i64 x.level.delay]
abbrev XCond.val (x : XCond) : Value := .agg #[.int .i64 x.kind, .int .i64 x.target, .int .i64 x.value, .int .i64 x.level.cut, .int .i64 x.level.clear, .int .i64 x.level.delay]
structure XZone where
  rule : Arr XNode
  hold : Int
  roads : Arr Int
  fresh : Int
  deriving Inhabited
def XZone.cells (x : XZone) : List Value := [x.rule.val, .int .i64 x.hold, x.roads.val, .int .i64 x.fresh]
abbrev XZone.val (x : XZone) : Value := .agg #[x.rule.val, .int .i64 x.hold, x.roads.val, .int .i64 x.fresh]
structure XWatch where
  over : Bool
  since : Int
  last : Int
  deriving Inhabited, DecidableEq
structure XCut where
  off : Bool
  clear : Int
  reason : Int
  deriving Inhabited, DecidableEq
def XCut.cells (x : XCut) : List Value := [.bool x.off, .int .i64 x.clear, .int .i64 x.reason]
structure XSite where
  air : XAir
  sensors : Arr XSens
  conds : Arr XCond
  zones : Arr XZone
  persons : Arr Int
def XSite.cells (x : XSite) : List Value := [x.air.mine.places.val, x.air.mine.roads.val, x.air.fans.val, x.air.doors.val, x.sensors.val, x.conds.val, x.zones.val, x.persons.val]
abbrev XSite.val (x : XSite) : Value := .agg #[x.air.mine.places.val, x.air.mine.roads.val, x.air.fans.val, x.air.doors.val, x.sensors.val, x.conds.val, x.zones.val, x.persons.val]
abbrev ndsl (x : Arr XNode) : Sl := x.sl 4 XNode.cells []
abbrev cnsl (x : Arr XCond) : Sl := x.sl 6 XCond.cells []
abbrev XZone.subs (z : XZone) : List Sl := [ndsl z.rule, isl z.roads]
abbrev zosl (x : Arr XZone) : Sl := x.sl 4 XZone.cells (x.l.flatMap XZone.subs)
abbrev cusl (x : Arr XCut) : Sl := x.sl 3 XCut.cells []
theorem InR.rule {x : Arr XZone} {R : List Sl} (h : InR (zosl x) R) {i : Nat} {z : XZone} (hi : x.l[i]? = some z) : InR (ndsl z.rule) R :=
  h.sub (.deep (List.mem_flatMap.2 ⟨z, List.mem_of_getElem? hi, List.mem_cons_self⟩) .here)
theorem InR.zroads {x : Arr XZone} {R : List Sl} (h : InR (zosl x) R) {i : Nat} {z : XZone} (hi : x.l[i]? = some z) : InR (isl z.roads) R :=
  h.sub (.deep (List.mem_flatMap.2 ⟨z, List.mem_of_getElem? hi, List.mem_cons_of_mem _ List.mem_cons_self⟩) .here)
structure SiteR (s : XSite) (R : List Sl) : Prop where
  air : AirR s.air R
  sensors : InR (sesl s.sensors) R
  conds : InR (cnsl s.conds) R
  zones : InR (zosl s.zones) R
  persons : InR (isl s.persons) R
theorem SiteR.mono {s : XSite} {R R' : List Sl} (h : SiteR s R) (k : ∀ r ∈ R, InR r R') : SiteR s R' :=
  ⟨⟨h.air.places.mono k, h.air.roads.mono k, h.air.fans.mono k, h.air.doors.mono k⟩, h.sensors.mono k, h.conds.mono k, h.zones.mono k, h.persons.mono k⟩

def LevelOk (l : XLevel) : Prop := l.cut ≤ 1000000 ∧ 0 ≤ l.clear ∧ l.clear < l.cut ∧ 0 ≤ l.delay ∧ l.delay ≤ 100000
instance (l : XLevel) : Decidable (LevelOk l) := by unfold LevelOk; infer_instance
def levelErr (l : XLevel) : Int := if LevelOk l then 0 else 1
def WatchOk (w : XWatch) : Prop := 0 ≤ w.last ∧ -1 ≤ w.since ∧ w.since ≤ w.last ∧ (w.since = -1 ∨ w.over = true)
instance (w : XWatch) : Decidable (WatchOk w) := by unfold WatchOk; infer_instance
def partF (l : List XNode) : Nat → Int → Option (Int × Int)
  | 0, _ => none
  | n + 1, i =>
    if i < 0 then none
    else if (l.getD i.toNat default).kind = 1 then
      if (l.getD i.toNat default).left = 0 ∧ (l.getD i.toNat default).right = 0 ∧ 0 ≤ (l.getD i.toNat default).cond ∧ (l.getD i.toNat default).cond < 64 then some (i, 1) else none
    else if (l.getD i.toNat default).kind = 2 then
      match partF l n (i - 1) with
      | none => none
      | some (f, d) => if (l.getD i.toNat default).cond = 0 ∧ (l.getD i.toNat default).right = 0 ∧ (l.getD i.toNat default).left = i - 1 then some (f, d + 1) else none
    else if (l.getD i.toNat default).kind = 3 ∨ (l.getD i.toNat default).kind = 4 then
      match partF l n (i - 1) with
      | none => none
      | some (m, r) => if (l.getD i.toNat default).cond = 0 ∧ (l.getD i.toNat default).right = i - 1 ∧ (l.getD i.toNat default).left = m - 1 then
          match partF l n (m - 1) with
          | none => none
          | some (f, q) => some (f, max q r + 1) else none
    else none
def rightR (l : List XNode) : Bool :=
  decide (1 ≤ l.length ∧ l.length ≤ 64) && (match partF l l.length ((l.length : Int) - 1) with
    | none => false
    | some (f, d) => decide (f = 0 ∧ d ≤ 16))
def ruleErr (l : List XNode) (n : Nat) : Int := if rightR l = false then 18 else if ∃ x ∈ l, x.kind = 1 ∧ (n : Int) ≤ x.cond then 1 else 0
def sensOf (a : XAir) (s : XSens) : Int := if s.kind = 5 then (a.fans.l.length : Int) else if s.kind = 6 then (a.doors.l.length : Int) else (a.mine.roads.l.length : Int)
def sensAt (a : XAir) (S : List XSens) (i : Nat) : Option Int :=
  if sensErr (S.getD i default) ≠ 0 then some (sensErr (S.getD i default))
  else if ¬ (0 ≤ (S.getD i default).target ∧ (S.getD i default).target < sensOf a (S.getD i default)) then some 9
  else if ∃ k : Nat, k < i ∧ (S.getD k default).address = (S.getD i default).address then some 9 else none
def sensorsErr (a : XAir) (S : List XSens) : Int := ((List.range S.length).findSome? (sensAt a S)).getD 0
def condBase (S : List XSens) (n : Nat) (c : XCond) : Int :=
  if c.kind = 1 ∨ c.kind = 2 ∨ c.kind = 4 then if 0 ≤ c.target ∧ c.target < S.length then 0 else 9
  else if c.kind = 3 then if (0 ≤ c.target ∧ c.target < S.length) ∧ (S.getD c.target.toNat default).kind = 5 then 0 else 9
  else if c.kind = 5 then if 0 ≤ c.target ∧ c.target < n then 0 else 4
  else 5
def condErr (S : List XSens) (n : Nat) (c : XCond) : Int :=
  if condBase S n c ≠ 0 then condBase S n c else if c.value < 0 ∨ 1099511627776 < c.value then 1 else if c.kind = 1 then levelErr c.level else 0
def roadBad (n : Nat) (l : List Int) (i : Nat) : Prop := ¬ (0 ≤ l.getD i 0 ∧ l.getD i 0 < n) ∨ (0 < i ∧ l.getD i 0 ≤ l.getD (i - 1) 0)
instance (n : Nat) (l : List Int) (i : Nat) : Decidable (roadBad n l i) := by unfold roadBad; infer_instance
def zoneErr (conds n : Nat) (z : XZone) : Int :=
  if ruleErr z.rule.l conds ≠ 0 then ruleErr z.rule.l conds else if z.hold < 0 ∨ 100000 < z.hold ∨ z.fresh < 0 ∨ 100 < z.fresh then 1
  else if ∃ i : Nat, i < z.roads.l.length ∧ roadBad n z.roads.l i then 4 else 0
def nzO (e : Int) : Option Int := if e = 0 then none else some e
def condsErr (s : XSite) : Int := (s.conds.l.findSome? fun c => nzO (condErr s.sensors.l s.air.mine.roads.l.length c)).getD 0
def zonesErr (s : XSite) : Int := (s.zones.l.findSome? fun z => nzO (zoneErr s.conds.l.length s.air.mine.roads.l.length z)).getD 0
def personsErr (s : XSite) : Int := (s.persons.l.findSome? fun p => if p < 1 ∨ 3 < p then some 19 else none).getD 0
def siteErr (s : XSite) : Int :=
  if airErr s.air ≠ 0 then airErr s.air
  else if 64 < s.sensors.l.length ∨ 64 < s.conds.l.length ∨ 16 < s.zones.l.length ∨ 64 < s.persons.l.length then 2
  else if sensorsErr s.air s.sensors.l ≠ 0 then sensorsErr s.air s.sensors.l
  else if condsErr s ≠ 0 then condsErr s
  else if zonesErr s ≠ 0 then zonesErr s
  else personsErr s

end Go.Proofs.Ytkpfjmibipblhaa
end
section
/-
  Thresholds: level.Check, level.Step and the reference's; window.Above. By an AI agent; no person has read it.
-/
set_option linter.unusedSimpArgs false
set_option linter.unusedVariables false
namespace Go.Proofs.Ytkpfjmibipblhaa
open Go.Aw Go
set_option maxRecDepth 20000
attribute [local irreducible] CJ LJ DJ Tri YV Gives seqK blockK loopK retK RV mergeK OwL.L
theorem levelCheck_tri (l : XLevel) (L : List Blk) (R : List Sl) :
    Tri Try.prog 94 [l.val].toArray L R (fun v L' R' => v = .int .i64 (levelErr l) ∧ L = L' ∧ R = R') := by
  refine tri_enter 28 Try.call94 Try.func94 rfl rfl rfl ?_
  refine qae ?_
  refine qax ?_
  intro b1
  refine qad ?_
  refine qaw ?_
  refine qab ?_
  refine qac ?_
  refine qa5 ?_
  refine qah ?_
  apply LJ_or (G := [_, _, _]) (j := 3) (cj := 6) rfl rfl (by rfl) rfl (show _ = Value.bool _ from rfl) rfl
  ·
   intro hg4
   replace hg4 := qb hg4
   refine qab ?_
   refine qac ?_
   refine qaj ?_
   exact qai
  intro junk4
  refine qah ?_
  apply LJ_or (G := [_, _, _, _, _]) (j := 8) (cj := 11) rfl rfl (by rfl) rfl (show _ = Value.bool _ from rfl) rfl
  ·
   intro hg9
   replace hg9 := qb hg9
   refine qab ?_
   refine qac ?_
   refine qab ?_
   refine qac ?_
   refine qbz ?_
   exact qai
  intro junk9
  refine qah ?_
  apply LJ_or (G := [_, _, _]) (j := 15) (cj := 18) rfl rfl (by rfl) rfl (show _ = Value.bool _ from rfl) rfl
  ·
   intro hg16
   replace hg16 := qb hg16
   refine qab ?_
   refine qac ?_
   refine qaj ?_
   exact qai
  intro junk16
  refine qah ?_
  apply LJ_or (G := [_, _, _]) (j := 20) (cj := 23) rfl rfl (by rfl) rfl (show _ = Value.bool _ from rfl) rfl
  ·
   intro hg21
   replace hg21 := qb hg21
   refine qab ?_
   refine qac ?_
   refine qa5 ?_
   exact qai
  intro junk21
  refine qaf ?_
  refine q_c (fun hc0 => ?_) (fun hc0 => ?_)
  ·
   refine qae ?_
   refine qad ?_
   refine qbh ?_
   refine q_i (L' := L) (R' := R) ?_
   exact ⟨by (try simp at hc0); rw [levelErr, if_neg (by rw [LevelOk]; omega)], rfl, rfl⟩
  refine qbv ?_
  refine qad ?_
  refine qa0 ?_
  refine q_i (L' := L) (R' := R) ?_
  exact ⟨by (try simp at hc0); rw [levelErr, if_pos (by rw [LevelOk]; omega)], rfl, rfl⟩

end Go.Proofs.Ytkpfjmibipblhaa
end
section
/-
  Rules: what a right one is, and what more knowledge does to its value. Plain. By an AI agent; no person has read it.
-/
set_option linter.unusedSimpArgs false
set_option linter.unusedVariables false
namespace Go.Proofs.Ytkpfjmibipblhaa
open Go.Aw Go
def NodeOk (l : List XNode) (j : Nat) : Prop :=
  ((l.getD j default).kind = 1 ∧ 0 ≤ (l.getD j default).cond ∧ (l.getD j default).cond < 64) ∨
  ((l.getD j default).kind = 2 ∧ 1 ≤ j ∧ (l.getD j default).left = (j : Int) - 1) ∨
  (((l.getD j default).kind = 3 ∨ (l.getD j default).kind = 4) ∧ 1 ≤ j ∧ (l.getD j default).right = (j : Int) - 1 ∧ 0 ≤ (l.getD j default).left ∧ (l.getD j default).left < (j : Int))
theorem partF_ok {l : List XNode} : ∀ (n : Nat) (i f d : Int), partF l n i = some (f, d) → (0 ≤ f ∧ f ≤ i) ∧ (1 ≤ d ∧ d ≤ n) ∧ ∀ j : Nat, f ≤ (j : Int) → (j : Int) ≤ i → NodeOk l j
  | 0, i, f, d, h => by rw [partF] at h; cases h
  | n + 1, i, f, d, h => by
    rw [partF] at h
    split at h
    · cases h
    rename_i hi
    have at_i : ∀ j : Nat, (j : Int) = i → l.getD j default = l.getD i.toNat default := fun j hj => by rw [← hj, Int.toNat_natCast]
    split at h
    · rename_i h1
      split at h
      · rename_i h2
        cases h
        refine ⟨by omega, by omega, fun j j1 j2 => ?_⟩
        have hj := at_i j (by omega)
        rw [NodeOk, hj]
        exact .inl ⟨h1, h2.2.2.1, h2.2.2.2⟩
      · cases h
    split at h
    · rename_i h1
      split at h
      · cases h
      rename_i f' d' hp
      split at h
      · rename_i h2
        cases h
        obtain ⟨i1, i2, i3⟩ := partF_ok n _ _ _ hp
        refine ⟨by omega, by omega, fun j j1 j2 => ?_⟩
        by_cases hj : (j : Int) = i
        · have hj' := at_i j hj
          rw [NodeOk, hj']
          exact .inr (.inl ⟨h1, by omega, by omega⟩)
        · exact i3 j j1 (by omega)
      · cases h
    split at h
    · rename_i h1
      split at h
      · cases h
      rename_i m r hp
      split at h
      · rename_i h2
        split at h
        · cases h
        rename_i f' q hq
        cases h
        obtain ⟨i1, i2, i3⟩ := partF_ok n _ _ _ hp
        obtain ⟨k1, k2, k3⟩ := partF_ok n _ _ _ hq
        refine ⟨by omega, by omega, fun j j1 j2 => ?_⟩
        by_cases hj : (j : Int) = i
        · have hj' := at_i j hj
          rw [NodeOk, hj']
          exact .inr (.inr ⟨h1, by omega, by omega, by omega, by omega⟩)
        · rcases Int.lt_or_le (j : Int) m with hm | hm
          · exact k3 j j1 (by omega)
          · exact i3 j hm (by omega)
      · cases h
    · cases h
theorem partF_mono {l : List XNode} : ∀ (n m : Nat) (i : Int) (x : Int × Int), n ≤ m → partF l n i = some x → partF l m i = some x
  | 0, _, i, x, _, h => by rw [partF] at h; cases h
  | n + 1, 0, i, x, hnm, h => by omega
  | n + 1, m + 1, i, x, hnm, h => by
    rw [partF] at h ⊢
    split at h
    · cases h
    rename_i hi
    rw [if_neg hi]
    split at h
    · rename_i h1; rw [if_pos h1]; exact h
    rename_i h1
    rw [if_neg h1]
    split at h
    · rename_i h2
      rw [if_pos h2]
      split at h
      · cases h
      rename_i f' d' hp
      rw [partF_mono n m _ _ (by omega) hp]
      exact h
    rename_i h2
    rw [if_neg h2]
    split at h
    · rename_i h3
      rw [if_pos h3]
      split at h
      · cases h
      rename_i a b hp
      rw [partF_mono n m _ _ (by omega) hp]
      dsimp only
      split at h
      · rename_i h4
        rw [if_pos h4]
        split at h
        · cases h
        rename_i a' b' hq
        rw [partF_mono n m _ _ (by omega) hq]
        exact h
      · cases h
    · cases h
theorem rightR_iff {l : List XNode} : rightR l = true ↔ (1 ≤ l.length ∧ l.length ≤ 64) ∧ ∃ d, partF l l.length ((l.length : Int) - 1) = some (0, d) ∧ d ≤ 16 := by
  rw [rightR, Bool.and_eq_true, decide_eq_true_eq]
  constructor
  · rintro ⟨h1, h2⟩
    refine ⟨h1, ?_⟩
    split at h2
    · cases h2
    · rename_i f d hp
      simp only [decide_eq_true_eq] at h2
      obtain ⟨rfl, hd⟩ := h2
      exact ⟨d, hp, hd⟩
  · rintro ⟨h1, d, hp, hd⟩
    refine ⟨h1, ?_⟩
    rw [hp]
    simpa using hd
end Go.Proofs.Ytkpfjmibipblhaa
end
