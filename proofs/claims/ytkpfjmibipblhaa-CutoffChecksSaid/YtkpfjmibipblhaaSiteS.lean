import Derived.Test.YtkpfjmibipblhaaFed
import Derived.Test.YtkpfjmibipblhaaSpans
section
/-
  What measurements say later: sensor.Check, window.At, window.Meet. By an AI agent; no person has read it.
-/
set_option linter.unusedSimpArgs false
set_option linter.unusedVariables false
namespace Go.Proofs.Ytkpfjmibipblhaa
open Go.Aw Go
set_option maxRecDepth 20000
attribute [local irreducible] CJ LJ DJ Tri YV Gives seqK blockK loopK retK RV mergeK OwL.L

section
variable {A9 B9 : Prop}
theorem ya8aa (a : A9) (h : A9 → B9 := by exact LJ_q (by first | exact yv_pick_true rfl rfl | exact yv_pick_false rfl rfl | exact yv_pick rfl) rfl) : B9 := h a
theorem ya8ab (a : A9) (h : A9 → B9 := by exact LJ_qg (yv_load1 tb rfl rfl rfl (by repeat (first | exact zi0 | apply zi1 | apply zi2)) (by rfl)) rfl rfl) : B9 := h a
end
structure XSens where
  address : Int
  kind : Int
  target : Int
  offset : Int
  scale : Int
  error : Int
  drift : Int
  life : Int
  deriving Inhabited
def XSens.cells (s : XSens) : List Value := [.int .i64 s.address, .int .i64 s.kind, .int .i64 s.target, .int .i64 s.offset, .int .i64 s.scale, .int .i64 s.error, .int .i64 s.drift, .int .i64 s.life]
abbrev XSens.val (s : XSens) : Value := .agg #[.int .i64 s.address, .int .i64 s.kind, .int .i64 s.target, .int .i64 s.offset, .int .i64 s.scale, .int .i64 s.error, .int .i64 s.drift, .int .i64 s.life]
structure XMeas where
  sensor : Int
  time : Int
  span : XSpan
  deriving Inhabited
def XMeas.cells (m : XMeas) : List Value := [.int .i64 m.sensor, .int .i64 m.time, .int .i64 m.span.low, .int .i64 m.span.high]
abbrev XMeas.val (m : XMeas) : Value := .agg #[.int .i64 m.sensor, .int .i64 m.time, .int .i64 m.span.low, .int .i64 m.span.high]
abbrev sesl (x : Arr XSens) : Sl := x.sl 8 XSens.cells []
abbrev mesl (x : Arr XMeas) : Sl := x.sl 4 XMeas.cells []

theorem sensIn_tri (lo hi : Int) (x : Arr Int) (L : List Blk) (R : List Sl) (hx : InR (isl x) R) (hn : x.l.length ≤ 100) :
    Tri Try.prog 125 [.int .i64 lo, .int .i64 hi, x.val].toArray L R (fun v L' R' => v = .bool (decide (∀ n ∈ x.l, lo ≤ n ∧ n ≤ hi)) ∧ L = L' ∧ R = R') := by
  refine tri_enter 24 Try.call125 Try.func125 rfl rfl rfl ?_
  refine qae ?_
  refine qaz ?_
  refine qaw ?_
  refine qbm ?_
  refine qag ?_
  refine qaa ?_
  refine qa2 ?_
  refine CJ_forget [(0, Value.int _ _), (1, Value.int _ _), (9, Value.slice _ _ _), (10, Value.int _ _), (11, Value.int _ _)] (by repeat' (first | exact trivial | refine And.intro rfl ?_)) fun tq0 => ?_
  refine q_s [6, 8, 11, 12, 13, 14, 15, 16, 17, 18, 19, 20, 21, 22, 23] (fun g : {k : Nat // k ≤ x.l.length ∧ ∀ n ∈ x.l.take k, lo ≤ n ∧ n ≤ hi} => [(11, .int .i64 ((g.1 : Nat) : Int))]) (fun g => x.l.length - g.1) (⟨0, by omega, by simp⟩) ?_
  rintro ⟨k, hk, hal⟩ junk
  try dsimp only
  refine qae ?_
  refine qaj ?_
  refine qa4 ?_
  refine q_c (fun hc0 => ?_) (fun hc0 => ?_)
  ·
   have h1 := get_D (l := x.l) (k := k) 0 (by omega)
   refine qbb ?_
   refine LJ_q (by first | exact yv_index_ro tb rfl rfl rfl rfl (by first | assumption | exact zr (by simp)) (i := k) (by first | rfl | omega | (simp; omega)) (by omega) | exact yv_index tb rfl rfl rfl rfl (i := k) (by first | rfl | omega | (simp; omega)) (by omega)) rfl ?_
   refine qa7 ?_
   refine qad ?_
   refine qam ?_
   refine qaa ?_
   refine qaa ?_
   refine qaj ?_
   refine qah ?_
   apply LJ_or (G := [_, _, _]) (j := 3) (cj := 18) rfl rfl (by rfl) rfl (show _ = Value.bool _ from rfl) rfl
   ·
    intro hg4
    replace hg4 := qb hg4
    refine qaa ?_
    refine qaa ?_
    refine qa5 ?_
    exact qai
   intro junk4
   refine qaf ?_
   refine q_c (fun hc1 => ?_) (fun hc1 => ?_)
   ·
    refine qae ?_
    refine qaz ?_
    refine qbt ?_
    refine q_b (L' := L) (R' := R) ?_
    exact ⟨by rw [decide_eq_false (fun h => by have := h _ (List.mem_of_getElem? h1); omega)], rfl, rfl⟩
   refine qbj ?_
   refine qar ?_
   refine qaa ?_
   refine qav ?_
   exact loopK_mk (⟨k + 1, by omega, fun n hn => by
   rw [List.take_add_one, h1] at hn
   simp only [Option.toList_some, List.mem_append, List.mem_singleton] at hn
   rcases hn with h | h
   · exact hal n h
   · omega⟩) (by repeat (first | exact Off.refl | apply Off.upd rfl | apply Off.havoc rfl | apply Off.updL rfl | apply Off.left rfl)) (by repeat' (first | exact trivial | refine And.intro rfl ?_)) (by repeat (first | exact zs0 _ | exact zs1 _ | apply zs2 | apply zs3 | apply zs4 | apply zs5)) (allR_self _) (by dsimp only; omega)
  refine qbk ?_
  refine qaz ?_
  refine qa0 ?_
  refine q_b (L' := L) (R' := R) ?_
  exact ⟨by rw [decide_eq_true (fun n hn => by rw [List.take_of_length_le (by omega)] at hal; exact hal n hn)], rfl, rfl⟩

def SensOk (s : XSens) : Prop := (0 ≤ s.address ∧ s.address ≤ 255) ∧ 0 ≤ s.target ∧ (-1000000 ≤ s.offset ∧ s.offset ≤ 1000000) ∧ (-1000000 ≤ s.scale ∧ s.scale ≤ 1000000) ∧ (0 ≤ s.error ∧ s.error ≤ 1000000) ∧ (0 ≤ s.drift ∧ s.drift ≤ 1000000) ∧ (1 ≤ s.life ∧ s.life ≤ 1000000)
instance (s : XSens) : Decidable (SensOk s) := by unfold SensOk; infer_instance
def sensErr (s : XSens) : Int := if ¬ (1 ≤ s.kind ∧ s.kind ≤ 6) then 5 else if SensOk s then 0 else 1
theorem sensCheck_tri (s : XSens) (L : List Blk) (R : List Sl) :
    Tri Try.prog 93 [s.val].toArray L R (fun v L' R' => v = .int .i64 (sensErr s) ∧ L = L' ∧ R = R') := by
  refine tri_enter 44 Try.call93 Try.func93 rfl rfl rfl ?_
  refine qae ?_
  refine qax ?_
  intro b1
  refine qad ?_
  refine LJ_nil (seqK_normal (CJ_seq (CJ_block (CJ_seq (CJ_region ?_)))))
  refine qab ?_
  refine qac ?_
  refine qcx ?_
  rintro v L' R' ⟨b6, rfl, rfl, hR6⟩
  replace hR6 := hR6.symm; subst hR6
  refine LJ_frz (wd := 1) (len := 1) (cap := 1) (rows := [icell s.kind]) (subs := []) rfl (by decide) (by decide) (fun r hr => by rw [List.mem_singleton.1 hr]; rfl) (by decide) rfl (fun s hs => by cases hs) ?_
  refine q_l rfl (sensIn_tri 1 6 ⟨some ⟨b6, 0, none⟩, 1, [s.kind]⟩ _ _ (inR_self (.head _)) (by simp)) ?_
  refine qb4 ?_
  refine qaz ?_
  refine qaf ?_
  refine q_c (fun hc0 => ?_) (fun hc0 => ?_)
  ·
   refine qae ?_
   refine qad ?_
   refine qdb ?_
   refine retK_ret (L' := L) (R' := R) (res1 rfl (rv_tmp (show _ = Value.int _ _ from rfl))) ?hp ?hL ?hR
   case hp => exact ⟨by simp at hc0; rw [sensErr, if_pos (by omega)], rfl, rfl⟩
   case hL => exact (by repeat (first | exact zs0 _ | exact zs1 _ | apply zs2 | apply zs3 | apply zs4 | apply zs5))
   case hR => exact fun r h => inR_self (by simp [h])
  refine qae ?_
  refine qab ?_
  refine qac ?_
  refine qcx ?_
  rintro v L' R' ⟨b12, rfl, rfl, hR12⟩
  replace hR12 := hR12.symm; subst hR12
  refine LJ_frz (wd := 1) (len := 1) (cap := 1) (rows := [icell s.address]) (subs := []) rfl (by decide) (by decide) (fun r hr => by rw [List.mem_singleton.1 hr]; rfl) (by decide) rfl (fun s hs => by cases hs) ?_
  refine q_l rfl (sensIn_tri 0 255 ⟨some ⟨b12, 0, none⟩, 1, [s.address]⟩ _ _ (inR_self (.head _)) (by simp)) ?_
  refine qb4 ?_
  refine qah ?_
  refine LJ_case (k := 15) (show _ = Value.bool _ from rfl) (fun hg6 => ?_) (fun hg6 => ?_)
  ·
   replace hg6 := qb hg6
   iterate 3 refine LJ_skg rfl rfl ?_
   refine ya8aa ?_
   refine qah ?_
   ·
    skip
    iterate 7 refine LJ_skg rfl rfl ?_
    refine ya8aa ?_
    refine qaz ?_
    refine qaf ?_
    refine CJ_cond_true rfl ?_
    refine qae ?_
    refine qad ?_
    refine qdb ?_
    refine retK_ret (L' := L) (R' := R) (res1 rfl (rv_tmp (show _ = Value.int _ _ from rfl))) ?hp ?hL ?hR
    case hp => exact ⟨by rw [sensErr, if_neg (by simp at hc0; omega), if_neg (by first | (simp at hc1; rw [SensOk]; omega) | (simp at hg6; rw [SensOk]; omega))], rfl, rfl⟩
    case hL => exact (by repeat (first | exact zs0 _ | exact zs1 _ | apply zs2 | apply zs3 | apply zs4 | apply zs5))
    case hR => exact fun r h => inR_self (by simp [h])
  replace hg6 := qb hg6
  refine LJ_qg (yv_field tb rfl rfl rfl) rfl rfl ?_
  refine ya8ab ?_
  refine LJ_qg (yv_lss rfl rfl) rfl rfl ?_
  refine ya8aa ?_
  refine qah ?_
  refine LJ_case (k := 20) (show _ = Value.bool _ from rfl) (fun hg11 => ?_) (fun hg11 => ?_)
  ·
   replace hg11 := qb hg11
   iterate 7 refine LJ_skg rfl rfl ?_
   refine ya8aa ?_
   refine qaz ?_
   refine qaf ?_
   refine CJ_cond_true rfl ?_
   refine qae ?_
   refine qad ?_
   refine qdb ?_
   refine retK_ret (L' := L) (R' := R) (res1 rfl (rv_tmp (show _ = Value.int _ _ from rfl))) ?hp ?hL ?hR
   case hp => exact ⟨by rw [sensErr, if_neg (by simp at hc0; omega), if_neg (by first | (simp at hc1; rw [SensOk]; omega) | (simp at hg6; rw [SensOk]; omega))], rfl, rfl⟩
   case hL => exact (by repeat (first | exact zs0 _ | exact zs1 _ | apply zs2 | apply zs3 | apply zs4 | apply zs5))
   case hR => exact fun r h => inR_self (by simp [h])
  replace hg11 := qb hg11
  refine LJ_qg (yv_field tb rfl rfl rfl) rfl rfl ?_
  refine ya8ab ?_
  refine LJ_qg (yv_field tb rfl rfl rfl) rfl rfl ?_
  refine ya8ab ?_
  refine LJ_gg (gives_buildSlice (qs := [(0, (Value.int _ _).cells.toList), (1, (Value.int _ _).cells.toList)]) (out := [_, _]) tb rfl rfl rfl rfl rfl rfl rfl) rfl rfl ?_
  rintro v L' R' ⟨b25, rfl, rfl, hR25⟩
  replace hR25 := hR25.symm; subst hR25
  refine LJ_frz (wd := 1) (len := 2) (cap := 2) (rows := [icell s.offset, icell s.scale]) (subs := []) rfl (by decide) (by decide) (fun r hr => by simp only [List.mem_cons, List.not_mem_nil, or_false] at hr; rcases hr with rfl | rfl <;> rfl) (by decide) rfl (fun s hs => by cases hs) ?_
  refine LJ_callg rfl (sensIn_tri (-1000000) 1000000 ⟨some ⟨b25, 0, none⟩, 2, [s.offset, s.scale]⟩ _ _ (inR_self (.head _)) (by simp)) rfl rfl ?_
  rintro v L' R' ⟨rfl, rfl, rfl⟩
  refine LJ_qg (yv_not rfl) rfl rfl ?_
  refine ya8aa ?_
  refine qaz ?_
  refine qaf ?_
  refine q_c (fun hc1 => ?_) (fun hc1 => ?_)
  ·
   refine qae ?_
   refine qad ?_
   refine qdb ?_
   refine retK_ret (L' := L) (R' := R) (res1 rfl (rv_tmp (show _ = Value.int _ _ from rfl))) ?hp ?hL ?hR
   case hp => exact ⟨by rw [sensErr, if_neg (by simp at hc0; omega), if_neg (by first | (simp at hc1; rw [SensOk]; omega) | (simp at hg6; rw [SensOk]; omega))], rfl, rfl⟩
   case hL => exact (by repeat (first | exact zs0 _ | exact zs1 _ | apply zs2 | apply zs3 | apply zs4 | apply zs5))
   case hR => exact fun r h => inR_self (by simp [h])
  refine qae ?_
  refine qab ?_
  refine qac ?_
  refine qab ?_
  refine qac ?_
  refine LJ_g (gives_buildSlice (qs := [(0, (Value.int _ _).cells.toList), (1, (Value.int _ _).cells.toList)]) (out := [_, _]) tb rfl rfl rfl rfl rfl rfl rfl) rfl ?_
  rintro v L' R' ⟨b34, rfl, rfl, hR34⟩
  replace hR34 := hR34.symm; subst hR34
  refine LJ_frz (wd := 1) (len := 2) (cap := 2) (rows := [icell s.error, icell s.drift]) (subs := []) rfl (by decide) (by decide) (fun r hr => by simp only [List.mem_cons, List.not_mem_nil, or_false] at hr; rcases hr with rfl | rfl <;> rfl) (by decide) rfl (fun s hs => by cases hs) ?_
  refine q_l rfl (sensIn_tri 0 1000000 ⟨some ⟨b34, 0, none⟩, 2, [s.error, s.drift]⟩ _ _ (inR_self (.head _)) (by simp)) ?_
  refine qb4 ?_
  refine qah ?_
  refine LJ_case (k := 37) (show _ = Value.bool _ from rfl) (fun hg8 => ?_) (fun hg8 => ?_)
  ·
   replace hg8 := qb hg8
   iterate 5 refine LJ_skg rfl rfl ?_
   refine ya8aa ?_
   refine qaz ?_
   refine qaf ?_
   refine CJ_cond_true rfl ?_
   refine qae ?_
   refine qad ?_
   refine qdb ?_
   refine retK_ret (L' := L) (R' := R) (res1 rfl (rv_tmp (show _ = Value.int _ _ from rfl))) ?hp ?hL ?hR
   case hp => exact ⟨by rw [sensErr, if_neg (by simp at hc0; omega), if_neg (by first | (simp at hc2; rw [SensOk]; omega) | (simp at hg8; rw [SensOk]; omega))], rfl, rfl⟩
   case hL => exact (by repeat (first | exact zs0 _ | exact zs1 _ | apply zs2 | apply zs3 | apply zs4 | apply zs5))
   case hR => exact fun r h => inR_self (by simp [h])
  replace hg8 := qb hg8
  refine LJ_qg (yv_field tb rfl rfl rfl) rfl rfl ?_
  refine ya8ab ?_
  refine LJ_gg (gives_buildSlice (qs := [(0, (Value.int _ _).cells.toList)]) (out := [_]) tb rfl rfl rfl rfl rfl rfl rfl) rfl rfl ?_
  rintro v L' R' ⟨b40, rfl, rfl, hR40⟩
  replace hR40 := hR40.symm; subst hR40
  refine LJ_frz (wd := 1) (len := 1) (cap := 1) (rows := [icell s.life]) (subs := []) rfl (by decide) (by decide) (fun r hr => by rw [List.mem_singleton.1 hr]; rfl) (by decide) rfl (fun s hs => by cases hs) ?_
  refine LJ_callg rfl (sensIn_tri 1 1000000 ⟨some ⟨b40, 0, none⟩, 1, [s.life]⟩ _ _ (inR_self (.head _)) (by simp)) rfl rfl ?_
  rintro v L' R' ⟨rfl, rfl, rfl⟩
  refine LJ_qg (yv_not rfl) rfl rfl ?_
  refine ya8aa ?_
  refine qaz ?_
  refine qaf ?_
  refine q_c (fun hc2 => ?_) (fun hc2 => ?_)
  ·
   refine qae ?_
   refine qad ?_
   refine qdb ?_
   refine retK_ret (L' := L) (R' := R) (res1 rfl (rv_tmp (show _ = Value.int _ _ from rfl))) ?hp ?hL ?hR
   case hp => exact ⟨by rw [sensErr, if_neg (by simp at hc0; omega), if_neg (by first | (simp at hc2; rw [SensOk]; omega) | (simp at hg8; rw [SensOk]; omega))], rfl, rfl⟩
   case hL => exact (by repeat (first | exact zs0 _ | exact zs1 _ | apply zs2 | apply zs3 | apply zs4 | apply zs5))
   case hR => exact fun r h => inR_self (by simp [h])
  refine CJ_skip (blockK_normal (seqK_normal (CJ_seq (CJ_region ?_))))
  refine qad ?_
  refine qa0 ?_
  refine retK_ret (L' := L) (R' := R) (res1 rfl (rv_tmp (show _ = Value.int _ _ from rfl))) ?hp ?hL ?hR
  case hp => exact ⟨by simp at hc0 hg6 hc1 hg8 hc2; rw [sensErr, if_neg (by omega), if_pos (by rw [SensOk]; omega)], rfl, rfl⟩
  case hL => exact (by repeat (first | exact zs0 _ | exact zs1 _ | apply zs2 | apply zs3 | apply zs4 | apply zs5))
  case hR => exact fun r h => inR_self (by simp [h])

theorem plain_tri (k : Int) (L : List Blk) (R : List Sl) :
    Tri Try.prog 106 [.int .i64 k].toArray L R (fun v L' R' => v = .bool (decide (k = 4 ∨ k = 5 ∨ k = 6)) ∧ L = L' ∧ R = R') := by
  refine tri_enter 13 Try.call106 Try.func106 rfl rfl rfl ?_
  refine qae ?_
  refine qaz ?_
  refine qam ?_
  refine qaa ?_
  refine qbn ?_
  refine qah ?_
  apply LJ_or (G := [_, _]) (j := 2) (cj := 5) rfl rfl (by rfl) rfl (show _ = Value.bool _ from rfl) rfl
  ·
   intro hg3
   replace hg3 := qb hg3
   refine qaa ?_
   refine qbn ?_
   exact qai
  intro junk3
  refine qah ?_
  apply LJ_or (G := [_, _]) (j := 6) (cj := 9) rfl rfl (by rfl) rfl (show _ = Value.bool _ from rfl) rfl
  ·
   intro hg7
   replace hg7 := qb hg7
   refine qaa ?_
   refine qbn ?_
   exact qai
  intro junk7
  refine qaz ?_
  refine qa0 ?_
  refine q_b (L' := L) (R' := R) ?_
  exact ⟨by refine congrArg Value.bool ?_; rw [Bool.eq_iff_iff]; simp; omega, rfl, rfl⟩

def moreS (s : XSens) (m : XMeas) (t : Int) : Int := (s.drift * (t - m.time) + 999).tdiv 1000
def goneS (s : XSens) (m : XMeas) (t : Int) : Prop := sensErr s ≠ 0 ∨ m.sensor < 0 ∨ m.span = nothingS ∨ t < m.time ∨ s.life < t - m.time
instance (s : XSens) (m : XMeas) (t : Int) : Decidable (goneS s m t) := by unfold goneS; infer_instance
def wideS (s : XSens) (m : XMeas) (t : Int) : XSpan := ⟨m.span.low - moreS s m t, m.span.high + moreS s m t⟩
def atS (s : XSens) (m : XMeas) (t : Int) : XSpan :=
  if goneS s m t then nothingS else if s.kind = 4 ∨ s.kind = 5 ∨ s.kind = 6 then m.span
  else if s.kind = 1 ∨ s.kind = 2 then ⟨max (wideS s m t).low 0, max (wideS s m t).high 0⟩ else wideS s m t
def MeasOk (m : XMeas) : Prop := (0 ≤ m.time ∧ m.time ≤ 2147483648) ∧ (-1125899906842624 ≤ m.span.low ∧ m.span.low ≤ 1125899906842624) ∧ (-1125899906842624 ≤ m.span.high ∧ m.span.high ≤ 1125899906842624)
theorem more_bounds {s : XSens} {m : XMeas} {t : Int} (h : ¬ goneS s m t) : (0 ≤ s.drift * (t - m.time) ∧ s.drift * (t - m.time) ≤ 1000000000000) ∧ 0 ≤ moreS s m t ∧ moreS s m t ≤ 1000000001 := by
  rw [goneS] at h
  have he : sensErr s = 0 := by omega
  rw [sensErr] at he
  split at he
  · omega
  split at he
  · rename_i hs
    rw [SensOk] at hs
    have h1 : 0 ≤ t - m.time ∧ t - m.time ≤ 1000000 := by omega
    have h2 : 0 ≤ s.drift ∧ s.drift ≤ 1000000 := by omega
    have h3 : 0 ≤ s.drift * (t - m.time) := Int.mul_nonneg h2.1 h1.1
    have h4 : s.drift * (t - m.time) ≤ 1000000 * 1000000 := Int.mul_le_mul h2.2 h1.2 h1.1 (by decide)
    refine ⟨⟨h3, by omega⟩, ?_⟩
    rw [moreS, Int.tdiv_eq_ediv_of_nonneg (by omega)]
    omega
  · omega
theorem span_eq {a b : XSpan} : a = b ↔ a.low = b.low ∧ a.high = b.high := by
  cases a; cases b; simp
theorem at_tri (s : XSens) (m : XMeas) (t : Int) (L : List Blk) (R : List Sl) (hm : MeasOk m) (ht : 0 ≤ t ∧ t ≤ 2147483648) :
    Tri Try.prog 65 [s.val, m.val, .int .i64 t].toArray L R (fun v L' R' => v = (atS s m t).val ∧ L = L' ∧ R = R') := by
  rw [MeasOk] at hm
  refine tri_enter 83 Try.call65 Try.func65 rfl rfl rfl ?_
  refine qae ?_
  refine qax ?_
  intro b3
  refine qax ?_
  intro b4
  refine qaq ?_
  intro b6
  refine qam ?_
  refine q_l rfl (sensNothing_tri _ _) ?_
  refine qaq ?_
  intro b7
  refine qak ?_
  refine qaw ?_
  refine LJ_q (yv_loadN (row := [_, _, _, _, _, _, _, _]) tb rfl rfl rfl (by repeat (first | exact zi0 | apply zi1 | apply zi2)) (by rfl) (by rfl)) rfl ?_
  refine q_l rfl (sensCheck_tri s _ _) ?_
  refine qbq ?_
  refine qah ?_
  apply LJ_or (G := [_, _, _]) (j := 3) (cj := 14) rfl rfl (by rfl) rfl (show _ = Value.bool _ from rfl) rfl
  ·
   intro hg4
   replace hg4 := qb hg4
   refine qab ?_
   refine qac ?_
   refine qaj ?_
   exact qai
  intro junk4
  refine qah ?_
  apply LJ_or (G := [_, _, _, _]) (j := 8) (cj := 19) rfl rfl (by rfl) rfl (show _ = Value.bool _ from rfl) rfl
  ·
   intro hg9
   replace hg9 := qb hg9
   refine qab ?_
   refine qbe ?_
   refine qbe ?_
   refine LJ_q (yv_eql_span spanEq rfl rfl) rfl ?_
   exact qai
  intro junk9
  refine qah ?_
  apply LJ_or (G := [_, _, _, _]) (j := 14) (cj := 25) rfl rfl (by rfl) rfl (show _ = Value.bool _ from rfl) rfl
  ·
   intro hg15
   replace hg15 := qb hg15
   refine qaa ?_
   refine qab ?_
   refine qac ?_
   refine qaj ?_
   exact qai
  intro junk15
  refine qah ?_
  apply LJ_or (G := [_, _, _, _, _, _, _]) (j := 20) (cj := 31) rfl rfl (by rfl) rfl (show _ = Value.bool _ from rfl) rfl
  ·
   intro hg21
   replace hg21 := qb hg21
   refine qaa ?_
   refine qab ?_
   refine qac ?_
   refine qa9 ?_
   refine qab ?_
   refine qac ?_
   refine qa5 ?_
   exact qai
  intro junk21
  refine qaf ?_
  refine q_c (fun hc0 => ?_) (fun hc0 => ?_)
  ·
   refine qae ?_
   refine qbe ?_
   refine qak ?_
   refine qbh ?_
   refine q_r (L' := L) (R' := R) (res1 rfl (rv_cell (row := [_, _]) tb rfl rfl rfl (by repeat (first | exact zi0 | apply zi1 | apply zi2)) (by rfl) (by rfl))) ?_
   have hgo : goneS s m t := by simp [nothingS] at hc0; rw [goneS, span_eq]; simp only [nothingS]; omega
   exact ⟨by rw [atS, if_pos hgo]; try rfl, rfl, rfl⟩
  have hgo : ¬ goneS s m t := by simp [nothingS] at hc0; rw [goneS, span_eq]; simp only [nothingS]; omega
  obtain ⟨hb1, hb2⟩ := more_bounds hgo
  rw [moreS] at hb2
  refine qbo ?_
  refine qab ?_
  refine qac ?_
  refine q_l rfl (plain_tri _ _ _) ?_
  refine qaf ?_
  refine q_c (fun hc1 => ?_) (fun hc1 => ?_)
  ·
   refine qae ?_
   refine qab ?_
   refine qbe ?_
   refine qak ?_
   refine qbh ?_
   refine q_r (L' := L) (R' := R) (res1 rfl (rv_cell (row := [_, _]) tb rfl rfl rfl (by repeat (first | exact zi0 | apply zi1 | apply zi2)) (by rfl) (by rfl))) ?_
   exact ⟨by rw [atS, if_neg hgo, if_pos (by simpa using hc1)], rfl, rfl⟩
  refine qbv ?_
  refine qab ?_
  refine qac ?_
  refine qaa ?_
  refine qab ?_
  refine qac ?_
  refine qa9 ?_
  refine qcm ?_
  refine qar ?_
  refine qdd ?_
  refine qad ?_
  refine qam ?_
  refine qab ?_
  refine qab ?_
  refine qac ?_
  refine qaa ?_
  refine qa9 ?_
  refine qab ?_
  refine qab ?_
  refine qac ?_
  refine qaa ?_
  refine qar ?_
  refine qcd ?_
  refine qaq ?_
  intro b9
  refine qak ?_
  refine qaw ?_
  refine qab ?_
  refine qac ?_
  refine qbn ?_
  refine qah ?_
  apply LJ_or (G := [_, _, _]) (j := 3) (cj := 69) rfl rfl (by rfl) rfl (show _ = Value.bool _ from rfl) rfl
  ·
   intro hg4
   replace hg4 := qb hg4
   refine qab ?_
   refine qac ?_
   refine qbn ?_
   exact qai
  intro junk4
  refine qaf ?_
  refine q_c (fun hc2 => ?_) (fun hc2 => ?_)
  ·
   refine qay ?_
   refine qab ?_
   refine qac ?_
   refine LJ_q (yv_max2 rfl rfl) rfl ?_
   refine qab ?_
   refine qac ?_
   refine LJ_q (yv_max2 rfl rfl) rfl ?_
   refine qab ?_
   refine qcn ?_
   refine qab ?_
   refine qcn ?_
   refine qam ?_
   refine qbe ?_
   refine qak ?_
   refine qa0 ?_
   refine q_r (L' := L) (R' := R) (res1 rfl (rv_cell (row := [_, _]) tb rfl rfl rfl (by repeat (first | exact zi0 | apply zi1 | apply zi2)) (by rfl) (by rfl))) ?_
   exact ⟨by rw [atS, if_neg hgo, if_neg (by simpa using hc1), if_pos (by omega)]; try rfl, rfl, rfl⟩
  refine qbv ?_
  refine qbe ?_
  refine qak ?_
  refine qa0 ?_
  refine q_r (L' := L) (R' := R) (res1 rfl (rv_cell (row := [_, _]) tb rfl rfl rfl (by repeat (first | exact zi0 | apply zi1 | apply zi2)) (by rfl) (by rfl))) ?_
  exact ⟨by rw [atS, if_neg hgo, if_neg (by simpa using hc1), if_neg (by omega)]; try rfl, rfl, rfl⟩

end Go.Proofs.Ytkpfjmibipblhaa
end
section
/-
  Statements about chapter 10: what they share. By an AI agent; no person has read it.
-/
set_option linter.unusedSimpArgs false
set_option linter.unusedVariables false
namespace Go.Proofs.Ytkpfjmibipblhaa
open Go.Aw Go
set_option maxRecDepth 20000
attribute [local irreducible] CJ LJ DJ Tri YV Gives seqK blockK loopK retK RV mergeK OwL.L

end Go.Proofs.Ytkpfjmibipblhaa
end
section
/-
  Statements about chapter 11: what they share. By an AI agent; no person has read it.
-/
set_option linter.unusedSimpArgs false
set_option linter.unusedVariables false
namespace Go.Proofs.Ytkpfjmibipblhaa
open Go.Aw Go
set_option maxRecDepth 20000
attribute [local irreducible] CJ LJ DJ Tri YV Gives seqK blockK loopK retK RV mergeK OwL.L

end Go.Proofs.Ytkpfjmibipblhaa
end
section
/-
  Statements about chapter 11: errors; bounds as arguments. By an AI agent; no person has read it.
-/
set_option linter.unusedSimpArgs false
set_option linter.unusedVariables false
namespace Go.Proofs.Ytkpfjmibipblhaa
open Go.Aw Go
set_option maxRecDepth 20000
attribute [local irreducible] CJ LJ DJ Tri YV Gives seqK blockK loopK retK RV mergeK OwL.L

theorem Tri.lendU {P : Program} {f : FuncId} {args : Array Value} {A : List Blk} {R S : List Sl} {u : Value}
    (hS : ∀ w, ∀ G : Nat → Prop, Holds (A ++ []) G R w → ∀ s ∈ S, Rep w (fun b => G b ∨ ∃ e ∈ A, e.b = b) s)
    (h : Tri P f args [] (S ++ R) (fun v L' R' => v = u ∧ [] = L' ∧ S ++ R = R')) : Tri P f args A R (fun v L' R' => v = u ∧ A = L' ∧ R = R') := by
  have h2 := Tri.lend (S := S) (Post := fun v L' => v = u ∧ [] = L') (Spl.rest (L := A)) hS (h.mono fun v L' R' ⟨a1, a2, a3⟩ => ⟨⟨a1, a2⟩, a3⟩)
  exact h2.mono fun v L'' R' ⟨L', e, ⟨a1, a2⟩, a3⟩ => ⟨a1, by rw [← a2, List.append_nil] at e; exact e, a3⟩
end Go.Proofs.Ytkpfjmibipblhaa
end
section
/-
  Flows and measurements: airflow.Narrow, airflow.Tighten. By an AI agent; no person has read it.
-/
set_option linter.unusedSimpArgs false
set_option linter.unusedVariables false
namespace Go.Proofs.Ytkpfjmibipblhaa
open Go.Aw Go
set_option maxRecDepth 20000
attribute [local irreducible] CJ LJ DJ Tri YV Gives seqK blockK loopK retK RV mergeK OwL.L

def narFor (n : Nat) (kind : Int) (l : List XSens) (x : XMeas) : Prop := (0 ≤ x.sensor ∧ x.sensor < l.length) ∧ (l.getD x.sensor.toNat default).kind = kind ∧ 0 ≤ (l.getD x.sensor.toNat default).target ∧ (l.getD x.sensor.toNat default).target < n
instance (n : Nat) (kind : Int) (l : List XSens) (x : XMeas) : Decidable (narFor n kind l x) := by unfold narFor; infer_instance
end Go.Proofs.Ytkpfjmibipblhaa
end
section
/-
  Sites: thresholds, rules, conditions, zones, what they are by the document. Plain. By an AI agent; no person has read it.
-/
set_option linter.unusedSimpArgs false
set_option linter.unusedVariables false
namespace Go.Proofs.Ytkpfjmibipblhaa
open Go.Aw Go

structure XNode where
  kind : Int
  cond : Int
  left : Int
  right : Int
  deriving Inhabited
def XNode.cells (x : XNode) : List Value := [.int .i64 x.kind, .int .i64 x.cond, .int .i64 x.left, .int .i64 x.right]
structure XLevel where
  cut : Int
  clear : Int
  delay : Int
  deriving Inhabited
def XLevel.cells (x : XLevel) : List Value := [.int .i64 x.cut, .int .i64 x.clear, .int .i64 x.delay]
abbrev XLevel.val (x : XLevel) : Value := .agg #[.int .i64 x.cut, .int .i64 x.clear, .int .i64 x.delay]
structure XCond where
  kind : Int
  target : Int
  value : Int
  level : XLevel
  deriving Inhabited
def XCond.cells (x : XCond) : List Value := [.int .i64 x.kind, .int .i64 x.target, .int .i64 x.value, .int .i64 x.level.cut, .int .i64 x.level.clear, .int .i64 x.level.delay]
abbrev XCond.val (x : XCond) : Value := .agg #[.int .i64 x.kind, .int .i64 x.target, .int .i64 x.value, .int .i64 x.level.cut, .int .i64 x.level.clear, .int .i64 x.level.delay]
structure XZone where
  rule : Arr XNode
  hold : Int
  roads : Arr Int
  fresh : Int
  deriving Inhabited
def XZone.cells (x : XZone) : List Value := [x.rule.val, .int .i64 x.hold, x.roads.val, .int .i64 x.fresh]
abbrev XZone.val (x : XZone) : Value := .agg #[x.rule.val, .int .i64 x.hold, x.roads.val, .int .i64 x.fresh]
structure XWatch where
  over : Bool
  since : Int
  last : Int
  deriving Inhabited, DecidableEq
def XWatch.cells (x : XWatch) : List Value := [.bool x.over, .int .i64 x.since, .int .i64 x.last]
abbrev XWatch.val (x : XWatch) : Value := .agg #[.bool x.over, .int .i64 x.since, .int .i64 x.last]
structure XCut where
  off : Bool
  clear : Int
  reason : Int
  deriving Inhabited, DecidableEq
def XCut.cells (x : XCut) : List Value := [.bool x.off, .int .i64 x.clear, .int .i64 x.reason]
structure XSite where
  air : XAir
  sensors : Arr XSens
  conds : Arr XCond
  zones : Arr XZone
  persons : Arr Int
def XSite.cells (x : XSite) : List Value := [x.air.mine.places.val, x.air.mine.roads.val, x.air.fans.val, x.air.doors.val, x.sensors.val, x.conds.val, x.zones.val, x.persons.val]
abbrev XSite.val (x : XSite) : Value := .agg #[x.air.mine.places.val, x.air.mine.roads.val, x.air.fans.val, x.air.doors.val, x.sensors.val, x.conds.val, x.zones.val, x.persons.val]
abbrev ndsl (x : Arr XNode) : Sl := x.sl 4 XNode.cells []
abbrev cnsl (x : Arr XCond) : Sl := x.sl 6 XCond.cells []
abbrev XZone.subs (z : XZone) : List Sl := [ndsl z.rule, isl z.roads]
abbrev zosl (x : Arr XZone) : Sl := x.sl 4 XZone.cells (x.l.flatMap XZone.subs)
abbrev wasl (x : Arr XWatch) : Sl := x.sl 3 XWatch.cells []
abbrev cusl (x : Arr XCut) : Sl := x.sl 3 XCut.cells []
theorem InR.rule {x : Arr XZone} {R : List Sl} (h : InR (zosl x) R) {i : Nat} {z : XZone} (hi : x.l[i]? = some z) : InR (ndsl z.rule) R :=
  h.sub (.deep (List.mem_flatMap.2 ⟨z, List.mem_of_getElem? hi, List.mem_cons_self⟩) .here)
theorem InR.zroads {x : Arr XZone} {R : List Sl} (h : InR (zosl x) R) {i : Nat} {z : XZone} (hi : x.l[i]? = some z) : InR (isl z.roads) R :=
  h.sub (.deep (List.mem_flatMap.2 ⟨z, List.mem_of_getElem? hi, List.mem_cons_of_mem _ List.mem_cons_self⟩) .here)
structure SiteR (s : XSite) (R : List Sl) : Prop where
  air : AirR s.air R
  sensors : InR (sesl s.sensors) R
  conds : InR (cnsl s.conds) R
  zones : InR (zosl s.zones) R
  persons : InR (isl s.persons) R
theorem SiteR.mono {s : XSite} {R R' : List Sl} (h : SiteR s R) (k : ∀ r ∈ R, InR r R') : SiteR s R' :=
  ⟨⟨h.air.places.mono k, h.air.roads.mono k, h.air.fans.mono k, h.air.doors.mono k⟩, h.sensors.mono k, h.conds.mono k, h.zones.mono k, h.persons.mono k⟩

def LevelOk (l : XLevel) : Prop := l.cut ≤ 1000000 ∧ 0 ≤ l.clear ∧ l.clear < l.cut ∧ 0 ≤ l.delay ∧ l.delay ≤ 100000
instance (l : XLevel) : Decidable (LevelOk l) := by unfold LevelOk; infer_instance
def levelErr (l : XLevel) : Int := if LevelOk l then 0 else 1
def aboveS (x : XSpan) (n : Int) : Int := if x.high < x.low then 0 else if n ≤ x.low then 1 else if x.high < n then -1 else 0
def WatchOk (w : XWatch) : Prop := 0 ≤ w.last ∧ -1 ≤ w.since ∧ w.since ≤ w.last ∧ (w.since = -1 ∨ w.over = true)
instance (w : XWatch) : Decidable (WatchOk w) := by unfold WatchOk; infer_instance
def stepTo (l : XLevel) (w : XWatch) (x : XSpan) (t : Int) : XWatch :=
  if aboveS x l.cut ≠ -1 then ⟨true, -1, t⟩
  else if w.over = false then ⟨false, w.since, t⟩
  else if l.clear < x.high then ⟨true, -1, t⟩
  else if l.delay ≤ t - (if w.since < 0 then t else w.since) then ⟨false, -1, t⟩
  else ⟨true, if w.since < 0 then t else w.since, t⟩
def stepErr (l : XLevel) (w : XWatch) (t : Int) : Int :=
  if ¬ LevelOk l then 1 else if t < 0 ∨ 2147483648 < t ∨ t < w.last then 8 else if ¬ WatchOk w then 10 else 0
def noWatch : XWatch := ⟨false, 0, 0⟩
def stepS (l : XLevel) (w : XWatch) (x : XSpan) (t : Int) : XWatch := if stepErr l w t = 0 then stepTo l w x t else noWatch

def partF (l : List XNode) : Nat → Int → Option (Int × Int)
  | 0, _ => none
  | n + 1, i =>
    if i < 0 then none
    else if (l.getD i.toNat default).kind = 1 then
      if (l.getD i.toNat default).left = 0 ∧ (l.getD i.toNat default).right = 0 ∧ 0 ≤ (l.getD i.toNat default).cond ∧ (l.getD i.toNat default).cond < 64 then some (i, 1) else none
    else if (l.getD i.toNat default).kind = 2 then
      match partF l n (i - 1) with
      | none => none
      | some (f, d) => if (l.getD i.toNat default).cond = 0 ∧ (l.getD i.toNat default).right = 0 ∧ (l.getD i.toNat default).left = i - 1 then some (f, d + 1) else none
    else if (l.getD i.toNat default).kind = 3 ∨ (l.getD i.toNat default).kind = 4 then
      match partF l n (i - 1) with
      | none => none
      | some (m, r) => if (l.getD i.toNat default).cond = 0 ∧ (l.getD i.toNat default).right = i - 1 ∧ (l.getD i.toNat default).left = m - 1 then
          match partF l n (m - 1) with
          | none => none
          | some (f, q) => some (f, max q r + 1) else none
    else none
def rightR (l : List XNode) : Bool :=
  decide (1 ≤ l.length ∧ l.length ≤ 64) && (match partF l l.length ((l.length : Int) - 1) with
    | none => false
    | some (f, d) => decide (f = 0 ∧ d ≤ 16))
def ruleErr (l : List XNode) (n : Nat) : Int := if rightR l = false then 18 else if ∃ x ∈ l, x.kind = 1 ∧ (n : Int) ≤ x.cond then 1 else 0
def condV (vals : List Int) (c : Int) : Int := if c < vals.length ∧ -1 ≤ vals.getD c.toNat 0 ∧ vals.getD c.toNat 0 ≤ 1 then vals.getD c.toNat 0 else 0
def nodeV (vals v : List Int) (x : XNode) : Int :=
  if x.kind = 1 then condV vals x.cond else if x.kind = 2 then -(v.getD x.left.toNat 0)
  else if x.kind = 3 then min (v.getD x.left.toNat 0) (v.getD x.right.toNat 0) else max (v.getD x.left.toNat 0) (v.getD x.right.toNat 0)
def evalTo (l : List XNode) (vals : List Int) : Nat → List Int
  | 0 => []
  | k + 1 => evalTo l vals k ++ [nodeV vals (evalTo l vals k) (l.getD k default)]
def evalS (l : List XNode) (vals : List Int) : Int := if rightR l = true then (evalTo l vals l.length).getD (l.length - 1) 0 else 0

def sensOf (a : XAir) (s : XSens) : Int := if s.kind = 5 then (a.fans.l.length : Int) else if s.kind = 6 then (a.doors.l.length : Int) else (a.mine.roads.l.length : Int)
def sensAt (a : XAir) (S : List XSens) (i : Nat) : Option Int :=
  if sensErr (S.getD i default) ≠ 0 then some (sensErr (S.getD i default))
  else if ¬ (0 ≤ (S.getD i default).target ∧ (S.getD i default).target < sensOf a (S.getD i default)) then some 9
  else if ∃ k : Nat, k < i ∧ (S.getD k default).address = (S.getD i default).address then some 9 else none
def sensorsErr (a : XAir) (S : List XSens) : Int := ((List.range S.length).findSome? (sensAt a S)).getD 0
def condBase (S : List XSens) (n : Nat) (c : XCond) : Int :=
  if c.kind = 1 ∨ c.kind = 2 ∨ c.kind = 4 then if 0 ≤ c.target ∧ c.target < S.length then 0 else 9
  else if c.kind = 3 then if (0 ≤ c.target ∧ c.target < S.length) ∧ (S.getD c.target.toNat default).kind = 5 then 0 else 9
  else if c.kind = 5 then if 0 ≤ c.target ∧ c.target < n then 0 else 4
  else 5
def condErr (S : List XSens) (n : Nat) (c : XCond) : Int :=
  if condBase S n c ≠ 0 then condBase S n c else if c.value < 0 ∨ 1099511627776 < c.value then 1 else if c.kind = 1 then levelErr c.level else 0
def roadBad (n : Nat) (l : List Int) (i : Nat) : Prop := ¬ (0 ≤ l.getD i 0 ∧ l.getD i 0 < n) ∨ (0 < i ∧ l.getD i 0 ≤ l.getD (i - 1) 0)
instance (n : Nat) (l : List Int) (i : Nat) : Decidable (roadBad n l i) := by unfold roadBad; infer_instance
def zoneErr (conds n : Nat) (z : XZone) : Int :=
  if ruleErr z.rule.l conds ≠ 0 then ruleErr z.rule.l conds else if z.hold < 0 ∨ 100000 < z.hold ∨ z.fresh < 0 ∨ 100 < z.fresh then 1
  else if ∃ i : Nat, i < z.roads.l.length ∧ roadBad n z.roads.l i then 4 else 0
def nzO (e : Int) : Option Int := if e = 0 then none else some e
def condsErr (s : XSite) : Int := (s.conds.l.findSome? fun c => nzO (condErr s.sensors.l s.air.mine.roads.l.length c)).getD 0
def zonesErr (s : XSite) : Int := (s.zones.l.findSome? fun z => nzO (zoneErr s.conds.l.length s.air.mine.roads.l.length z)).getD 0
def personsErr (s : XSite) : Int := (s.persons.l.findSome? fun p => if p < 1 ∨ 3 < p then some 19 else none).getD 0
def siteErr (s : XSite) : Int :=
  if airErr s.air ≠ 0 then airErr s.air
  else if 64 < s.sensors.l.length ∨ 64 < s.conds.l.length ∨ 16 < s.zones.l.length ∨ 64 < s.persons.l.length then 2
  else if sensorsErr s.air s.sensors.l ≠ 0 then sensorsErr s.air s.sensors.l
  else if condsErr s ≠ 0 then condsErr s
  else if zonesErr s ≠ 0 then zonesErr s
  else personsErr s

def knownS (S : List XSens) (m : List XMeas) (n t : Int) : XSpan :=
  if (0 ≤ n ∧ n < S.length) ∧ n < m.length ∧ (m.getD n.toNat default).sensor = n then atS (S.getD n.toNat default) (m.getD n.toNat default) t else nothingS
def stoppedS (x : XSpan) : Int := if x.high < x.low then 0 else if x.low = 1 ∧ x.high = 1 then -1 else if 1 < x.low ∨ x.high < 1 then 1 else 0
def valueE (c : XCond) (w : XWatch) (t : Int) : Int := if c.kind = 1 then stepErr c.level w t else 0
def valueV (S : List XSens) (m : List XMeas) (fl : List XSpan) (c : XCond) (w : XWatch) (t : Int) : Int :=
  if c.kind = 5 then -(fedAt fl ⟨c.target, c.value⟩)
  else if c.kind = 2 then -(aboveS (knownS S m c.target t) c.value)
  else if c.kind = 3 then stoppedS (knownS S m c.target t)
  else if c.kind = 4 then if knownS S m c.target t = nothingS then 1 else -1
  else if (stepTo c.level w (knownS S m c.target t) t).over = false then -1
  else if aboveS (knownS S m c.target t) c.level.cut = 1 then 1 else 0
def valueW (S : List XSens) (m : List XMeas) (c : XCond) (w : XWatch) (t : Int) : XWatch := if c.kind = 1 then stepTo c.level w (knownS S m c.target t) t else w
def valuesErr (s : XSite) (m : List XMeas) (w : List XWatch) (fl : List XSpan) (t : Int) : Int :=
  if siteErr s ≠ 0 then siteErr s
  else if ¬ (m.length = s.sensors.l.length ∧ w.length = s.conds.l.length ∧ fl.length = s.air.mine.roads.l.length) then 11
  else if t < 0 ∨ 2147483648 < t then 8
  else ((List.range w.length).findSome? fun i => nzO (valueE (s.conds.l.getD i default) (w.getD i default) t)).getD 0
def valuesV (s : XSite) (m : List XMeas) (w : List XWatch) (fl : List XSpan) (t : Int) : List Int :=
  if valuesErr s m w fl t ≠ 0 then [] else (List.range w.length).map fun i => valueV s.sensors.l m fl (s.conds.l.getD i default) (w.getD i default) t
def valuesW (s : XSite) (m : List XMeas) (w : List XWatch) (fl : List XSpan) (t : Int) : List XWatch :=
  if valuesErr s m w fl t ≠ 0 then [] else (List.range w.length).map fun i => valueW s.sensors.l m (s.conds.l.getD i default) (w.getD i default) t

def cutsErr (s : XSite) (v : List Int) (c : List XCut) (t : Int) : Int :=
  if siteErr s ≠ 0 then siteErr s else if ¬ (v.length = s.conds.l.length ∧ c.length = s.zones.l.length) then 11 else if t < 0 ∨ 2147483648 < t then 8 else 0
def cutV (v : Int) (c : XCut) (t : Int) : XCut :=
  if v = -1 then if c.clear = -1 then ⟨c.off, t, c.reason⟩ else c else if c.off = true then ⟨true, -1, c.reason⟩ else ⟨true, -1, v⟩
def cutAt (s : XSite) (v : List Int) (c : List XCut) (t : Int) (i : Nat) : XCut := cutV (evalS (s.zones.l.getD i default).rule.l v) (c.getD i default) t
def nowTo (s : XSite) (v : List Int) (c : List XCut) : Nat → List Int
  | 0 => []
  | k + 1 => if evalS (s.zones.l.getD k default).rule.l v ≠ -1 ∧ (c.getD k default).off = false then nowTo s v c k ++ [(k : Int)] else nowTo s v c k
def cutsC (s : XSite) (v : List Int) (c : List XCut) (t : Int) : List XCut := if cutsErr s v c t ≠ 0 then [] else (List.range c.length).map (cutAt s v c t)
def cutsN (s : XSite) (v : List Int) (c : List XCut) (t : Int) : List Int := if cutsErr s v c t ≠ 0 then [] else nowTo s v c c.length
end Go.Proofs.Ytkpfjmibipblhaa
end
