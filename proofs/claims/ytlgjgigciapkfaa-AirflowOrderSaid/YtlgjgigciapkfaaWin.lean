/-
  What measurements say later: sensor.Check, window.At, window.Meet. By an AI agent; no person has read it.
-/
import Derived.Test.YtlgjgigciapkfaaFed
set_option linter.unusedSimpArgs false
set_option linter.unusedVariables false
namespace Go.Proofs.Ytlgjgigciapkfaa
open Go.Aw Go
set_option maxRecDepth 20000
attribute [local irreducible] CJ LJ DJ Tri YV Gives seqK blockK loopK retK RV mergeK OwL.L

structure XSens where
  address : Int
  kind : Int
  target : Int
  offset : Int
  scale : Int
  error : Int
  drift : Int
  life : Int
  deriving Inhabited
def XSens.cells (s : XSens) : List Value := [.int .i64 s.address, .int .i64 s.kind, .int .i64 s.target, .int .i64 s.offset, .int .i64 s.scale, .int .i64 s.error, .int .i64 s.drift, .int .i64 s.life]
abbrev XSens.val (s : XSens) : Value := .agg #[.int .i64 s.address, .int .i64 s.kind, .int .i64 s.target, .int .i64 s.offset, .int .i64 s.scale, .int .i64 s.error, .int .i64 s.drift, .int .i64 s.life]
structure XMeas where
  sensor : Int
  time : Int
  span : XSpan
  deriving Inhabited
def XMeas.cells (m : XMeas) : List Value := [.int .i64 m.sensor, .int .i64 m.time, .int .i64 m.span.low, .int .i64 m.span.high]
abbrev XMeas.val (m : XMeas) : Value := .agg #[.int .i64 m.sensor, .int .i64 m.time, .int .i64 m.span.low, .int .i64 m.span.high]
abbrev sesl (x : Arr XSens) : Sl := x.sl 8 XSens.cells []
abbrev mesl (x : Arr XMeas) : Sl := x.sl 4 XMeas.cells []

theorem sensIn_tri (lo hi : Int) (x : Arr Int) (L : List Blk) (R : List Sl) (hx : InR (isl x) R) (hn : x.l.length ≤ 100) :
    Tri Try.prog 156 [.int .i64 lo, .int .i64 hi, x.val].toArray L R (fun v L' R' => v = .bool (decide (∀ n ∈ x.l, lo ≤ n ∧ n ≤ hi)) ∧ L = L' ∧ R = R') := by
  refine tri_enter 24 Try.call156 Try.func156 rfl rfl rfl ?_
  refine qae ?_
  refine qaz ?_
  refine qaw ?_
  refine qbm ?_
  refine qag ?_
  refine qaa ?_
  refine qa2 ?_
  refine CJ_forget [(0, Value.int _ _), (1, Value.int _ _), (9, Value.slice _ _ _), (10, Value.int _ _), (11, Value.int _ _)] (by repeat' (first | exact trivial | refine And.intro rfl ?_)) fun tq0 => ?_
  refine q_s [6, 8, 11, 12, 13, 14, 15, 16, 17, 18, 19, 20, 21, 22, 23] (fun g : {k : Nat // k ≤ x.l.length ∧ ∀ n ∈ x.l.take k, lo ≤ n ∧ n ≤ hi} => [(11, .int .i64 ((g.1 : Nat) : Int))]) (fun g => x.l.length - g.1) (⟨0, by omega, by simp⟩) ?_
  rintro ⟨k, hk, hal⟩ junk
  try dsimp only
  refine qae ?_
  refine qaj ?_
  refine qa4 ?_
  refine q_c (fun hc0 => ?_) (fun hc0 => ?_)
  ·
   have h1 := get_D (l := x.l) (k := k) 0 (by omega)
   refine qbb ?_
   refine LJ_q (by first | exact yv_index_ro tb rfl rfl rfl rfl (by first | assumption | exact zr (by simp)) (i := k) (by first | rfl | omega | (simp; omega)) (by omega) | exact yv_index tb rfl rfl rfl rfl (i := k) (by first | rfl | omega | (simp; omega)) (by omega)) rfl ?_
   refine qa7 ?_
   refine qad ?_
   refine qam ?_
   refine qaa ?_
   refine qaa ?_
   refine qaj ?_
   refine qah ?_
   apply LJ_or (G := [_, _, _]) (j := 3) (cj := 18) rfl rfl (by rfl) rfl (show _ = Value.bool _ from rfl) rfl
   ·
    intro hg4
    replace hg4 := qb hg4
    refine qaa ?_
    refine qaa ?_
    refine qa5 ?_
    exact qai
   intro junk4
   refine qaf ?_
   refine q_c (fun hc1 => ?_) (fun hc1 => ?_)
   ·
    refine qae ?_
    refine qaz ?_
    refine qbt ?_
    refine q_b (L' := L) (R' := R) ?_
    exact ⟨by rw [decide_eq_false (fun h => by have := h _ (List.mem_of_getElem? h1); omega)], rfl, rfl⟩
   ·
    refine qbj ?_
    refine qar ?_
    refine qaa ?_
    refine qav ?_
    exact loopK_mk (⟨k + 1, by omega, fun n hn => by
    rw [List.take_add_one, h1] at hn
    simp only [Option.toList_some, List.mem_append, List.mem_singleton] at hn
    rcases hn with h | h
    · exact hal n h
    · omega⟩) (by repeat (first | exact Off.refl | apply Off.upd rfl | apply Off.havoc rfl | apply Off.updL rfl | apply Off.left rfl)) (by repeat' (first | exact trivial | refine And.intro rfl ?_)) (by repeat (first | exact zs0 _ | exact zs1 _ | apply zs2 | apply zs3 | apply zs4 | apply zs5)) (allR_self _) (by dsimp only; omega)
  ·
   refine qbk ?_
   refine qaz ?_
   refine qa0 ?_
   refine q_b (L' := L) (R' := R) ?_
   exact ⟨by rw [decide_eq_true (fun n hn => by rw [List.take_of_length_le (by omega)] at hal; exact hal n hn)], rfl, rfl⟩

/-- P5.1 -/
def SensOk (s : XSens) : Prop := (0 ≤ s.address ∧ s.address ≤ 255) ∧ 0 ≤ s.target ∧ (-1000000 ≤ s.offset ∧ s.offset ≤ 1000000) ∧ (-1000000 ≤ s.scale ∧ s.scale ≤ 1000000) ∧ (0 ≤ s.error ∧ s.error ≤ 1000000) ∧ (0 ≤ s.drift ∧ s.drift ≤ 1000000) ∧ (1 ≤ s.life ∧ s.life ≤ 1000000)
instance (s : XSens) : Decidable (SensOk s) := by unfold SensOk; infer_instance
def sensErr (s : XSens) : Int := if ¬ (1 ≤ s.kind ∧ s.kind ≤ 6) then 5 else if SensOk s then 0 else 1
theorem sensCheck_tri (s : XSens) (L : List Blk) (R : List Sl) :
    Tri Try.prog 110 [s.val].toArray L R (fun v L' R' => v = .int .i64 (sensErr s) ∧ L = L' ∧ R = R') := by
  refine tri_enter 44 Try.call110 Try.func110 rfl rfl rfl ?_
  refine qae ?_
  refine qax ?_
  intro b1
  refine qad ?_
  refine LJ_nil (seqK_normal (CJ_seq (CJ_block (CJ_seq (CJ_region ?_)))))
  refine qab ?_
  refine qac ?_
  refine qcx ?_
  rintro v L' R' ⟨b6, rfl, rfl, hR6⟩
  replace hR6 := hR6.symm; subst hR6
  refine LJ_frz (wd := 1) (len := 1) (cap := 1) (rows := [icell s.kind]) (subs := []) rfl (by decide) (by decide) (fun r hr => by rw [List.mem_singleton.1 hr]; rfl) (by decide) rfl (fun s hs => by cases hs) ?_
  refine q_l rfl (sensIn_tri 1 6 ⟨some ⟨b6, 0, none⟩, 1, [s.kind]⟩ _ _ (inR_self (.head _)) (by simp)) ?_
  refine qb4 ?_
  refine qaz ?_
  refine qaf ?_
  refine q_c (fun hc0 => ?_) (fun hc0 => ?_)
  ·
   refine qae ?_
   refine qad ?_
   refine qdb ?_
   refine retK_ret (L' := L) (R' := R) (res1 rfl (rv_tmp (show _ = Value.int _ _ from rfl))) ?hp ?hL ?hR
   case hp => exact ⟨by simp at hc0; rw [sensErr, if_pos (by omega)], rfl, rfl⟩
   case hL => exact (by repeat (first | exact zs0 _ | exact zs1 _ | apply zs2 | apply zs3 | apply zs4 | apply zs5))
   case hR => exact fun r h => inR_self (by simp [h])
  ·
   refine qae ?_
   refine qab ?_
   refine qac ?_
   refine qcx ?_
   rintro v L' R' ⟨b12, rfl, rfl, hR12⟩
   replace hR12 := hR12.symm; subst hR12
   refine LJ_frz (wd := 1) (len := 1) (cap := 1) (rows := [icell s.address]) (subs := []) rfl (by decide) (by decide) (fun r hr => by rw [List.mem_singleton.1 hr]; rfl) (by decide) rfl (fun s hs => by cases hs) ?_
   refine q_l rfl (sensIn_tri 0 255 ⟨some ⟨b12, 0, none⟩, 1, [s.address]⟩ _ _ (inR_self (.head _)) (by simp)) ?_
   refine qb4 ?_
   refine qah ?_
   refine LJ_case (k := 15) (show _ = Value.bool _ from rfl) (fun hg6 => ?_) (fun hg6 => ?_)
   ·
    replace hg6 := qb hg6
    refine LJ_skg rfl rfl ?_
    refine LJ_skg rfl rfl ?_
    refine LJ_skg rfl rfl ?_
    refine LJ_q (by first | exact yv_pick_true rfl rfl | exact yv_pick_false rfl rfl | exact yv_pick rfl) rfl ?_
    refine qah ?_
    ·
     skip
     refine LJ_skg rfl rfl ?_
     refine LJ_skg rfl rfl ?_
     refine LJ_skg rfl rfl ?_
     refine LJ_skg rfl rfl ?_
     refine LJ_skg rfl rfl ?_
     refine LJ_skg rfl rfl ?_
     refine LJ_skg rfl rfl ?_
     refine LJ_q (by first | exact yv_pick_true rfl rfl | exact yv_pick_false rfl rfl | exact yv_pick rfl) rfl ?_
     refine qaz ?_
     refine qaf ?_
     refine CJ_cond_true rfl ?_
     refine qae ?_
     refine qad ?_
     refine qdb ?_
     refine retK_ret (L' := L) (R' := R) (res1 rfl (rv_tmp (show _ = Value.int _ _ from rfl))) ?hp ?hL ?hR
     case hp => exact ⟨by rw [sensErr, if_neg (by simp at hc0; omega), if_neg (by first | (simp at hc1; rw [SensOk]; omega) | (simp at hg6; rw [SensOk]; omega))], rfl, rfl⟩
     case hL => exact (by repeat (first | exact zs0 _ | exact zs1 _ | apply zs2 | apply zs3 | apply zs4 | apply zs5))
     case hR => exact fun r h => inR_self (by simp [h])
   ·
    replace hg6 := qb hg6
    refine LJ_qg (yv_field tb rfl rfl rfl) rfl rfl ?_
    refine LJ_qg (yv_load1 tb rfl rfl rfl (by repeat (first | exact zi0 | apply zi1 | apply zi2)) (by rfl)) rfl rfl ?_
    refine LJ_qg (yv_lss rfl rfl) rfl rfl ?_
    refine LJ_q (by first | exact yv_pick_true rfl rfl | exact yv_pick_false rfl rfl | exact yv_pick rfl) rfl ?_
    refine qah ?_
    refine LJ_case (k := 20) (show _ = Value.bool _ from rfl) (fun hg11 => ?_) (fun hg11 => ?_)
    ·
     replace hg11 := qb hg11
     refine LJ_skg rfl rfl ?_
     refine LJ_skg rfl rfl ?_
     refine LJ_skg rfl rfl ?_
     refine LJ_skg rfl rfl ?_
     refine LJ_skg rfl rfl ?_
     refine LJ_skg rfl rfl ?_
     refine LJ_skg rfl rfl ?_
     refine LJ_q (by first | exact yv_pick_true rfl rfl | exact yv_pick_false rfl rfl | exact yv_pick rfl) rfl ?_
     refine qaz ?_
     refine qaf ?_
     refine CJ_cond_true rfl ?_
     refine qae ?_
     refine qad ?_
     refine qdb ?_
     refine retK_ret (L' := L) (R' := R) (res1 rfl (rv_tmp (show _ = Value.int _ _ from rfl))) ?hp ?hL ?hR
     case hp => exact ⟨by rw [sensErr, if_neg (by simp at hc0; omega), if_neg (by first | (simp at hc1; rw [SensOk]; omega) | (simp at hg6; rw [SensOk]; omega))], rfl, rfl⟩
     case hL => exact (by repeat (first | exact zs0 _ | exact zs1 _ | apply zs2 | apply zs3 | apply zs4 | apply zs5))
     case hR => exact fun r h => inR_self (by simp [h])
    ·
     replace hg11 := qb hg11
     refine LJ_qg (yv_field tb rfl rfl rfl) rfl rfl ?_
     refine LJ_qg (yv_load1 tb rfl rfl rfl (by repeat (first | exact zi0 | apply zi1 | apply zi2)) (by rfl)) rfl rfl ?_
     refine LJ_qg (yv_field tb rfl rfl rfl) rfl rfl ?_
     refine LJ_qg (yv_load1 tb rfl rfl rfl (by repeat (first | exact zi0 | apply zi1 | apply zi2)) (by rfl)) rfl rfl ?_
     refine LJ_gg (gives_buildSlice (qs := [(0, (Value.int _ _).cells.toList), (1, (Value.int _ _).cells.toList)]) (out := [_, _]) tb rfl rfl rfl rfl rfl rfl rfl) rfl rfl ?_
     rintro v L' R' ⟨b25, rfl, rfl, hR25⟩
     replace hR25 := hR25.symm; subst hR25
     refine LJ_frz (wd := 1) (len := 2) (cap := 2) (rows := [icell s.offset, icell s.scale]) (subs := []) rfl (by decide) (by decide) (fun r hr => by simp only [List.mem_cons, List.not_mem_nil, or_false] at hr; rcases hr with rfl | rfl <;> rfl) (by decide) rfl (fun s hs => by cases hs) ?_
     refine LJ_callg rfl (sensIn_tri (-1000000) 1000000 ⟨some ⟨b25, 0, none⟩, 2, [s.offset, s.scale]⟩ _ _ (inR_self (.head _)) (by simp)) rfl rfl ?_
     rintro v L' R' ⟨rfl, rfl, rfl⟩
     refine LJ_qg (yv_not rfl) rfl rfl ?_
     refine LJ_q (by first | exact yv_pick_true rfl rfl | exact yv_pick_false rfl rfl | exact yv_pick rfl) rfl ?_
     refine qaz ?_
     refine qaf ?_
     refine q_c (fun hc1 => ?_) (fun hc1 => ?_)
     ·
      refine qae ?_
      refine qad ?_
      refine qdb ?_
      refine retK_ret (L' := L) (R' := R) (res1 rfl (rv_tmp (show _ = Value.int _ _ from rfl))) ?hp ?hL ?hR
      case hp => exact ⟨by rw [sensErr, if_neg (by simp at hc0; omega), if_neg (by first | (simp at hc1; rw [SensOk]; omega) | (simp at hg6; rw [SensOk]; omega))], rfl, rfl⟩
      case hL => exact (by repeat (first | exact zs0 _ | exact zs1 _ | apply zs2 | apply zs3 | apply zs4 | apply zs5))
      case hR => exact fun r h => inR_self (by simp [h])
     ·
      refine qae ?_
      refine qab ?_
      refine qac ?_
      refine qab ?_
      refine qac ?_
      refine LJ_g (gives_buildSlice (qs := [(0, (Value.int _ _).cells.toList), (1, (Value.int _ _).cells.toList)]) (out := [_, _]) tb rfl rfl rfl rfl rfl rfl rfl) rfl ?_
      rintro v L' R' ⟨b34, rfl, rfl, hR34⟩
      replace hR34 := hR34.symm; subst hR34
      refine LJ_frz (wd := 1) (len := 2) (cap := 2) (rows := [icell s.error, icell s.drift]) (subs := []) rfl (by decide) (by decide) (fun r hr => by simp only [List.mem_cons, List.not_mem_nil, or_false] at hr; rcases hr with rfl | rfl <;> rfl) (by decide) rfl (fun s hs => by cases hs) ?_
      refine q_l rfl (sensIn_tri 0 1000000 ⟨some ⟨b34, 0, none⟩, 2, [s.error, s.drift]⟩ _ _ (inR_self (.head _)) (by simp)) ?_
      refine qb4 ?_
      refine qah ?_
      refine LJ_case (k := 37) (show _ = Value.bool _ from rfl) (fun hg8 => ?_) (fun hg8 => ?_)
      ·
       replace hg8 := qb hg8
       refine LJ_skg rfl rfl ?_
       refine LJ_skg rfl rfl ?_
       refine LJ_skg rfl rfl ?_
       refine LJ_skg rfl rfl ?_
       refine LJ_skg rfl rfl ?_
       refine LJ_q (by first | exact yv_pick_true rfl rfl | exact yv_pick_false rfl rfl | exact yv_pick rfl) rfl ?_
       refine qaz ?_
       refine qaf ?_
       refine CJ_cond_true rfl ?_
       refine qae ?_
       refine qad ?_
       refine qdb ?_
       refine retK_ret (L' := L) (R' := R) (res1 rfl (rv_tmp (show _ = Value.int _ _ from rfl))) ?hp ?hL ?hR
       case hp => exact ⟨by rw [sensErr, if_neg (by simp at hc0; omega), if_neg (by first | (simp at hc2; rw [SensOk]; omega) | (simp at hg8; rw [SensOk]; omega))], rfl, rfl⟩
       case hL => exact (by repeat (first | exact zs0 _ | exact zs1 _ | apply zs2 | apply zs3 | apply zs4 | apply zs5))
       case hR => exact fun r h => inR_self (by simp [h])
      ·
       replace hg8 := qb hg8
       refine LJ_qg (yv_field tb rfl rfl rfl) rfl rfl ?_
       refine LJ_qg (yv_load1 tb rfl rfl rfl (by repeat (first | exact zi0 | apply zi1 | apply zi2)) (by rfl)) rfl rfl ?_
       refine LJ_gg (gives_buildSlice (qs := [(0, (Value.int _ _).cells.toList)]) (out := [_]) tb rfl rfl rfl rfl rfl rfl rfl) rfl rfl ?_
       rintro v L' R' ⟨b40, rfl, rfl, hR40⟩
       replace hR40 := hR40.symm; subst hR40
       refine LJ_frz (wd := 1) (len := 1) (cap := 1) (rows := [icell s.life]) (subs := []) rfl (by decide) (by decide) (fun r hr => by rw [List.mem_singleton.1 hr]; rfl) (by decide) rfl (fun s hs => by cases hs) ?_
       refine LJ_callg rfl (sensIn_tri 1 1000000 ⟨some ⟨b40, 0, none⟩, 1, [s.life]⟩ _ _ (inR_self (.head _)) (by simp)) rfl rfl ?_
       rintro v L' R' ⟨rfl, rfl, rfl⟩
       refine LJ_qg (yv_not rfl) rfl rfl ?_
       refine LJ_q (by first | exact yv_pick_true rfl rfl | exact yv_pick_false rfl rfl | exact yv_pick rfl) rfl ?_
       refine qaz ?_
       refine qaf ?_
       refine q_c (fun hc2 => ?_) (fun hc2 => ?_)
       ·
        refine qae ?_
        refine qad ?_
        refine qdb ?_
        refine retK_ret (L' := L) (R' := R) (res1 rfl (rv_tmp (show _ = Value.int _ _ from rfl))) ?hp ?hL ?hR
        case hp => exact ⟨by rw [sensErr, if_neg (by simp at hc0; omega), if_neg (by first | (simp at hc2; rw [SensOk]; omega) | (simp at hg8; rw [SensOk]; omega))], rfl, rfl⟩
        case hL => exact (by repeat (first | exact zs0 _ | exact zs1 _ | apply zs2 | apply zs3 | apply zs4 | apply zs5))
        case hR => exact fun r h => inR_self (by simp [h])
       ·
        refine CJ_skip (blockK_normal (seqK_normal (CJ_seq (CJ_region ?_))))
        refine qad ?_
        refine qa0 ?_
        refine retK_ret (L' := L) (R' := R) (res1 rfl (rv_tmp (show _ = Value.int _ _ from rfl))) ?hp ?hL ?hR
        case hp => exact ⟨by simp at hc0 hg6 hc1 hg8 hc2; rw [sensErr, if_neg (by omega), if_pos (by rw [SensOk]; omega)], rfl, rfl⟩
        case hL => exact (by repeat (first | exact zs0 _ | exact zs1 _ | apply zs2 | apply zs3 | apply zs4 | apply zs5))
        case hR => exact fun r h => inR_self (by simp [h])

theorem plain_tri (k : Int) (L : List Blk) (R : List Sl) :
    Tri Try.prog 123 [.int .i64 k].toArray L R (fun v L' R' => v = .bool (decide (k = 4 ∨ k = 5 ∨ k = 6)) ∧ L = L' ∧ R = R') := by
  refine tri_enter 13 Try.call123 Try.func123 rfl rfl rfl ?_
  refine qae ?_
  refine qaz ?_
  refine qam ?_
  refine qaa ?_
  refine qbn ?_
  refine qah ?_
  apply LJ_or (G := [_, _]) (j := 2) (cj := 5) rfl rfl (by rfl) rfl (show _ = Value.bool _ from rfl) rfl
  ·
   intro hg3
   replace hg3 := qb hg3
   refine qaa ?_
   refine qbn ?_
   exact qai
  intro junk3
  refine qah ?_
  apply LJ_or (G := [_, _]) (j := 6) (cj := 9) rfl rfl (by rfl) rfl (show _ = Value.bool _ from rfl) rfl
  ·
   intro hg7
   replace hg7 := qb hg7
   refine qaa ?_
   refine qbn ?_
   exact qai
  intro junk7
  refine qaz ?_
  refine qa0 ?_
  refine q_b (L' := L) (R' := R) ?_
  exact ⟨by refine congrArg Value.bool ?_; rw [Bool.eq_iff_iff]; simp; omega, rfl, rfl⟩

/-- P6.1: how much a measurement has drifted -/
def moreS (s : XSens) (m : XMeas) (t : Int) : Int := (s.drift * (t - m.time) + 999).tdiv 1000
def goneS (s : XSens) (m : XMeas) (t : Int) : Prop := sensErr s ≠ 0 ∨ m.sensor < 0 ∨ m.span = nothingS ∨ t < m.time ∨ s.life < t - m.time
instance (s : XSens) (m : XMeas) (t : Int) : Decidable (goneS s m t) := by unfold goneS; infer_instance
def wideS (s : XSens) (m : XMeas) (t : Int) : XSpan := ⟨m.span.low - moreS s m t, m.span.high + moreS s m t⟩
def atS (s : XSens) (m : XMeas) (t : Int) : XSpan :=
  if goneS s m t then nothingS else if s.kind = 4 ∨ s.kind = 5 ∨ s.kind = 6 then m.span
  else if s.kind = 1 ∨ s.kind = 2 then ⟨max (wideS s m t).low 0, max (wideS s m t).high 0⟩ else wideS s m t
def MeasOk (m : XMeas) : Prop := (0 ≤ m.time ∧ m.time ≤ 2147483648) ∧ (-2199023255552 ≤ m.span.low ∧ m.span.low ≤ 2199023255552) ∧ (-2199023255552 ≤ m.span.high ∧ m.span.high ≤ 2199023255552)
theorem more_bounds {s : XSens} {m : XMeas} {t : Int} (h : ¬ goneS s m t) : (0 ≤ s.drift * (t - m.time) ∧ s.drift * (t - m.time) ≤ 1000000000000) ∧ 0 ≤ moreS s m t ∧ moreS s m t ≤ 1000000001 := by
  rw [goneS] at h
  have he : sensErr s = 0 := by omega
  rw [sensErr] at he
  split at he
  · omega
  split at he
  · rename_i hs
    rw [SensOk] at hs
    have h1 : 0 ≤ t - m.time ∧ t - m.time ≤ 1000000 := by omega
    have h2 : 0 ≤ s.drift ∧ s.drift ≤ 1000000 := by omega
    have h3 : 0 ≤ s.drift * (t - m.time) := Int.mul_nonneg h2.1 h1.1
    have h4 : s.drift * (t - m.time) ≤ 1000000 * 1000000 := Int.mul_le_mul h2.2 h1.2 h1.1 (by decide)
    refine ⟨⟨h3, by omega⟩, ?_⟩
    rw [moreS, Int.tdiv_eq_ediv_of_nonneg (by omega)]
    omega
  · omega
theorem span_eq {a b : XSpan} : a = b ↔ a.low = b.low ∧ a.high = b.high := by
  cases a; cases b; simp
theorem at_tri (s : XSens) (m : XMeas) (t : Int) (L : List Blk) (R : List Sl) (hm : MeasOk m) (ht : 0 ≤ t ∧ t ≤ 2147483648) :
    Tri Try.prog 76 [s.val, m.val, .int .i64 t].toArray L R (fun v L' R' => v = (atS s m t).val ∧ L = L' ∧ R = R') := by
  rw [MeasOk] at hm
  refine tri_enter 83 Try.call76 Try.func76 rfl rfl rfl ?_
  refine qae ?_
  refine qax ?_
  intro b3
  refine qax ?_
  intro b4
  refine qaq ?_
  intro b6
  refine qam ?_
  refine q_l rfl (sensNothing_tri _ _) ?_
  refine qaq ?_
  intro b7
  refine qak ?_
  refine qaw ?_
  refine LJ_q (yv_loadN (row := [_, _, _, _, _, _, _, _]) tb rfl rfl rfl (by repeat (first | exact zi0 | apply zi1 | apply zi2)) (by rfl) (by rfl)) rfl ?_
  refine q_l rfl (sensCheck_tri s _ _) ?_
  refine qbq ?_
  refine qah ?_
  apply LJ_or (G := [_, _, _]) (j := 3) (cj := 14) rfl rfl (by rfl) rfl (show _ = Value.bool _ from rfl) rfl
  ·
   intro hg4
   replace hg4 := qb hg4
   refine qab ?_
   refine qac ?_
   refine qaj ?_
   exact qai
  intro junk4
  refine qah ?_
  apply LJ_or (G := [_, _, _, _]) (j := 8) (cj := 19) rfl rfl (by rfl) rfl (show _ = Value.bool _ from rfl) rfl
  ·
   intro hg9
   replace hg9 := qb hg9
   refine qab ?_
   refine qbe ?_
   refine qbe ?_
   refine LJ_q (yv_eql_span spanEq rfl rfl) rfl ?_
   exact qai
  intro junk9
  refine qah ?_
  apply LJ_or (G := [_, _, _, _]) (j := 14) (cj := 25) rfl rfl (by rfl) rfl (show _ = Value.bool _ from rfl) rfl
  ·
   intro hg15
   replace hg15 := qb hg15
   refine qaa ?_
   refine qab ?_
   refine qac ?_
   refine qaj ?_
   exact qai
  intro junk15
  refine qah ?_
  apply LJ_or (G := [_, _, _, _, _, _, _]) (j := 20) (cj := 31) rfl rfl (by rfl) rfl (show _ = Value.bool _ from rfl) rfl
  ·
   intro hg21
   replace hg21 := qb hg21
   refine qaa ?_
   refine qab ?_
   refine qac ?_
   refine qa9 ?_
   refine qab ?_
   refine qac ?_
   refine qa5 ?_
   exact qai
  intro junk21
  refine qaf ?_
  refine q_c (fun hc0 => ?_) (fun hc0 => ?_)
  ·
   refine qae ?_
   refine qbe ?_
   refine qak ?_
   refine qbh ?_
   refine q_r (L' := L) (R' := R) (res1 rfl (rv_cell (row := [_, _]) tb rfl rfl rfl (by repeat (first | exact zi0 | apply zi1 | apply zi2)) (by rfl) (by rfl))) ?_
   have hgo : goneS s m t := by simp [nothingS] at hc0; rw [goneS, span_eq]; simp only [nothingS]; omega
   exact ⟨by rw [atS, if_pos hgo]; try rfl, rfl, rfl⟩
  ·
   have hgo : ¬ goneS s m t := by simp [nothingS] at hc0; rw [goneS, span_eq]; simp only [nothingS]; omega
   obtain ⟨hb1, hb2⟩ := more_bounds hgo
   rw [moreS] at hb2
   refine qbo ?_
   refine qab ?_
   refine qac ?_
   refine q_l rfl (plain_tri _ _ _) ?_
   refine qaf ?_
   refine q_c (fun hc1 => ?_) (fun hc1 => ?_)
   ·
    refine qae ?_
    refine qab ?_
    refine qbe ?_
    refine qak ?_
    refine qbh ?_
    refine q_r (L' := L) (R' := R) (res1 rfl (rv_cell (row := [_, _]) tb rfl rfl rfl (by repeat (first | exact zi0 | apply zi1 | apply zi2)) (by rfl) (by rfl))) ?_
    exact ⟨by rw [atS, if_neg hgo, if_pos (by simpa using hc1)], rfl, rfl⟩
   ·
    refine qbv ?_
    refine qab ?_
    refine qac ?_
    refine qaa ?_
    refine qab ?_
    refine qac ?_
    refine qa9 ?_
    refine qcm ?_
    refine qar ?_
    refine qdd ?_
    refine qad ?_
    refine qam ?_
    refine qab ?_
    refine qab ?_
    refine qac ?_
    refine qaa ?_
    refine qa9 ?_
    refine qab ?_
    refine qab ?_
    refine qac ?_
    refine qaa ?_
    refine qar ?_
    refine qcd ?_
    refine qaq ?_
    intro b9
    refine qak ?_
    refine qaw ?_
    refine qab ?_
    refine qac ?_
    refine qbn ?_
    refine qah ?_
    apply LJ_or (G := [_, _, _]) (j := 3) (cj := 69) rfl rfl (by rfl) rfl (show _ = Value.bool _ from rfl) rfl
    ·
     intro hg4
     replace hg4 := qb hg4
     refine qab ?_
     refine qac ?_
     refine qbn ?_
     exact qai
    intro junk4
    refine qaf ?_
    refine q_c (fun hc2 => ?_) (fun hc2 => ?_)
    ·
     refine qay ?_
     refine qab ?_
     refine qac ?_
     refine LJ_q (yv_max2 rfl rfl) rfl ?_
     refine qab ?_
     refine qac ?_
     refine LJ_q (yv_max2 rfl rfl) rfl ?_
     refine qab ?_
     refine qcn ?_
     refine qab ?_
     refine qcn ?_
     refine qam ?_
     refine qbe ?_
     refine qak ?_
     refine qa0 ?_
     refine q_r (L' := L) (R' := R) (res1 rfl (rv_cell (row := [_, _]) tb rfl rfl rfl (by repeat (first | exact zi0 | apply zi1 | apply zi2)) (by rfl) (by rfl))) ?_
     exact ⟨by rw [atS, if_neg hgo, if_neg (by simpa using hc1), if_pos (by omega)]; try rfl, rfl, rfl⟩
    ·
     refine qbv ?_
     refine qbe ?_
     refine qak ?_
     refine qa0 ?_
     refine q_r (L' := L) (R' := R) (res1 rfl (rv_cell (row := [_, _]) tb rfl rfl rfl (by repeat (first | exact zi0 | apply zi1 | apply zi2)) (by rfl) (by rfl))) ?_
     exact ⟨by rw [atS, if_neg hgo, if_neg (by simpa using hc1), if_neg (by omega)]; try rfl, rfl, rfl⟩

def meetTo (l : List XSpan) (z : XSpan) (k : Nat) : XSpan := (l.take k).foldl (fun o x => ⟨max o.low x.low, min o.high x.high⟩) z
theorem meetTo_succ {l : List XSpan} {z : XSpan} {k : Nat} {x : XSpan} (h : l[k]? = some x) : meetTo l z (k + 1) = ⟨max (meetTo l z k).low x.low, min (meetTo l z k).high x.high⟩ := by
  rw [meetTo, List.take_add_one, h, List.foldl_append]; rfl
/-- P6.2 -/
def meet2 (x y : XSpan) : XSpan := ⟨max x.low y.low, min x.high y.high⟩
def meetS (x y : XSpan) : XSpan := if (meet2 x y).high < (meet2 x y).low then nothingS else meet2 x y
theorem meet_two {x y : XSpan} : meetTo [x, y] x 2 = meet2 x y := by simp [meetTo, meet2]
theorem meet_tri (x y : XSpan) (p : Arr XSpan) (L : List Blk) (R : List Sl) (hp : InR (spsl p) R) (he : p.l = [x, y]) :
    Tri Try.prog 142 [p.val].toArray L R (fun v L' R' => v = .tuple #[(meetS x y).val, .bool (decide ((meet2 x y).low ≤ (meet2 x y).high))] ∧ L = L' ∧ R = R') := by
  have hpl : p.l.length = 2 := by rw [he]; rfl
  have hp0 : p.l[0]? = some x := by rw [he]; rfl
  refine tri_enter 40 Try.call142 Try.func142 rfl rfl rfl ?_
  refine qae ?_
  refine qaq ?_
  intro b2
  refine qaz ?_
  refine qaw ?_
  refine qbm ?_
  refine qag ?_
  refine qbn ?_
  refine qaf ?_
  refine q_c (fun hc0 => ?_) (fun hc0 => ?_)
  ·
   refine qae ?_
   refine q_l rfl (sensNothing_tri _ _) ?_
   refine qak ?_
   refine qaz ?_
   refine qbh ?_
   refine q_r (L' := L) (R' := R) (res2 rfl (rv_cell (row := [_, _]) tb rfl rfl rfl (by repeat (first | exact zi0 | apply zi1 | apply zi2)) (by rfl) (by rfl)) (rv_tmp (show _ = Value.bool _ from rfl))) ?_
   exact absurd hc0 (by omega)
  ·
   refine qbv ?_
   refine qbm ?_
   refine qdt ?_
   refine qdl ?_
   refine qaq ?_
   intro b4
   refine qak ?_
   refine qaw ?_
   refine qbm ?_
   refine qag ?_
   refine qaa ?_
   refine qa2 ?_
   refine CJ_forget [(2, Value.pointer _), (4, Value.pointer _), (14, Value.slice _ _ _), (15, Value.int _ _), (16, Value.int _ _)] (by repeat' (first | exact trivial | refine And.intro rfl ?_)) fun tq0 => ?_
   refine q_p [6, 16, 17, 18, 19, 20, 21, 22, 23, 24, 25, 26, 27, 28, 29, 30, 31, 32] ((⟨fun g => [(16, .int .i64 ((g.1 : Nat) : Int))], fun g => ⟨b4, (meetTo p.l x g.1).cells, 59⟩ :: ⟨b2, [.int .i64 0, .int .i64 0], 59⟩ :: L, fun _ => R, fun g => p.l.length - g.1⟩ : Head {g : Nat // g ≤ p.l.length})) (⟨0, by omega⟩) ?_
   rintro ⟨k, hk⟩ junk
   try dsimp only
   refine qae ?_
   refine qaj ?_
   refine qa4 ?_
   refine q_c (fun hc1 => ?_) (fun hc1 => ?_)
   ·
    have h1 := get_D (l := p.l) (k := k) default (by omega)
    have hms := meetTo_succ (z := x) h1
    refine qbb ?_
    refine LJ_q (by first | exact yv_index_ro tb rfl rfl rfl rfl (by first | assumption | exact zr (by simp)) (i := k) (by first | rfl | omega | (simp; omega)) (by omega) | exact yv_index tb rfl rfl rfl rfl (i := k) (by first | rfl | omega | (simp; omega)) (by omega)) rfl ?_
    refine qdl ?_
    refine qaq ?_
    intro b6
    refine qak ?_
    refine qaf ?_
    refine CJ_drawn2 tb [27, 28, 29] [0, 1, 2, 3, 4, 5, 6, 7, 8, 9, 10] [11, 12, 13] (_) _ mixed (by kernel_rfl) (by repeat (first | exact zs0 _ | exact zs1 _ | apply zs2 | apply zs3 | apply zs4 | apply zs5)) (by (repeat (first | apply List.Sublist.cons (a := Blk.mk b4 _ _) | apply List.Sublist.cons_cons)); exact List.Sublist.refl _) ?_
    refine qan ?_
    refine qau ?_
    refine qan ?_
    refine qau ?_
    refine DJ3_q (yv_max2 rfl rfl) rfl rfl rfl rfl ?_
    refine qan ?_
    refine qau ?_
    refine qcp ?_
    refine qcu ?_
    refine DJ3_ql (yv_min2 rfl rfl) rfl rfl rfl rfl ?_
    refine qan ?_
    refine qba ?_
    refine qb6 ?_
    refine qal ?_
    refine qb6 ?_
    refine qby ?_
    refine qar ?_
    refine qaa ?_
    refine qav ?_
    exact loopK_mk ⟨k + 1, by omega⟩ (by repeat (first | exact Off.refl | apply Off.upd rfl | apply Off.havoc rfl | apply Off.updL rfl | apply Off.left rfl)) (by repeat' (first | exact trivial | refine And.intro rfl ?_)) (by dsimp only; rw [hms]; exact zs3 (zs2 (zs0 _))) (allR_self _) (by dsimp only; omega)
   ·
    obtain rfl : k = p.l.length := by omega
    have hmm : meetTo p.l x p.l.length = meet2 x y := by rw [hpl, he]; exact meet_two
    rw [hmm]
    refine qcf ?_
    refine qab ?_
    refine qac ?_
    refine qab ?_
    refine qac ?_
    refine qa5 ?_
    refine qaf ?_
    refine q_c (fun hc2 => ?_) (fun hc2 => ?_)
    ·
     refine qae ?_
     refine q_l rfl (sensNothing_tri _ _) ?_
     refine qak ?_
     refine qaz ?_
     refine qbh ?_
     refine q_r (L' := L) (R' := R) (res2 rfl (rv_cell (row := [_, _]) tb rfl rfl rfl (by repeat (first | exact zi0 | apply zi1 | apply zi2)) (by rfl) (by rfl)) (rv_tmp (show _ = Value.bool _ from rfl))) ?_
     exact ⟨by rw [meetS, if_pos (by omega), decide_eq_false (by omega)], rfl, rfl⟩
    ·
     refine qbv ?_
     refine qbe ?_
     refine qak ?_
     refine qaz ?_
     refine qa0 ?_
     refine q_r (L' := L) (R' := R) (res2 rfl (rv_cell (row := [_, _]) tb rfl rfl rfl (by repeat (first | exact zi0 | apply zi1 | apply zi2)) (by rfl) (by rfl)) (rv_tmp (show _ = Value.bool _ from rfl))) ?_
     exact ⟨by rw [meetS, if_neg (by omega), decide_eq_true (by omega)], rfl, rfl⟩
end Go.Proofs.Ytlgjgigciapkfaa
