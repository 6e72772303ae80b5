import Derived.Test.YtkpfjmibipblhaaNarrow
section
/-
  Sites: thresholds, rules, conditions, zones, what they are by the document. Plain. By an AI agent; no person has read it.
-/
set_option linter.unusedSimpArgs false
set_option linter.unusedVariables false
namespace Go.Proofs.Ytkpfjmibipblhaa
open Go.Aw Go

structure XNode where
  kind : Int
  cond : Int
  left : Int
  right : Int
  deriving Inhabited
def XNode.cells (x : XNode) : List Value := [.int .i64 x.kind, .int .i64 x.cond, .int .i64 x.left, .int .i64 x.right]
structure XLevel where
  cut : Int
  clear : Int
  delay : Int
  deriving Inhabited
abbrev XLevel.val (x : XLevel) : Value := .agg #[.int .i64 x.cut, .int .i64 x.clear, .int .i64 x.delay]
structure XCond where
  kind : Int
  target : Int
  value : Int
  level : XLevel
  deriving Inhabited
def XCond.cells (x : XCond) : List Value := [.int .i64 x.kind, .int .i64 x.target, .int .i64 x.value, .int .i64 x.level.cut, .int .i64 x.level.clear, .int .i64 x.level.delay]
abbrev XCond.val (x : XCond) : Value := .agg #[.int .i64 x.kind, .int .i64 x.target, .int .i64 x.value, .int .i64 x.level.cut, .int .i64 x.level.clear, .int .i64 x.level.delay]
structure XZone where
  rule : Arr XNode
  hold : Int
  roads : Arr Int
  fresh : Int
  deriving Inhabited
def XZone.cells (x : XZone) : List Value := [x.rule.val, .int .i64 x.hold, x.roads.val, .int .i64 x.fresh]
abbrev XZone.val (x : XZone) : Value := .agg #[x.rule.val, .int .i64 x.hold, x.roads.val, .int .i64 x.fresh]
structure XWatch where
  over : Bool
  since : Int
  last : Int
  deriving Inhabited, DecidableEq
structure XCut where
  off : Bool
  clear : Int
  reason : Int
  deriving Inhabited, DecidableEq
def XCut.cells (x : XCut) : List Value := [.bool x.off, .int .i64 x.clear, .int .i64 x.reason]
structure XSite where
  air : XAir
  sensors : Arr XSens
  conds : Arr XCond
  zones : Arr XZone
  persons : Arr Int
def XSite.cells (x : XSite) : List Value := [x.air.mine.places.val, x.air.mine.roads.val, x.air.fans.val, x.air.doors.val, x.sensors.val, x.conds.val, x.zones.val, x.persons.val]
abbrev XSite.val (x : XSite) : Value := .agg #[x.air.mine.places.val, x.air.mine.roads.val, x.air.fans.val, x.air.doors.val, x.sensors.val, x.conds.val, x.zones.val, x.persons.val]
abbrev ndsl (x : Arr XNode) : Sl := x.sl 4 XNode.cells []
abbrev cnsl (x : Arr XCond) : Sl := x.sl 6 XCond.cells []
abbrev XZone.subs (z : XZone) : List Sl := [ndsl z.rule, isl z.roads]
abbrev zosl (x : Arr XZone) : Sl := x.sl 4 XZone.cells (x.l.flatMap XZone.subs)
abbrev cusl (x : Arr XCut) : Sl := x.sl 3 XCut.cells []
theorem InR.rule {x : Arr XZone} {R : List Sl} (h : InR (zosl x) R) {i : Nat} {z : XZone} (hi : x.l[i]? = some z) : InR (ndsl z.rule) R :=
  h.sub (.deep (List.mem_flatMap.2 ⟨z, List.mem_of_getElem? hi, List.mem_cons_self⟩) .here)
theorem InR.zroads {x : Arr XZone} {R : List Sl} (h : InR (zosl x) R) {i : Nat} {z : XZone} (hi : x.l[i]? = some z) : InR (isl z.roads) R :=
  h.sub (.deep (List.mem_flatMap.2 ⟨z, List.mem_of_getElem? hi, List.mem_cons_of_mem _ List.mem_cons_self⟩) .here)
structure SiteR (s : XSite) (R : List Sl) : Prop where
  air : AirR s.air R
  sensors : InR (sesl s.sensors) R
  conds : InR (cnsl s.conds) R
  zones : InR (zosl s.zones) R
  persons : InR (isl s.persons) R
theorem SiteR.mono {s : XSite} {R R' : List Sl} (h : SiteR s R) (k : ∀ r ∈ R, InR r R') : SiteR s R' :=
  ⟨⟨h.air.places.mono k, h.air.roads.mono k, h.air.fans.mono k, h.air.doors.mono k⟩, h.sensors.mono k, h.conds.mono k, h.zones.mono k, h.persons.mono k⟩

def LevelOk (l : XLevel) : Prop := l.cut ≤ 1000000 ∧ 0 ≤ l.clear ∧ l.clear < l.cut ∧ 0 ≤ l.delay ∧ l.delay ≤ 100000
instance (l : XLevel) : Decidable (LevelOk l) := by unfold LevelOk; infer_instance
def levelErr (l : XLevel) : Int := if LevelOk l then 0 else 1
def WatchOk (w : XWatch) : Prop := 0 ≤ w.last ∧ -1 ≤ w.since ∧ w.since ≤ w.last ∧ (w.since = -1 ∨ w.over = true)
instance (w : XWatch) : Decidable (WatchOk w) := by unfold WatchOk; infer_instance
def partF (l : List XNode) : Nat → Int → Option (Int × Int)
  | 0, _ => none
  | n + 1, i =>
    if i < 0 then none
    else if (l.getD i.toNat default).kind = 1 then
      if (l.getD i.toNat default).left = 0 ∧ (l.getD i.toNat default).right = 0 ∧ 0 ≤ (l.getD i.toNat default).cond ∧ (l.getD i.toNat default).cond < 64 then some (i, 1) else none
    else if (l.getD i.toNat default).kind = 2 then
      match partF l n (i - 1) with
      | none => none
      | some (f, d) => if (l.getD i.toNat default).cond = 0 ∧ (l.getD i.toNat default).right = 0 ∧ (l.getD i.toNat default).left = i - 1 then some (f, d + 1) else none
    else if (l.getD i.toNat default).kind = 3 ∨ (l.getD i.toNat default).kind = 4 then
      match partF l n (i - 1) with
      | none => none
      | some (m, r) => if (l.getD i.toNat default).cond = 0 ∧ (l.getD i.toNat default).right = i - 1 ∧ (l.getD i.toNat default).left = m - 1 then
          match partF l n (m - 1) with
          | none => none
          | some (f, q) => some (f, max q r + 1) else none
    else none
def rightR (l : List XNode) : Bool :=
  decide (1 ≤ l.length ∧ l.length ≤ 64) && (match partF l l.length ((l.length : Int) - 1) with
    | none => false
    | some (f, d) => decide (f = 0 ∧ d ≤ 16))
def ruleErr (l : List XNode) (n : Nat) : Int := if rightR l = false then 18 else if ∃ x ∈ l, x.kind = 1 ∧ (n : Int) ≤ x.cond then 1 else 0
def sensOf (a : XAir) (s : XSens) : Int := if s.kind = 5 then (a.fans.l.length : Int) else if s.kind = 6 then (a.doors.l.length : Int) else (a.mine.roads.l.length : Int)
def sensAt (a : XAir) (S : List XSens) (i : Nat) : Option Int :=
  if sensErr (S.getD i default) ≠ 0 then some (sensErr (S.getD i default))
  else if ¬ (0 ≤ (S.getD i default).target ∧ (S.getD i default).target < sensOf a (S.getD i default)) then some 9
  else if ∃ k : Nat, k < i ∧ (S.getD k default).address = (S.getD i default).address then some 9 else none
def sensorsErr (a : XAir) (S : List XSens) : Int := ((List.range S.length).findSome? (sensAt a S)).getD 0
def condBase (S : List XSens) (n : Nat) (c : XCond) : Int :=
  if c.kind = 1 ∨ c.kind = 2 ∨ c.kind = 4 then if 0 ≤ c.target ∧ c.target < S.length then 0 else 9
  else if c.kind = 3 then if (0 ≤ c.target ∧ c.target < S.length) ∧ (S.getD c.target.toNat default).kind = 5 then 0 else 9
  else if c.kind = 5 then if 0 ≤ c.target ∧ c.target < n then 0 else 4
  else 5
def condErr (S : List XSens) (n : Nat) (c : XCond) : Int :=
  if condBase S n c ≠ 0 then condBase S n c else if c.value < 0 ∨ 1099511627776 < c.value then 1 else if c.kind = 1 then levelErr c.level else 0
def roadBad (n : Nat) (l : List Int) (i : Nat) : Prop := ¬ (0 ≤ l.getD i 0 ∧ l.getD i 0 < n) ∨ (0 < i ∧ l.getD i 0 ≤ l.getD (i - 1) 0)
instance (n : Nat) (l : List Int) (i : Nat) : Decidable (roadBad n l i) := by unfold roadBad; infer_instance
def zoneErr (conds n : Nat) (z : XZone) : Int :=
  if ruleErr z.rule.l conds ≠ 0 then ruleErr z.rule.l conds else if z.hold < 0 ∨ 100000 < z.hold ∨ z.fresh < 0 ∨ 100 < z.fresh then 1
  else if ∃ i : Nat, i < z.roads.l.length ∧ roadBad n z.roads.l i then 4 else 0
def nzO (e : Int) : Option Int := if e = 0 then none else some e
def condsErr (s : XSite) : Int := (s.conds.l.findSome? fun c => nzO (condErr s.sensors.l s.air.mine.roads.l.length c)).getD 0
def zonesErr (s : XSite) : Int := (s.zones.l.findSome? fun z => nzO (zoneErr s.conds.l.length s.air.mine.roads.l.length z)).getD 0
def personsErr (s : XSite) : Int := (s.persons.l.findSome? fun p => if p < 1 ∨ 3 < p then some 19 else none).getD 0
def siteErr (s : XSite) : Int :=
  if airErr s.air ≠ 0 then airErr s.air
  else if 64 < s.sensors.l.length ∨ 64 < s.conds.l.length ∨ 16 < s.zones.l.length ∨ 64 < s.persons.l.length then 2
  else if sensorsErr s.air s.sensors.l ≠ 0 then sensorsErr s.air s.sensors.l
  else if condsErr s ≠ 0 then condsErr s
  else if zonesErr s ≠ 0 then zonesErr s
  else personsErr s

end Go.Proofs.Ytkpfjmibipblhaa
end
section
/-
  Thresholds: level.Check, level.Step and the reference's; window.Above. By an AI agent; no person has read it.
-/
set_option linter.unusedSimpArgs false
set_option linter.unusedVariables false
namespace Go.Proofs.Ytkpfjmibipblhaa
open Go.Aw Go
set_option maxRecDepth 20000
attribute [local irreducible] CJ LJ DJ Tri YV Gives seqK blockK loopK retK RV mergeK OwL.L
theorem levelCheck_tri (l : XLevel) (L : List Blk) (R : List Sl) :
    Tri Try.prog 94 [l.val].toArray L R (fun v L' R' => v = .int .i64 (levelErr l) ∧ L = L' ∧ R = R') := by
  refine tri_enter 28 Try.call94 Try.func94 rfl rfl rfl ?_
  refine qae ?_
  refine qax ?_
  intro b1
  refine qad ?_
  refine qaw ?_
  refine qab ?_
  refine qac ?_
  refine qa5 ?_
  refine qah ?_
  apply LJ_or (G := [_, _, _]) (j := 3) (cj := 6) rfl rfl (by rfl) rfl (show _ = Value.bool _ from rfl) rfl
  ·
   intro hg4
   replace hg4 := qb hg4
   refine qab ?_
   refine qac ?_
   refine qaj ?_
   exact qai
  intro junk4
  refine qah ?_
  apply LJ_or (G := [_, _, _, _, _]) (j := 8) (cj := 11) rfl rfl (by rfl) rfl (show _ = Value.bool _ from rfl) rfl
  ·
   intro hg9
   replace hg9 := qb hg9
   refine qab ?_
   refine qac ?_
   refine qab ?_
   refine qac ?_
   refine qbz ?_
   exact qai
  intro junk9
  refine qah ?_
  apply LJ_or (G := [_, _, _]) (j := 15) (cj := 18) rfl rfl (by rfl) rfl (show _ = Value.bool _ from rfl) rfl
  ·
   intro hg16
   replace hg16 := qb hg16
   refine qab ?_
   refine qac ?_
   refine qaj ?_
   exact qai
  intro junk16
  refine qah ?_
  apply LJ_or (G := [_, _, _]) (j := 20) (cj := 23) rfl rfl (by rfl) rfl (show _ = Value.bool _ from rfl) rfl
  ·
   intro hg21
   replace hg21 := qb hg21
   refine qab ?_
   refine qac ?_
   refine qa5 ?_
   exact qai
  intro junk21
  refine qaf ?_
  refine q_c (fun hc0 => ?_) (fun hc0 => ?_)
  ·
   refine qae ?_
   refine qad ?_
   refine qbh ?_
   refine q_i (L' := L) (R' := R) ?_
   exact ⟨by (try simp at hc0); rw [levelErr, if_neg (by rw [LevelOk]; omega)], rfl, rfl⟩
  refine qbv ?_
  refine qad ?_
  refine qa0 ?_
  refine q_i (L' := L) (R' := R) ?_
  exact ⟨by (try simp at hc0); rw [levelErr, if_pos (by rw [LevelOk]; omega)], rfl, rfl⟩

end Go.Proofs.Ytkpfjmibipblhaa
end
section
/-
  Rules: what a right one is, and what more knowledge does to its value. Plain. By an AI agent; no person has read it.
-/
set_option linter.unusedSimpArgs false
set_option linter.unusedVariables false
namespace Go.Proofs.Ytkpfjmibipblhaa
open Go.Aw Go
def NodeOk (l : List XNode) (j : Nat) : Prop :=
  ((l.getD j default).kind = 1 ∧ 0 ≤ (l.getD j default).cond ∧ (l.getD j default).cond < 64) ∨
  ((l.getD j default).kind = 2 ∧ 1 ≤ j ∧ (l.getD j default).left = (j : Int) - 1) ∨
  (((l.getD j default).kind = 3 ∨ (l.getD j default).kind = 4) ∧ 1 ≤ j ∧ (l.getD j default).right = (j : Int) - 1 ∧ 0 ≤ (l.getD j default).left ∧ (l.getD j default).left < (j : Int))
theorem partF_ok {l : List XNode} : ∀ (n : Nat) (i f d : Int), partF l n i = some (f, d) → (0 ≤ f ∧ f ≤ i) ∧ (1 ≤ d ∧ d ≤ n) ∧ ∀ j : Nat, f ≤ (j : Int) → (j : Int) ≤ i → NodeOk l j
  | 0, i, f, d, h => by rw [partF] at h; cases h
  | n + 1, i, f, d, h => by
    rw [partF] at h
    split at h
    · cases h
    rename_i hi
    have at_i : ∀ j : Nat, (j : Int) = i → l.getD j default = l.getD i.toNat default := fun j hj => by rw [← hj, Int.toNat_natCast]
    split at h
    · rename_i h1
      split at h
      · rename_i h2
        cases h
        refine ⟨by omega, by omega, fun j j1 j2 => ?_⟩
        have hj := at_i j (by omega)
        rw [NodeOk, hj]
        exact .inl ⟨h1, h2.2.2.1, h2.2.2.2⟩
      · cases h
    split at h
    · rename_i h1
      split at h
      · cases h
      rename_i f' d' hp
      split at h
      · rename_i h2
        cases h
        obtain ⟨i1, i2, i3⟩ := partF_ok n _ _ _ hp
        refine ⟨by omega, by omega, fun j j1 j2 => ?_⟩
        by_cases hj : (j : Int) = i
        · have hj' := at_i j hj
          rw [NodeOk, hj']
          exact .inr (.inl ⟨h1, by omega, by omega⟩)
        · exact i3 j j1 (by omega)
      · cases h
    split at h
    · rename_i h1
      split at h
      · cases h
      rename_i m r hp
      split at h
      · rename_i h2
        split at h
        · cases h
        rename_i f' q hq
        cases h
        obtain ⟨i1, i2, i3⟩ := partF_ok n _ _ _ hp
        obtain ⟨k1, k2, k3⟩ := partF_ok n _ _ _ hq
        refine ⟨by omega, by omega, fun j j1 j2 => ?_⟩
        by_cases hj : (j : Int) = i
        · have hj' := at_i j hj
          rw [NodeOk, hj']
          exact .inr (.inr ⟨h1, by omega, by omega, by omega, by omega⟩)
        · rcases Int.lt_or_le (j : Int) m with hm | hm
          · exact k3 j j1 (by omega)
          · exact i3 j hm (by omega)
      · cases h
    · cases h
theorem rightR_iff {l : List XNode} : rightR l = true ↔ (1 ≤ l.length ∧ l.length ≤ 64) ∧ ∃ d, partF l l.length ((l.length : Int) - 1) = some (0, d) ∧ d ≤ 16 := by
  rw [rightR, Bool.and_eq_true, decide_eq_true_eq]
  constructor
  · rintro ⟨h1, h2⟩
    refine ⟨h1, ?_⟩
    split at h2
    · cases h2
    · rename_i f d hp
      simp only [decide_eq_true_eq] at h2
      obtain ⟨rfl, hd⟩ := h2
      exact ⟨d, hp, hd⟩
  · rintro ⟨h1, d, hp, hd⟩
    refine ⟨h1, ?_⟩
    rw [hp]
    simpa using hd
end Go.Proofs.Ytkpfjmibipblhaa
end
section
/-
  Rules: rule.part, rule.right, rule.Check and the reference's. By an AI agent; no person has read it.
-/
set_option linter.unusedSimpArgs false
set_option linter.unusedVariables false
namespace Go.Proofs.Ytkpfjmibipblhaa
open Go.Aw Go
set_option maxRecDepth 20000
attribute [local irreducible] CJ LJ DJ Tri YV Gives seqK blockK loopK retK RV mergeK OwL.L
section
variable {A9 B9 : Prop}
theorem ybgaa (a : A9) (h : A9 → B9 := by exact DJ_q (yv_assign (show _ = Value.bool _ from rfl)) rfl rfl rfl) : B9 := h a
theorem ybgab (h : B9 := by exact ⟨i, 1, _, rfl, ⟨by omega, fun h => by rw [hpf, if_pos (by first | (cases h; done) | (have h' := of_decide_eq_true h; omega) | (have h' := of_decide_eq_false h; omega) | omega)], fun h => by rw [hpf, if_neg (by first | (cases h; done) | (have h' := of_decide_eq_true h; omega) | (have h' := of_decide_eq_false h; omega) | omega)]⟩, rfl, rfl⟩) : B9 := h
theorem ybgac (a : A9) (h : A9 → B9 := by exact LJ_call rfl (ih (i - 1) _ (by omega) (by omega) (by omega)) rfl) : B9 := h a
theorem ybgad (h : B9 := by exact ⟨f, max q r + 1, b2, rfl, ⟨by omega, fun h => by rw [hpf, hP2.yes h], fun h => by rw [hpf, hP2.no h]⟩, rfl, rfl⟩) : B9 := h
theorem ybgae (h : B9 := by exact ⟨0, 0, false, rfl, ⟨by omega, (fun h => by cases h), fun _ => by rw [partF, if_neg hc0, ← hx, if_neg hc1, if_neg hc2, if_neg (by omega)]⟩, rfl, rfl⟩) : B9 := h
end
structure PartR (l : List XNode) (n : Nat) (i f d : Int) (b : Bool) : Prop where
  bnd : 0 ≤ d ∧ d ≤ n
  yes : b = true → partF l n i = some (f, d)
  no : b = false → partF l n i = none
theorem partF_neg {l : List XNode} {i : Int} (h : i < 0) : ∀ n, partF l n i = none
  | 0 => rfl
  | n + 1 => by rw [partF, if_pos h]
theorem partF_k2 {l : List XNode} {n : Nat} {i : Int} {x : XNode} (h0 : ¬ i < 0) (hx : x = l.getD i.toNat default) (h1 : ¬ x.kind = 1) (h2 : x.kind = 2) :
    partF l (n + 1) i = match partF l n (i - 1) with
      | none => none
      | some (f, d) => if x.cond = 0 ∧ x.right = 0 ∧ x.left = i - 1 then some (f, d + 1) else none := by
  rw [partF, if_neg h0, ← hx, if_neg h1]
  exact if_pos h2
theorem partF_k3 {l : List XNode} {n : Nat} {i : Int} {x : XNode} (h0 : ¬ i < 0) (hx : x = l.getD i.toNat default) (h1 : ¬ x.kind = 1) (h2 : ¬ x.kind = 2) (h3 : x.kind = 3 ∨ x.kind = 4) :
    partF l (n + 1) i = match partF l n (i - 1) with
      | none => none
      | some (m, r) => if x.cond = 0 ∧ x.right = i - 1 ∧ x.left = m - 1 then
          match partF l n (m - 1) with
          | none => none
          | some (f, q) => some (f, max q r + 1) else none := by
  rw [partF, if_neg h0, ← hx, if_neg h1, if_neg h2]
  exact if_pos h3
theorem rlPart_neg (l : Arr XNode) (n : Nat) (i : Int) (L : List Blk) (R : List Sl) (hi : i < 0) :
    Tri Try.prog 135 [l.val, .int .i64 i].toArray L R (fun v L' R' => ∃ (f d : Int) (b : Bool), v = .tuple #[.int .i64 f, .int .i64 d, .bool b] ∧ PartR l.l n i f d b ∧ L = L' ∧ R = R') := by
  refine tri_enter 122 Try.call135 Try.func135 rfl rfl rfl ?_
  refine qae ?_
  refine qad ?_
  refine qad ?_
  refine qaz ?_
  refine qaw ?_
  refine qaa ?_
  refine qaj ?_
  refine qaf ?_
  refine q_c (fun hc0 => ?_) (fun hc0 => ?_)
  ·
   refine qae ?_
   refine qad ?_
   refine qad ?_
   refine qaz ?_
   refine qbh ?_
   refine q_r (L' := L) (R' := R) (res3 rfl (rv_tmp (show _ = Value.int _ _ from rfl)) (rv_tmp (show _ = Value.int _ _ from rfl)) (rv_tmp (show _ = Value.bool _ from rfl))) ?_
   exact ⟨0, 0, false, rfl, ⟨by omega, (fun h => by cases h), fun _ => partF_neg hi n⟩, rfl, rfl⟩
  (exfalso; omega)
theorem rlPart_step (l : Arr XNode) (n : Nat) (R : List Sl) (hl : InR (ndsl l) R) (hn : n ≤ 64)
    (ih : ∀ (i : Int) (L : List Blk), i < n → i < l.l.length → -1 ≤ i → Tri Try.prog 135 [l.val, .int .i64 i].toArray L R (fun v L' R' => ∃ (f d : Int) (b : Bool), v = .tuple #[.int .i64 f, .int .i64 d, .bool b] ∧ PartR l.l n i f d b ∧ L = L' ∧ R = R'))
    (i : Int) (L : List Blk) (hi : i < n + 1) (hil : i < l.l.length) (hi1 : -1 ≤ i) :
    Tri Try.prog 135 [l.val, .int .i64 i].toArray L R (fun v L' R' => ∃ (f d : Int) (b : Bool), v = .tuple #[.int .i64 f, .int .i64 d, .bool b] ∧ PartR l.l (n + 1) i f d b ∧ L = L' ∧ R = R') := by
  refine tri_enter 122 Try.call135 Try.func135 rfl rfl rfl ?_
  refine qae ?_
  refine qad ?_
  refine qad ?_
  refine qaz ?_
  refine qaw ?_
  refine qaa ?_
  refine qaj ?_
  refine qaf ?_
  refine q_c (fun hc0 => ?_) (fun hc0 => ?_)
  ·
   refine qae ?_
   refine qad ?_
   refine qad ?_
   refine qaz ?_
   refine qbh ?_
   refine q_r (L' := L) (R' := R) (res3 rfl (rv_tmp (show _ = Value.int _ _ from rfl)) (rv_tmp (show _ = Value.int _ _ from rfl)) (rv_tmp (show _ = Value.bool _ from rfl))) ?_
   exact ⟨0, 0, false, rfl, ⟨by omega, (fun h => by cases h), fun _ => partF_neg hc0 _⟩, rfl, rfl⟩
  have hxg := get_D (l := l.l) (k := i.toNat) default (by omega)
  obtain ⟨x, hx⟩ : ∃ x, x = l.l.getD i.toNat default := ⟨_, rfl⟩
  rw [← hx] at hxg
  refine qbv ?_
  refine qbm ?_
  refine qaa ?_
  refine LJ_q (by first | exact yv_index_ro tb rfl rfl rfl rfl (by first | assumption | exact zr (by simp)) (i := i.toNat) (by first | rfl | omega | (simp; omega)) (by omega) | exact yv_index tb rfl rfl rfl rfl (i := i.toNat) (by first | rfl | omega | (simp; omega)) (by omega)) rfl ?_
  refine qdr ?_
  refine qaq ?_
  intro b7
  refine qak ?_
  refine qaw ?_
  refine qab ?_
  refine qac ?_
  refine LJ_nil (seqK_normal (CJ_block (CJ_seq (CJ_region ?_))))
  refine qbn ?_
  refine qaz ?_
  refine qaf ?_
  refine q_c (fun hc1 => ?_) (fun hc1 => ?_)
  ·
   refine CJ_seq ?_
   refine CJ_drawn tb [0, 1, 2, 3, 4, 5, 6, 7, 8, 9, 10, 11, 12, 13, 14, 15, 16, 17, 18, 19, 20, 21] ([Blk.mk b7 _ _]) mixed (by kernel_rfl) (by repeat (first | exact zs0 _ | exact zs1 _ | apply zs2 | apply zs3 | apply zs4 | apply zs5)) ?_
   refine qao ?_
   refine qal ?_
   refine qat ?_
   refine DJ_q (yv_eql rfl rfl) rfl rfl rfl ?_
   refine qb2 ?_
   refine DJ_case (k := 30) (show _ = Value.bool _ from rfl) (fun hg4 => ?_) (fun hg4 => ?_)
   ·
    replace hg4 := qb hg4
    refine qal ?_
    refine qat ?_
    refine DJ_q (yv_eql rfl rfl) rfl rfl rfl ?_
    refine qbp ?_
    refine qb2 ?_
    refine DJ_case (k := 35) (show _ = Value.bool _ from rfl) (fun hg9 => ?_) (fun hg9 => ?_)
    ·
     replace hg9 := qb hg9
     refine qal ?_
     refine qat ?_
     refine DJ_q (yv_geq rfl rfl) rfl rfl rfl ?_
     refine qbp ?_
     refine qb2 ?_
     refine DJ_case (k := 40) (show _ = Value.bool _ from rfl) (fun hg14 => ?_) (fun hg14 => ?_)
     ·
      replace hg14 := qb hg14
      refine qal ?_
      refine qat ?_
      refine DJ_q (yv_lss rfl rfl) rfl rfl rfl ?_
      refine qbp ?_
      refine qcg ?_
      refine qcg ?_
      refine ybgaa ?_
      refine DJ_nil (seqK_normal (CJ_ret (blockK_ret (seqK_ret ?_))))
      refine q_r (L' := L) (R' := R) (res3 rfl (rv_tmp (show _ = Value.int _ _ from rfl)) (rv_tmp (show _ = Value.int _ _ from rfl)) (rv_tmp (show _ = Value.bool _ from rfl))) ?_
      have hpf : partF l.l (n + 1) i = if x.left = 0 ∧ x.right = 0 ∧ 0 ≤ x.cond ∧ x.cond < 64 then some (i, 1) else none := by rw [partF, if_neg hc0, ← hx, if_pos hc1]
      exact ybgab
     replace hg14 := qb hg14
     iterate 3 refine qap ?_
     refine qbp ?_
     refine qcg ?_
     refine qcg ?_
     refine ybgaa ?_
     refine DJ_nil (seqK_normal (CJ_ret (blockK_ret (seqK_ret ?_))))
     refine q_r (L' := L) (R' := R) (res3 rfl (rv_tmp (show _ = Value.int _ _ from rfl)) (rv_tmp (show _ = Value.int _ _ from rfl)) (rv_tmp (show _ = Value.bool _ from rfl))) ?_
     have hpf : partF l.l (n + 1) i = if x.left = 0 ∧ x.right = 0 ∧ 0 ≤ x.cond ∧ x.cond < 64 then some (i, 1) else none := by rw [partF, if_neg hc0, ← hx, if_pos hc1]
     exact ybgab
    replace hg9 := qb hg9
    iterate 3 refine qap ?_
    refine qbp ?_
    refine qb2 ?_
    iterate 3 refine qap ?_
    refine qbp ?_
    refine qcg ?_
    refine qcg ?_
    refine ybgaa ?_
    refine DJ_nil (seqK_normal (CJ_ret (blockK_ret (seqK_ret ?_))))
    refine q_r (L' := L) (R' := R) (res3 rfl (rv_tmp (show _ = Value.int _ _ from rfl)) (rv_tmp (show _ = Value.int _ _ from rfl)) (rv_tmp (show _ = Value.bool _ from rfl))) ?_
    have hpf : partF l.l (n + 1) i = if x.left = 0 ∧ x.right = 0 ∧ 0 ≤ x.cond ∧ x.cond < 64 then some (i, 1) else none := by rw [partF, if_neg hc0, ← hx, if_pos hc1]
    exact ybgab
   replace hg4 := qb hg4
   iterate 3 refine qap ?_
   refine qbp ?_
   refine qb2 ?_
   iterate 3 refine qap ?_
   refine qbp ?_
   refine qb2 ?_
   iterate 3 refine qap ?_
   refine qbp ?_
   refine qcg ?_
   refine qcg ?_
   refine ybgaa ?_
   refine DJ_nil (seqK_normal (CJ_ret (blockK_ret (seqK_ret ?_))))
   refine q_r (L' := L) (R' := R) (res3 rfl (rv_tmp (show _ = Value.int _ _ from rfl)) (rv_tmp (show _ = Value.int _ _ from rfl)) (rv_tmp (show _ = Value.bool _ from rfl))) ?_
   have hpf : partF l.l (n + 1) i = if x.left = 0 ∧ x.right = 0 ∧ 0 ≤ x.cond ∧ x.cond < 64 then some (i, 1) else none := by rw [partF, if_neg hc0, ← hx, if_pos hc1]
   exact ybgab
  refine qae ?_
  refine qbn ?_
  refine qaz ?_
  refine qaf ?_
  refine q_c (fun hc2 => ?_) (fun hc2 => ?_)
  ·
   refine qae ?_
   refine qbm ?_
   refine qaa ?_
   refine qa9 ?_
   refine ybgac ?_
   rintro v L' R' ⟨f, d, b, rfl, hP, rfl, rfl⟩
   have hPb := hP.bnd
   refine LJ_q (yv_move rfl) rfl ?_
   iterate 3 refine qbs ?_
   refine qad ?_
   refine qad ?_
   refine qaz ?_
   refine qa4 ?_
   refine CJ_drawn tb [0, 1, 2, 3, 4, 5, 6, 7, 8, 9, 10, 11, 12, 13, 14, 15, 16, 17, 18, 19, 20, 21, 22, 23] ([Blk.mk b7 _ _]) mixed (by kernel_rfl) (by repeat (first | exact zs0 _ | exact zs1 _ | apply zs2 | apply zs3 | apply zs4 | apply zs5)) ?_
   refine qao ?_
   refine qao ?_
   refine qc2 ?_
   refine qb2 ?_
   refine qb2 ?_
   refine DJ_case (k := 59) (show _ = Value.bool _ from rfl) (fun hg4 => ?_) (fun hg4 => ?_)
   ·
    replace hg4 := qb hg4
    refine qal ?_
    refine qat ?_
    refine DJ_q (yv_eql rfl rfl) rfl rfl rfl ?_
    refine qbp ?_
    refine qb2 ?_
    refine DJ_case (k := 64) (show _ = Value.bool _ from rfl) (fun hg9 => ?_) (fun hg9 => ?_)
    ·
     replace hg9 := qb hg9
     refine qal ?_
     refine qat ?_
     refine DJ_q (yv_eql rfl rfl) rfl rfl rfl ?_
     refine qbp ?_
     refine qb2 ?_
     refine DJ_case (k := 69) (show _ = Value.bool _ from rfl) (fun hg14 => ?_) (fun hg14 => ?_)
     ·
      replace hg14 := qb hg14
      refine qal ?_
      refine qat ?_
      refine qao ?_
      refine qb7 ?_
      refine DJ_q (yv_eql rfl rfl) rfl rfl rfl ?_
      refine qbp ?_
      refine qcg ?_
      refine qcg ?_
      refine ybgaa ?_
      refine DJ_nil (seqK_normal (CJ_ret (blockK_ret (seqK_ret ?_))))
      refine q_r (L' := L) (R' := R) (res3 rfl (rv_tmp (show _ = Value.int _ _ from rfl)) (rv_tmp (show _ = Value.int _ _ from rfl)) (rv_tmp (show _ = Value.bool _ from rfl))) ?_
      have hpf := partF_k2 (n := n) hc0 hx hc1 hc2
      refine ⟨f, d + 1, _, rfl, ⟨by omega, fun h => ?_, fun h => ?_⟩, rfl, rfl⟩
      · cases b with
        | false => first | (cases h; done) | (simp at hg4; done)
        | true => rw [hpf, hP.yes rfl]; dsimp only; rw [if_pos (by first | (cases h; done) | (have h' := of_decide_eq_true h; omega) | (have h' := of_decide_eq_false h; omega) | omega)]
      · cases b with
        | false => rw [hpf, hP.no rfl]
        | true => first | (simp at hg4; done) | (rw [hpf, hP.yes rfl]; dsimp only; rw [if_neg (by first | (cases h; done) | (have h' := of_decide_eq_true h; omega) | (have h' := of_decide_eq_false h; omega) | omega)])
     replace hg14 := qb hg14
     iterate 5 refine qap ?_
     refine qbp ?_
     refine qcg ?_
     refine qcg ?_
     refine ybgaa ?_
     refine DJ_nil (seqK_normal (CJ_ret (blockK_ret (seqK_ret ?_))))
     refine q_r (L' := L) (R' := R) (res3 rfl (rv_tmp (show _ = Value.int _ _ from rfl)) (rv_tmp (show _ = Value.int _ _ from rfl)) (rv_tmp (show _ = Value.bool _ from rfl))) ?_
     have hpf := partF_k2 (n := n) hc0 hx hc1 hc2
     refine ⟨f, d + 1, _, rfl, ⟨by omega, fun h => ?_, fun h => ?_⟩, rfl, rfl⟩
     · cases b with
       | false => first | (cases h; done) | (simp at hg4; done)
       | true => rw [hpf, hP.yes rfl]; dsimp only; rw [if_pos (by first | (cases h; done) | (have h' := of_decide_eq_true h; omega) | (have h' := of_decide_eq_false h; omega) | omega)]
     · cases b with
       | false => rw [hpf, hP.no rfl]
       | true => first | (simp at hg4; done) | (rw [hpf, hP.yes rfl]; dsimp only; rw [if_neg (by first | (cases h; done) | (have h' := of_decide_eq_true h; omega) | (have h' := of_decide_eq_false h; omega) | omega)])
    replace hg9 := qb hg9
    iterate 3 refine qap ?_
    refine qbp ?_
    refine qb2 ?_
    iterate 5 refine qap ?_
    refine qbp ?_
    refine qcg ?_
    refine qcg ?_
    refine ybgaa ?_
    refine DJ_nil (seqK_normal (CJ_ret (blockK_ret (seqK_ret ?_))))
    refine q_r (L' := L) (R' := R) (res3 rfl (rv_tmp (show _ = Value.int _ _ from rfl)) (rv_tmp (show _ = Value.int _ _ from rfl)) (rv_tmp (show _ = Value.bool _ from rfl))) ?_
    have hpf := partF_k2 (n := n) hc0 hx hc1 hc2
    refine ⟨f, d + 1, _, rfl, ⟨by omega, fun h => ?_, fun h => ?_⟩, rfl, rfl⟩
    · cases b with
      | false => first | (cases h; done) | (simp at hg4; done)
      | true => rw [hpf, hP.yes rfl]; dsimp only; rw [if_pos (by first | (cases h; done) | (have h' := of_decide_eq_true h; omega) | (have h' := of_decide_eq_false h; omega) | omega)]
    · cases b with
      | false => rw [hpf, hP.no rfl]
      | true => first | (simp at hg4; done) | (rw [hpf, hP.yes rfl]; dsimp only; rw [if_neg (by first | (cases h; done) | (have h' := of_decide_eq_true h; omega) | (have h' := of_decide_eq_false h; omega) | omega)])
   replace hg4 := qb hg4
   iterate 3 refine qap ?_
   refine qbp ?_
   refine qb2 ?_
   iterate 3 refine qap ?_
   refine qbp ?_
   refine qb2 ?_
   iterate 5 refine qap ?_
   refine qbp ?_
   refine qcg ?_
   refine qcg ?_
   refine ybgaa ?_
   refine DJ_nil (seqK_normal (CJ_ret (blockK_ret (seqK_ret ?_))))
   refine q_r (L' := L) (R' := R) (res3 rfl (rv_tmp (show _ = Value.int _ _ from rfl)) (rv_tmp (show _ = Value.int _ _ from rfl)) (rv_tmp (show _ = Value.bool _ from rfl))) ?_
   have hpf := partF_k2 (n := n) hc0 hx hc1 hc2
   refine ⟨f, d + 1, _, rfl, ⟨by omega, fun h => ?_, fun h => ?_⟩, rfl, rfl⟩
   · cases b with
     | false => first | (cases h; done) | (simp at hg4; done)
     | true => rw [hpf, hP.yes rfl]; dsimp only; rw [if_pos (by first | (cases h; done) | (have h' := of_decide_eq_true h; omega) | (have h' := of_decide_eq_false h; omega) | omega)]
   · cases b with
     | false => rw [hpf, hP.no rfl]
     | true => first | (simp at hg4; done) | (rw [hpf, hP.yes rfl]; dsimp only; rw [if_neg (by first | (cases h; done) | (have h' := of_decide_eq_true h; omega) | (have h' := of_decide_eq_false h; omega) | omega)])
  refine qbi ?_
  refine qbn ?_
  refine qaz ?_
  refine qaf ?_
  refine q_c (fun hc3 => ?_) (fun hc3 => ?_)
  ·
   refine CJ_skip (seqK_normal ?_)
   refine q_c (fun hc4 => ?_) (fun hc4 => ?_)
   ·
    refine qae ?_
    refine qbm ?_
    refine qaa ?_
    refine qa9 ?_
    refine ybgac ?_
    rintro v L' R' ⟨m, r, b, rfl, hP, rfl, rfl⟩
    have hPb := hP.bnd
    have hpf := partF_k3 (n := n) hc0 hx hc1 hc2 (by first | exact .inl hc3 | exact .inr hc4)
    refine LJ_q (yv_move rfl) rfl ?_
    iterate 3 refine qbs ?_
    refine qad ?_
    refine qad ?_
    refine qaz ?_
    refine qaw ?_
    refine qah ?_
    refine qb4 ?_
    refine qah ?_
    apply LJ_or (G := [_, _, _]) (j := 2) (cj := 89) rfl rfl (by rfl) rfl (show _ = Value.bool _ from rfl) rfl
    ·
     intro hg3
     replace hg3 := qb hg3
     refine qab ?_
     refine qac ?_
     refine qbq ?_
     exact qai
    intro junk3
    refine qah ?_
    apply LJ_or (G := [_, _, _, _, _]) (j := 7) (cj := 94) rfl rfl (by rfl) rfl (show _ = Value.bool _ from rfl) rfl
    ·
     intro hg8
     replace hg8 := qb hg8
     refine qab ?_
     refine qac ?_
     refine qaa ?_
     refine qa9 ?_
     refine qbq ?_
     exact qai
    intro junk8
    refine qah ?_
    apply LJ_or (G := [_, _, _, _, _]) (j := 14) (cj := 101) rfl rfl (by rfl) rfl (show _ = Value.bool _ from rfl) rfl
    ·
     intro hg15
     replace hg15 := qb hg15
     have hbt : b = true := by cases b with | true => rfl | false => simp at hg15
     have hmb := (partF_ok _ _ _ _ (hP.yes hbt)).1
     refine qab ?_
     refine qac ?_
     refine qaa ?_
     refine qa9 ?_
     refine qbq ?_
     exact qai
    intro junk15
    refine qaf ?_
    refine q_c (fun hc5 => ?_) (fun hc5 => ?_)
    ·
     refine qae ?_
     refine qad ?_
     refine qad ?_
     refine qaz ?_
     refine LJ_nil (seqK_normal (CJ_ret (seqK_ret (blockK_ret (seqK_ret ?_)))))
     refine q_r (L' := L) (R' := R) (res3 rfl (rv_tmp (show _ = Value.int _ _ from rfl)) (rv_tmp (show _ = Value.int _ _ from rfl)) (rv_tmp (show _ = Value.bool _ from rfl))) ?_
     refine ⟨0, 0, false, rfl, ⟨by omega, (fun h => by cases h), fun _ => ?_⟩, rfl, rfl⟩
     cases b with
     | false => rw [hpf, hP.no rfl]
     | true => rw [hpf, hP.yes rfl]; dsimp only; rw [if_neg (by simp at hc5; omega)]
    have hbt : b = true := by cases b with | true => rfl | false => simp at hc5
    have hmb := (partF_ok _ _ _ _ (hP.yes hbt)).1
    rw [hP.yes hbt] at hpf
    dsimp only at hpf
    rw [if_pos (by rw [hbt] at hc5; simp at hc5; omega)] at hpf
    refine qbv ?_
    refine qbm ?_
    refine qaa ?_
    refine qa9 ?_
    refine LJ_call rfl (ih (m - 1) _ (by omega) (by omega) (by omega)) rfl ?_
    rintro v L' R' ⟨f, q, b2, rfl, hP2, rfl, rfl⟩
    have hPb2 := hP2.bnd
    refine LJ_q (yv_move rfl) rfl ?_
    iterate 3 refine qbs ?_
    refine qad ?_
    refine qad ?_
    refine qaz ?_
    refine qam ?_
    iterate 3 refine qaa ?_
    refine LJ_q (yv_max2 rfl rfl) rfl ?_
    refine qar ?_
    refine qah ?_
    refine qad ?_
    refine qad ?_
    refine qaz ?_
    refine qdb ?_
    refine q_r (L' := L) (R' := R) (res3 rfl (rv_tmp (show _ = Value.int _ _ from rfl)) (rv_tmp (show _ = Value.int _ _ from rfl)) (rv_tmp (show _ = Value.bool _ from rfl))) ?_
    exact ybgad
   refine CJ_skip (blockK_normal (seqK_normal (CJ_seq (CJ_region ?_))))
   refine qad ?_
   refine qad ?_
   refine qaz ?_
   refine qa0 ?_
   refine q_r (L' := L) (R' := R) (res3 rfl (rv_tmp (show _ = Value.int _ _ from rfl)) (rv_tmp (show _ = Value.int _ _ from rfl)) (rv_tmp (show _ = Value.bool _ from rfl))) ?_
   exact ybgae
  refine qay ?_
  refine qbn ?_
  refine qaz ?_
  refine qaf ?_
  refine q_c (fun hc4 => ?_) (fun hc4 => ?_)
  ·
   refine qae ?_
   refine qbm ?_
   refine qaa ?_
   refine qa9 ?_
   refine ybgac ?_
   rintro v L' R' ⟨m, r, b, rfl, hP, rfl, rfl⟩
   have hPb := hP.bnd
   have hpf := partF_k3 (n := n) hc0 hx hc1 hc2 (by first | exact .inl hc3 | exact .inr hc4)
   refine LJ_q (yv_move rfl) rfl ?_
   iterate 3 refine qbs ?_
   refine qad ?_
   refine qad ?_
   refine qaz ?_
   refine qaw ?_
   refine qah ?_
   refine qb4 ?_
   refine qah ?_
   apply LJ_or (G := [_, _, _]) (j := 2) (cj := 89) rfl rfl (by rfl) rfl (show _ = Value.bool _ from rfl) rfl
   ·
    intro hg3
    replace hg3 := qb hg3
    refine qab ?_
    refine qac ?_
    refine qbq ?_
    exact qai
   intro junk3
   refine qah ?_
   apply LJ_or (G := [_, _, _, _, _]) (j := 7) (cj := 94) rfl rfl (by rfl) rfl (show _ = Value.bool _ from rfl) rfl
   ·
    intro hg8
    replace hg8 := qb hg8
    refine qab ?_
    refine qac ?_
    refine qaa ?_
    refine qa9 ?_
    refine qbq ?_
    exact qai
   intro junk8
   refine qah ?_
   apply LJ_or (G := [_, _, _, _, _]) (j := 14) (cj := 101) rfl rfl (by rfl) rfl (show _ = Value.bool _ from rfl) rfl
   ·
    intro hg15
    replace hg15 := qb hg15
    have hbt : b = true := by cases b with | true => rfl | false => simp at hg15
    have hmb := (partF_ok _ _ _ _ (hP.yes hbt)).1
    refine qab ?_
    refine qac ?_
    refine qaa ?_
    refine qa9 ?_
    refine qbq ?_
    exact qai
   intro junk15
   refine qaf ?_
   refine q_c (fun hc5 => ?_) (fun hc5 => ?_)
   ·
    refine qae ?_
    refine qad ?_
    refine qad ?_
    refine qaz ?_
    refine LJ_nil (seqK_normal (CJ_ret (seqK_ret (blockK_ret (seqK_ret ?_)))))
    refine q_r (L' := L) (R' := R) (res3 rfl (rv_tmp (show _ = Value.int _ _ from rfl)) (rv_tmp (show _ = Value.int _ _ from rfl)) (rv_tmp (show _ = Value.bool _ from rfl))) ?_
    refine ⟨0, 0, false, rfl, ⟨by omega, (fun h => by cases h), fun _ => ?_⟩, rfl, rfl⟩
    cases b with
    | false => rw [hpf, hP.no rfl]
    | true => rw [hpf, hP.yes rfl]; dsimp only; rw [if_neg (by simp at hc5; omega)]
   have hbt : b = true := by cases b with | true => rfl | false => simp at hc5
   have hmb := (partF_ok _ _ _ _ (hP.yes hbt)).1
   rw [hP.yes hbt] at hpf
   dsimp only at hpf
   rw [if_pos (by rw [hbt] at hc5; simp at hc5; omega)] at hpf
   refine qbv ?_
   refine qbm ?_
   refine qaa ?_
   refine qa9 ?_
   refine LJ_call rfl (ih (m - 1) _ (by omega) (by omega) (by omega)) rfl ?_
   rintro v L' R' ⟨f, q, b2, rfl, hP2, rfl, rfl⟩
   have hPb2 := hP2.bnd
   refine LJ_q (yv_move rfl) rfl ?_
   iterate 3 refine qbs ?_
   refine qad ?_
   refine qad ?_
   refine qaz ?_
   refine qam ?_
   iterate 3 refine qaa ?_
   refine LJ_q (yv_max2 rfl rfl) rfl ?_
   refine qar ?_
   refine qah ?_
   refine qad ?_
   refine qad ?_
   refine qaz ?_
   refine qdb ?_
   refine q_r (L' := L) (R' := R) (res3 rfl (rv_tmp (show _ = Value.int _ _ from rfl)) (rv_tmp (show _ = Value.int _ _ from rfl)) (rv_tmp (show _ = Value.bool _ from rfl))) ?_
   exact ybgad
  refine CJ_skip (blockK_normal (seqK_normal (CJ_seq (CJ_region ?_))))
  refine qad ?_
  refine qad ?_
  refine qaz ?_
  refine qa0 ?_
  refine q_r (L' := L) (R' := R) (res3 rfl (rv_tmp (show _ = Value.int _ _ from rfl)) (rv_tmp (show _ = Value.int _ _ from rfl)) (rv_tmp (show _ = Value.bool _ from rfl))) ?_
  exact ybgae
theorem rlPart_tri (l : Arr XNode) (R : List Sl) (hl : InR (ndsl l) R) : ∀ (n : Nat), n ≤ 64 → ∀ (i : Int) (L : List Blk), i < n → i < l.l.length → -1 ≤ i →
    Tri Try.prog 135 [l.val, .int .i64 i].toArray L R (fun v L' R' => ∃ (f d : Int) (b : Bool), v = .tuple #[.int .i64 f, .int .i64 d, .bool b] ∧ PartR l.l n i f d b ∧ L = L' ∧ R = R')
  | 0, _, i, L, hi, _, _ => rlPart_neg l 0 i L R (by omega)
  | n + 1, hn, i, L, hi, hil, hi1 => rlPart_step l n R hl (by omega) (fun i L h1 h2 h3 => rlPart_tri l R hl n (by omega) i L h1 h2 h3) i L hi hil hi1
theorem rlRight_tri (l : Arr XNode) (L : List Blk) (R : List Sl) (hl : InR (ndsl l) R) :
    Tri Try.prog 119 [l.val].toArray L R (fun v L' R' => v = .bool (rightR l.l) ∧ L = L' ∧ R = R') := by
  refine tri_enter 32 Try.call119 Try.func119 rfl rfl rfl ?_
  refine qae ?_
  refine qaz ?_
  refine qaw ?_
  refine qbm ?_
  refine qag ?_
  refine qaj ?_
  refine qah ?_
  apply LJ_or (G := [_, _, _]) (j := 3) (cj := 9) rfl rfl (by rfl) rfl (show _ = Value.bool _ from rfl) rfl
  ·
   intro hg4
   replace hg4 := qb hg4
   refine qbm ?_
   refine qag ?_
   refine qa5 ?_
   exact qai
  intro junk4
  refine qaf ?_
  refine q_c (fun hc0 => ?_) (fun hc0 => ?_)
  ·
   refine qae ?_
   refine qaz ?_
   refine qbh ?_
   refine q_b (L' := L) (R' := R) ?_
   exact ⟨by rw [rightR, decide_eq_false (by omega)]; rfl, rfl, rfl⟩
  refine qbv ?_
  refine qbm ?_
  refine qbm ?_
  refine qag ?_
  refine qa9 ?_
  refine LJ_call rfl (rlPart_tri l _ hl l.l.length (by omega) _ _ (by omega) (by omega) (by omega)) rfl ?_
  rintro v L' R' ⟨f, d, b, rfl, hP, rfl, rfl⟩
  refine LJ_q (yv_move rfl) rfl ?_
  iterate 3 refine qbs ?_
  refine qad ?_
  refine qad ?_
  refine qaz ?_
  refine qam ?_
  refine qah ?_
  refine qah ?_
  apply LJ_and (G := [_, _]) (j := 1) (cj := 24) rfl rfl (by rfl) rfl (show _ = Value.bool _ from rfl) rfl
  ·
   intro hg2
   replace hg2 := qb hg2
   refine qaa ?_
   refine qbn ?_
   exact qai
  intro junk2
  refine qah ?_
  apply LJ_and (G := [_, _]) (j := 5) (cj := 28) rfl rfl (by rfl) rfl (show _ = Value.bool _ from rfl) rfl
  ·
   intro hg6
   replace hg6 := qb hg6
   refine qaa ?_
   refine qbx ?_
   exact qai
  intro junk6
  refine qaz ?_
  refine qa0 ?_
  refine q_b (L' := L) (R' := R) ?_
  refine ⟨?_, rfl, rfl⟩
  rw [rightR, show decide (1 ≤ l.l.length ∧ l.l.length ≤ 64) = true from decide_eq_true (by omega)]
  cases b with
  | false => rw [hP.no rfl]; rfl
  | true =>
    rw [hP.yes rfl]
    refine congrArg Value.bool ?_
    rw [Bool.eq_iff_iff]
    simp
theorem ruleErr_of {l : List XNode} {n : Nat} (h : rightR l = true) (k : Nat) (hk : k < l.length) (h1 : (l.getD k default).kind = 1) (h2 : (n : Int) ≤ (l.getD k default).cond) : ruleErr l n = 1 := by
  rw [ruleErr, if_neg (by rw [h]; decide), if_pos ⟨_, List.mem_of_getElem? (get_D default hk), h1, h2⟩]
theorem ruleErr_none {l : List XNode} {n : Nat} (h : rightR l = true) (hk : ∀ k : Nat, k < l.length → ¬ ((l.getD k default).kind = 1 ∧ (n : Int) ≤ (l.getD k default).cond)) : ruleErr l n = 0 := by
  rw [ruleErr, if_neg (by rw [h]; decide), if_neg]
  rintro ⟨x, hx, h1, h2⟩
  obtain ⟨k, hk', rfl⟩ := List.mem_iff_getElem.1 hx
  have e : l.getD k default = l[k] := by rw [List.getD_eq_getElem?_getD, List.getElem?_eq_getElem hk']; rfl
  exact hk k hk' (by rw [e]; exact ⟨h1, h2⟩)
theorem rlCheck_tri (l : Arr XNode) (n : Nat) (L : List Blk) (R : List Sl) (hl : InR (ndsl l) R) :
    Tri Try.prog 95 [l.val, .int .i64 (n : Int)].toArray L R (fun v L' R' => v = .int .i64 (ruleErr l.l n) ∧ L = L' ∧ R = R') := by
  refine tri_enter 26 Try.call95 Try.func95 rfl rfl rfl ?_
  refine qae ?_
  refine qad ?_
  refine qaw ?_
  refine qbm ?_
  refine q_l rfl (rlRight_tri l _ _ hl) ?_
  refine qb4 ?_
  refine qaf ?_
  refine q_c (fun hc0 => ?_) (fun hc0 => ?_)
  ·
   refine qae ?_
   refine qad ?_
   refine qbh ?_
   refine q_i (L' := L) (R' := R) ?_
   exact ⟨by rw [ruleErr, if_pos (by simpa using hc0)], rfl, rfl⟩
  have hr : rightR l.l = true := by simpa using hc0
  have hln := (rightR_iff.1 hr).1
  refine qbo ?_
  refine qbm ?_
  refine qag ?_
  refine qaa ?_
  refine qa2 ?_
  refine CJ_forget [(1, Value.int _ _), (10, Value.slice _ _ _), (11, Value.int _ _), (12, Value.int _ _)] (by repeat' (first | exact trivial | refine And.intro rfl ?_)) fun tq0 => ?_
  refine q_s [4, 6, 12, 13, 14, 15, 16, 17, 18, 19, 20, 21, 22, 23, 24, 25] (fun g : {k : Nat // k ≤ l.l.length ∧ ∀ j : Nat, j < k → ¬ ((l.l.getD j default).kind = 1 ∧ (n : Int) ≤ (l.l.getD j default).cond)} => [(12, .int .i64 ((g.1 : Nat) : Int))]) (fun g => l.l.length - g.1) (⟨0, by omega, fun j hj => by omega⟩) ?_
  rintro ⟨k, hk, hal⟩ junk
  try dsimp only
  refine qae ?_
  refine qaj ?_
  refine qa4 ?_
  refine q_c (fun hc1 => ?_) (fun hc1 => ?_)
  ·
   have h1 := get_D (l := l.l) (k := k) default (by omega)
   refine qbb ?_
   refine LJ_q (by first | exact yv_index_ro tb rfl rfl rfl rfl (by first | assumption | exact zr (by simp)) (i := k) (by first | rfl | omega | (simp; omega)) (by omega) | exact yv_index tb rfl rfl rfl rfl (i := k) (by first | rfl | omega | (simp; omega)) (by omega)) rfl ?_
   refine qdr ?_
   refine qaq ?_
   intro b6
   refine qak ?_
   refine qam ?_
   refine qab ?_
   refine qac ?_
   refine qbn ?_
   refine qah ?_
   apply LJ_and (G := [_, _, _, _]) (j := 3) (cj := 19) rfl rfl (by rfl) rfl (show _ = Value.bool _ from rfl) rfl
   ·
    intro hg4
    replace hg4 := qb hg4
    refine qab ?_
    refine qac ?_
    refine qaa ?_
    refine qbz ?_
    exact qai
   intro junk4
   refine qaf ?_
   refine q_c (fun hc2 => ?_) (fun hc2 => ?_)
   ·
    refine qae ?_
    refine qad ?_
    refine qbt ?_
    refine q_i (L' := L) (R' := R) ?_
    exact ⟨by rw [ruleErr_of hr k (by omega) hc2.1 hc2.2], rfl, rfl⟩
   refine qbj ?_
   refine qar ?_
   refine qaa ?_
   refine qav ?_
   exact loopK_mk (⟨k + 1, by omega, fun j hj => by
   rcases Nat.lt_or_ge j k with h | h
   · exact hal j h
   · obtain rfl : j = k := by omega
     omega⟩) (by repeat (first | exact Off.refl | apply Off.upd rfl | apply Off.havoc rfl | apply Off.updL rfl | apply Off.left rfl)) (by repeat' (first | exact trivial | refine And.intro rfl ?_)) (by repeat (first | exact zs0 _ | exact zs1 _ | apply zs2 | apply zs3 | apply zs4 | apply zs5)) (allR_self _) (by dsimp only; omega)
  refine qbk ?_
  refine qad ?_
  refine qa0 ?_
  refine q_i (L' := L) (R' := R) ?_
  exact ⟨by rw [ruleErr_none hr (fun j hj => hal j (by omega))], rfl, rfl⟩
end Go.Proofs.Ytkpfjmibipblhaa
end
