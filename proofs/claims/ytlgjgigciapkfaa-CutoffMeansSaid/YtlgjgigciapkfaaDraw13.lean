import Derived.Test.YtlgjgigciapkfaaLaw10a
import Derived.Test.YtlgjgigciapkfaaComp
import Derived.Test.YtlgjgigciapkfaaFits
import Derived.Test.YtlgjgigciapkfaaFans
section
/-
  Statements about chapter 11: what they share. By an AI agent; no person has read it.
-/
set_option linter.unusedSimpArgs false
set_option linter.unusedVariables false
namespace Go.Proofs.Ytlgjgigciapkfaa
open Go.Aw Go
set_option maxRecDepth 20000
attribute [local irreducible] CJ LJ DJ Tri YV Gives seqK blockK loopK retK RV mergeK OwL.L

end Go.Proofs.Ytlgjgigciapkfaa
end
section
/-
  Statements about chapter 11: errors; bounds as arguments. By an AI agent; no person has read it.
-/
set_option linter.unusedSimpArgs false
set_option linter.unusedVariables false
namespace Go.Proofs.Ytlgjgigciapkfaa
open Go.Aw Go
set_option maxRecDepth 20000
attribute [local irreducible] CJ LJ DJ Tri YV Gives seqK blockK loopK retK RV mergeK OwL.L

theorem airy_ex (m : XMine) : ∃ A, AiryIs m A := by
  refine ⟨(List.range (surf m).length).map fun i => @decide (∃ j : Nat, j < (surf m).length ∧ (surf m).getD j false = true ∧ Conn m j i) (Classical.propDecidable _), by simp, fun i hi => ?_⟩
  rw [List.getD_eq_getElem?_getD, List.getElem?_map, List.getElem?_range hi]
  exact ⟨fun h => @of_decide_eq_true _ (Classical.propDecidable _) h, fun h => @decide_eq_true _ (Classical.propDecidable _) h⟩

end Go.Proofs.Ytlgjgigciapkfaa
end
section
/-
  Flows and measurements: airflow.Narrow, airflow.Tighten. By an AI agent; no person has read it.
-/
set_option linter.unusedSimpArgs false
set_option linter.unusedVariables false
namespace Go.Proofs.Ytlgjgigciapkfaa
open Go.Aw Go
set_option maxRecDepth 20000
attribute [local irreducible] CJ LJ DJ Tri YV Gives seqK blockK loopK retK RV mergeK OwL.L

def narFor (n : Nat) (kind : Int) (l : List XSens) (x : XMeas) : Prop := (0 ≤ x.sensor ∧ x.sensor < l.length) ∧ (l.getD x.sensor.toNat default).kind = kind ∧ 0 ≤ (l.getD x.sensor.toNat default).target ∧ (l.getD x.sensor.toNat default).target < n
instance (n : Nat) (kind : Int) (l : List XSens) (x : XMeas) : Decidable (narFor n kind l x) := by unfold narFor; infer_instance
end Go.Proofs.Ytlgjgigciapkfaa
end
section
/-
  Sites: thresholds, rules, conditions, zones, what they are by the document. Plain. By an AI agent; no person has read it.
-/
set_option linter.unusedSimpArgs false
set_option linter.unusedVariables false
namespace Go.Proofs.Ytlgjgigciapkfaa
open Go.Aw Go

structure XNode where
  kind : Int
  cond : Int
  left : Int
  right : Int
  deriving Inhabited
def XNode.cells (x : XNode) : List Value := [.int .i64 x.kind, .int .i64 x.cond, .int .i64 x.left, .int .i64 x.right]
structure XLevel where
  cut : Int
  clear : Int
  delay : Int
  deriving Inhabited
abbrev XLevel.val (x : XLevel) : Value := .agg #[.int .i64 x.cut, .int .i64 x.clear, .int .i64 x.delay]
structure XCond where
  kind : Int
  target : Int
  value : Int
  level : XLevel
  deriving Inhabited
def XCond.cells (x : XCond) : List Value := [.int .i64 x.kind, .int .i64 x.target, .int .i64 x.value, .int .i64 x.level.cut, .int .i64 x.level.clear, .int .i64 x.level.delay]
abbrev XCond.val (x : XCond) : Value := .agg #[.int .i64 x.kind, .int .i64 x.target, .int .i64 x.value, .int .i64 x.level.cut, .int .i64 x.level.clear, .int .i64 x.level.delay]
structure XZone where
  rule : Arr XNode
  hold : Int
  roads : Arr Int
  fresh : Int
  deriving Inhabited
def XZone.cells (x : XZone) : List Value := [x.rule.val, .int .i64 x.hold, x.roads.val, .int .i64 x.fresh]
abbrev XZone.val (x : XZone) : Value := .agg #[x.rule.val, .int .i64 x.hold, x.roads.val, .int .i64 x.fresh]
structure XWatch where
  over : Bool
  since : Int
  last : Int
  deriving Inhabited, DecidableEq
def XWatch.cells (x : XWatch) : List Value := [.bool x.over, .int .i64 x.since, .int .i64 x.last]
abbrev XWatch.val (x : XWatch) : Value := .agg #[.bool x.over, .int .i64 x.since, .int .i64 x.last]
structure XCut where
  off : Bool
  clear : Int
  reason : Int
  deriving Inhabited, DecidableEq
def XCut.cells (x : XCut) : List Value := [.bool x.off, .int .i64 x.clear, .int .i64 x.reason]
structure XSite where
  air : XAir
  sensors : Arr XSens
  conds : Arr XCond
  zones : Arr XZone
  persons : Arr Int
def XSite.cells (x : XSite) : List Value := [x.air.mine.places.val, x.air.mine.roads.val, x.air.fans.val, x.air.doors.val, x.sensors.val, x.conds.val, x.zones.val, x.persons.val]
abbrev XSite.val (x : XSite) : Value := .agg #[x.air.mine.places.val, x.air.mine.roads.val, x.air.fans.val, x.air.doors.val, x.sensors.val, x.conds.val, x.zones.val, x.persons.val]
abbrev ndsl (x : Arr XNode) : Sl := x.sl 4 XNode.cells []
abbrev cnsl (x : Arr XCond) : Sl := x.sl 6 XCond.cells []
abbrev XZone.subs (z : XZone) : List Sl := [ndsl z.rule, isl z.roads]
abbrev zosl (x : Arr XZone) : Sl := x.sl 4 XZone.cells (x.l.flatMap XZone.subs)
abbrev wasl (x : Arr XWatch) : Sl := x.sl 3 XWatch.cells []
abbrev cusl (x : Arr XCut) : Sl := x.sl 3 XCut.cells []
theorem InR.rule {x : Arr XZone} {R : List Sl} (h : InR (zosl x) R) {i : Nat} {z : XZone} (hi : x.l[i]? = some z) : InR (ndsl z.rule) R :=
  h.sub (.deep (List.mem_flatMap.2 ⟨z, List.mem_of_getElem? hi, List.mem_cons_self⟩) .here)
theorem InR.zroads {x : Arr XZone} {R : List Sl} (h : InR (zosl x) R) {i : Nat} {z : XZone} (hi : x.l[i]? = some z) : InR (isl z.roads) R :=
  h.sub (.deep (List.mem_flatMap.2 ⟨z, List.mem_of_getElem? hi, List.mem_cons_of_mem _ List.mem_cons_self⟩) .here)
structure SiteR (s : XSite) (R : List Sl) : Prop where
  air : AirR s.air R
  sensors : InR (sesl s.sensors) R
  conds : InR (cnsl s.conds) R
  zones : InR (zosl s.zones) R
  persons : InR (isl s.persons) R
theorem SiteR.mono {s : XSite} {R R' : List Sl} (h : SiteR s R) (k : ∀ r ∈ R, InR r R') : SiteR s R' :=
  ⟨⟨h.air.places.mono k, h.air.roads.mono k, h.air.fans.mono k, h.air.doors.mono k⟩, h.sensors.mono k, h.conds.mono k, h.zones.mono k, h.persons.mono k⟩

def LevelOk (l : XLevel) : Prop := l.cut ≤ 1000000 ∧ 0 ≤ l.clear ∧ l.clear < l.cut ∧ 0 ≤ l.delay ∧ l.delay ≤ 100000
instance (l : XLevel) : Decidable (LevelOk l) := by unfold LevelOk; infer_instance
def levelErr (l : XLevel) : Int := if LevelOk l then 0 else 1
def aboveS (x : XSpan) (n : Int) : Int := if x.high < x.low then 0 else if n ≤ x.low then 1 else if x.high < n then -1 else 0
def WatchOk (w : XWatch) : Prop := 0 ≤ w.last ∧ -1 ≤ w.since ∧ w.since ≤ w.last ∧ (w.since = -1 ∨ w.over = true)
instance (w : XWatch) : Decidable (WatchOk w) := by unfold WatchOk; infer_instance
def stepTo (l : XLevel) (w : XWatch) (x : XSpan) (t : Int) : XWatch :=
  if aboveS x l.cut ≠ -1 then ⟨true, -1, t⟩
  else if w.over = false then ⟨false, w.since, t⟩
  else if l.clear < x.high then ⟨true, -1, t⟩
  else if l.delay ≤ t - (if w.since < 0 then t else w.since) then ⟨false, -1, t⟩
  else ⟨true, if w.since < 0 then t else w.since, t⟩
def stepErr (l : XLevel) (w : XWatch) (t : Int) : Int :=
  if ¬ LevelOk l then 1 else if t < 0 ∨ 2147483648 < t ∨ t < w.last then 8 else if ¬ WatchOk w then 10 else 0
def noWatch : XWatch := ⟨false, 0, 0⟩
def stepS (l : XLevel) (w : XWatch) (x : XSpan) (t : Int) : XWatch := if stepErr l w t = 0 then stepTo l w x t else noWatch

def partF (l : List XNode) : Nat → Int → Option (Int × Int)
  | 0, _ => none
  | n + 1, i =>
    if i < 0 then none
    else if (l.getD i.toNat default).kind = 1 then
      if (l.getD i.toNat default).left = 0 ∧ (l.getD i.toNat default).right = 0 ∧ 0 ≤ (l.getD i.toNat default).cond ∧ (l.getD i.toNat default).cond < 64 then some (i, 1) else none
    else if (l.getD i.toNat default).kind = 2 then
      match partF l n (i - 1) with
      | none => none
      | some (f, d) => if (l.getD i.toNat default).cond = 0 ∧ (l.getD i.toNat default).right = 0 ∧ (l.getD i.toNat default).left = i - 1 then some (f, d + 1) else none
    else if (l.getD i.toNat default).kind = 3 ∨ (l.getD i.toNat default).kind = 4 then
      match partF l n (i - 1) with
      | none => none
      | some (m, r) => if (l.getD i.toNat default).cond = 0 ∧ (l.getD i.toNat default).right = i - 1 ∧ (l.getD i.toNat default).left = m - 1 then
          match partF l n (m - 1) with
          | none => none
          | some (f, q) => some (f, max q r + 1) else none
    else none
def rightR (l : List XNode) : Bool :=
  decide (1 ≤ l.length ∧ l.length ≤ 64) && (match partF l l.length ((l.length : Int) - 1) with
    | none => false
    | some (f, d) => decide (f = 0 ∧ d ≤ 16))
def ruleErr (l : List XNode) (n : Nat) : Int := if rightR l = false then 18 else if ∃ x ∈ l, x.kind = 1 ∧ (n : Int) ≤ x.cond then 1 else 0
def condV (vals : List Int) (c : Int) : Int := if c < vals.length ∧ -1 ≤ vals.getD c.toNat 0 ∧ vals.getD c.toNat 0 ≤ 1 then vals.getD c.toNat 0 else 0
def nodeV (vals v : List Int) (x : XNode) : Int :=
  if x.kind = 1 then condV vals x.cond else if x.kind = 2 then -(v.getD x.left.toNat 0)
  else if x.kind = 3 then min (v.getD x.left.toNat 0) (v.getD x.right.toNat 0) else max (v.getD x.left.toNat 0) (v.getD x.right.toNat 0)
def evalTo (l : List XNode) (vals : List Int) : Nat → List Int
  | 0 => []
  | k + 1 => evalTo l vals k ++ [nodeV vals (evalTo l vals k) (l.getD k default)]
def evalS (l : List XNode) (vals : List Int) : Int := if rightR l = true then (evalTo l vals l.length).getD (l.length - 1) 0 else 0

def sensOf (a : XAir) (s : XSens) : Int := if s.kind = 5 then (a.fans.l.length : Int) else if s.kind = 6 then (a.doors.l.length : Int) else (a.mine.roads.l.length : Int)
def sensAt (a : XAir) (S : List XSens) (i : Nat) : Option Int :=
  if sensErr (S.getD i default) ≠ 0 then some (sensErr (S.getD i default))
  else if ¬ (0 ≤ (S.getD i default).target ∧ (S.getD i default).target < sensOf a (S.getD i default)) then some 9
  else if ∃ k : Nat, k < i ∧ (S.getD k default).address = (S.getD i default).address then some 9 else none
def sensorsErr (a : XAir) (S : List XSens) : Int := ((List.range S.length).findSome? (sensAt a S)).getD 0
def condBase (S : List XSens) (n : Nat) (c : XCond) : Int :=
  if c.kind = 1 ∨ c.kind = 2 ∨ c.kind = 4 then if 0 ≤ c.target ∧ c.target < S.length then 0 else 9
  else if c.kind = 3 then if (0 ≤ c.target ∧ c.target < S.length) ∧ (S.getD c.target.toNat default).kind = 5 then 0 else 9
  else if c.kind = 5 then if 0 ≤ c.target ∧ c.target < n then 0 else 4
  else 5
def condErr (S : List XSens) (n : Nat) (c : XCond) : Int :=
  if condBase S n c ≠ 0 then condBase S n c else if c.value < 0 ∨ 1099511627776 < c.value then 1 else if c.kind = 1 then levelErr c.level else 0
def roadBad (n : Nat) (l : List Int) (i : Nat) : Prop := ¬ (0 ≤ l.getD i 0 ∧ l.getD i 0 < n) ∨ (0 < i ∧ l.getD i 0 ≤ l.getD (i - 1) 0)
instance (n : Nat) (l : List Int) (i : Nat) : Decidable (roadBad n l i) := by unfold roadBad; infer_instance
def zoneErr (conds n : Nat) (z : XZone) : Int :=
  if ruleErr z.rule.l conds ≠ 0 then ruleErr z.rule.l conds else if z.hold < 0 ∨ 100000 < z.hold ∨ z.fresh < 0 ∨ 100 < z.fresh then 1
  else if ∃ i : Nat, i < z.roads.l.length ∧ roadBad n z.roads.l i then 4 else 0
def nzO (e : Int) : Option Int := if e = 0 then none else some e
def condsErr (s : XSite) : Int := (s.conds.l.findSome? fun c => nzO (condErr s.sensors.l s.air.mine.roads.l.length c)).getD 0
def zonesErr (s : XSite) : Int := (s.zones.l.findSome? fun z => nzO (zoneErr s.conds.l.length s.air.mine.roads.l.length z)).getD 0
def personsErr (s : XSite) : Int := (s.persons.l.findSome? fun p => if p < 1 ∨ 3 < p then some 19 else none).getD 0
def siteErr (s : XSite) : Int :=
  if airErr s.air ≠ 0 then airErr s.air
  else if 64 < s.sensors.l.length ∨ 64 < s.conds.l.length ∨ 16 < s.zones.l.length ∨ 64 < s.persons.l.length then 2
  else if sensorsErr s.air s.sensors.l ≠ 0 then sensorsErr s.air s.sensors.l
  else if condsErr s ≠ 0 then condsErr s
  else if zonesErr s ≠ 0 then zonesErr s
  else personsErr s

def knownS (S : List XSens) (m : List XMeas) (n t : Int) : XSpan :=
  if (0 ≤ n ∧ n < S.length) ∧ n < m.length ∧ (m.getD n.toNat default).sensor = n then atS (S.getD n.toNat default) (m.getD n.toNat default) t else nothingS
def stoppedS (x : XSpan) : Int := if x.high < x.low then 0 else if x.low = 1 ∧ x.high = 1 then -1 else if 1 < x.low ∨ x.high < 1 then 1 else 0
def valueE (c : XCond) (w : XWatch) (t : Int) : Int := if c.kind = 1 then stepErr c.level w t else 0
def valueV (S : List XSens) (m : List XMeas) (fl : List XSpan) (c : XCond) (w : XWatch) (t : Int) : Int :=
  if c.kind = 5 then -(fedAt fl ⟨c.target, c.value⟩)
  else if c.kind = 2 then -(aboveS (knownS S m c.target t) c.value)
  else if c.kind = 3 then stoppedS (knownS S m c.target t)
  else if c.kind = 4 then if knownS S m c.target t = nothingS then 1 else -1
  else if (stepTo c.level w (knownS S m c.target t) t).over = false then -1
  else if aboveS (knownS S m c.target t) c.level.cut = 1 then 1 else 0
def valueW (S : List XSens) (m : List XMeas) (c : XCond) (w : XWatch) (t : Int) : XWatch := if c.kind = 1 then stepTo c.level w (knownS S m c.target t) t else w
def valuesErr (s : XSite) (m : List XMeas) (w : List XWatch) (fl : List XSpan) (t : Int) : Int :=
  if siteErr s ≠ 0 then siteErr s
  else if ¬ (m.length = s.sensors.l.length ∧ w.length = s.conds.l.length ∧ fl.length = s.air.mine.roads.l.length) then 11
  else if t < 0 ∨ 2147483648 < t then 8
  else ((List.range w.length).findSome? fun i => nzO (valueE (s.conds.l.getD i default) (w.getD i default) t)).getD 0
def valuesV (s : XSite) (m : List XMeas) (w : List XWatch) (fl : List XSpan) (t : Int) : List Int :=
  if valuesErr s m w fl t ≠ 0 then [] else (List.range w.length).map fun i => valueV s.sensors.l m fl (s.conds.l.getD i default) (w.getD i default) t
def valuesW (s : XSite) (m : List XMeas) (w : List XWatch) (fl : List XSpan) (t : Int) : List XWatch :=
  if valuesErr s m w fl t ≠ 0 then [] else (List.range w.length).map fun i => valueW s.sensors.l m (s.conds.l.getD i default) (w.getD i default) t

def cutsErr (s : XSite) (v : List Int) (c : List XCut) (t : Int) : Int :=
  if siteErr s ≠ 0 then siteErr s else if ¬ (v.length = s.conds.l.length ∧ c.length = s.zones.l.length) then 11 else if t < 0 ∨ 2147483648 < t then 8 else 0
def cutV (v : Int) (c : XCut) (t : Int) : XCut :=
  if v = -1 then if c.clear = -1 then ⟨c.off, t, c.reason⟩ else c else if c.off = true then ⟨true, -1, c.reason⟩ else ⟨true, -1, v⟩
def cutAt (s : XSite) (v : List Int) (c : List XCut) (t : Int) (i : Nat) : XCut := cutV (evalS (s.zones.l.getD i default).rule.l v) (c.getD i default) t
def nowTo (s : XSite) (v : List Int) (c : List XCut) : Nat → List Int
  | 0 => []
  | k + 1 => if evalS (s.zones.l.getD k default).rule.l v ≠ -1 ∧ (c.getD k default).off = false then nowTo s v c k ++ [(k : Int)] else nowTo s v c k
def cutsC (s : XSite) (v : List Int) (c : List XCut) (t : Int) : List XCut := if cutsErr s v c t ≠ 0 then [] else (List.range c.length).map (cutAt s v c t)
def cutsN (s : XSite) (v : List Int) (c : List XCut) (t : Int) : List Int := if cutsErr s v c t ≠ 0 then [] else nowTo s v c c.length
end Go.Proofs.Ytlgjgigciapkfaa
end
section
/-
  Rules: what a right one is, and what more knowledge does to its value. Plain. By an AI agent; no person has read it.
-/
set_option linter.unusedSimpArgs false
set_option linter.unusedVariables false
namespace Go.Proofs.Ytlgjgigciapkfaa
open Go.Aw Go
def NodeOk (l : List XNode) (j : Nat) : Prop :=
  ((l.getD j default).kind = 1 ∧ 0 ≤ (l.getD j default).cond ∧ (l.getD j default).cond < 64) ∨
  ((l.getD j default).kind = 2 ∧ 1 ≤ j ∧ (l.getD j default).left = (j : Int) - 1) ∨
  (((l.getD j default).kind = 3 ∨ (l.getD j default).kind = 4) ∧ 1 ≤ j ∧ (l.getD j default).right = (j : Int) - 1 ∧ 0 ≤ (l.getD j default).left ∧ (l.getD j default).left < (j : Int))
theorem partF_ok {l : List XNode} : ∀ (n : Nat) (i f d : Int), partF l n i = some (f, d) → (0 ≤ f ∧ f ≤ i) ∧ (1 ≤ d ∧ d ≤ n) ∧ ∀ j : Nat, f ≤ (j : Int) → (j : Int) ≤ i → NodeOk l j
  | 0, i, f, d, h => by rw [partF] at h; cases h
  | n + 1, i, f, d, h => by
    rw [partF] at h
    split at h
    · cases h
    rename_i hi
    have at_i : ∀ j : Nat, (j : Int) = i → l.getD j default = l.getD i.toNat default := fun j hj => by rw [← hj, Int.toNat_natCast]
    split at h
    · rename_i h1
      split at h
      · rename_i h2
        cases h
        refine ⟨by omega, by omega, fun j j1 j2 => ?_⟩
        have hj := at_i j (by omega)
        rw [NodeOk, hj]
        exact .inl ⟨h1, h2.2.2.1, h2.2.2.2⟩
      · cases h
    split at h
    · rename_i h1
      split at h
      · cases h
      rename_i f' d' hp
      split at h
      · rename_i h2
        cases h
        obtain ⟨i1, i2, i3⟩ := partF_ok n _ _ _ hp
        refine ⟨by omega, by omega, fun j j1 j2 => ?_⟩
        by_cases hj : (j : Int) = i
        · have hj' := at_i j hj
          rw [NodeOk, hj']
          exact .inr (.inl ⟨h1, by omega, by omega⟩)
        · exact i3 j j1 (by omega)
      · cases h
    split at h
    · rename_i h1
      split at h
      · cases h
      rename_i m r hp
      split at h
      · rename_i h2
        split at h
        · cases h
        rename_i f' q hq
        cases h
        obtain ⟨i1, i2, i3⟩ := partF_ok n _ _ _ hp
        obtain ⟨k1, k2, k3⟩ := partF_ok n _ _ _ hq
        refine ⟨by omega, by omega, fun j j1 j2 => ?_⟩
        by_cases hj : (j : Int) = i
        · have hj' := at_i j hj
          rw [NodeOk, hj']
          exact .inr (.inr ⟨h1, by omega, by omega, by omega, by omega⟩)
        · rcases Int.lt_or_le (j : Int) m with hm | hm
          · exact k3 j j1 (by omega)
          · exact i3 j hm (by omega)
      · cases h
    · cases h
theorem partF_mono {l : List XNode} : ∀ (n m : Nat) (i : Int) (x : Int × Int), n ≤ m → partF l n i = some x → partF l m i = some x
  | 0, _, i, x, _, h => by rw [partF] at h; cases h
  | n + 1, 0, i, x, hnm, h => by omega
  | n + 1, m + 1, i, x, hnm, h => by
    rw [partF] at h ⊢
    split at h
    · cases h
    rename_i hi
    rw [if_neg hi]
    split at h
    · rename_i h1; rw [if_pos h1]; exact h
    rename_i h1
    rw [if_neg h1]
    split at h
    · rename_i h2
      rw [if_pos h2]
      split at h
      · cases h
      rename_i f' d' hp
      rw [partF_mono n m _ _ (by omega) hp]
      exact h
    rename_i h2
    rw [if_neg h2]
    split at h
    · rename_i h3
      rw [if_pos h3]
      split at h
      · cases h
      rename_i a b hp
      rw [partF_mono n m _ _ (by omega) hp]
      dsimp only
      split at h
      · rename_i h4
        rw [if_pos h4]
        split at h
        · cases h
        rename_i a' b' hq
        rw [partF_mono n m _ _ (by omega) hq]
        exact h
      · cases h
    · cases h
theorem rightR_iff {l : List XNode} : rightR l = true ↔ (1 ≤ l.length ∧ l.length ≤ 64) ∧ ∃ d, partF l l.length ((l.length : Int) - 1) = some (0, d) ∧ d ≤ 16 := by
  rw [rightR, Bool.and_eq_true, decide_eq_true_eq]
  constructor
  · rintro ⟨h1, h2⟩
    refine ⟨h1, ?_⟩
    split at h2
    · cases h2
    · rename_i f d hp
      simp only [decide_eq_true_eq] at h2
      obtain ⟨rfl, hd⟩ := h2
      exact ⟨d, hp, hd⟩
  · rintro ⟨h1, d, hp, hd⟩
    refine ⟨h1, ?_⟩
    rw [hp]
    simpa using hd
theorem right_nodes {l : List XNode} (h : rightR l = true) (j : Nat) (hj : j < l.length) : NodeOk l j := by
  obtain ⟨h1, d, hp, _⟩ := rightR_iff.1 h
  exact (partF_ok _ _ _ _ hp).2.2 j (by omega) (by omega)

theorem evalTo_len {l : List XNode} {vals : List Int} : ∀ k, (evalTo l vals k).length = k
  | 0 => rfl
  | k + 1 => by rw [evalTo, List.length_append, evalTo_len k]; rfl
theorem evalTo_get {l : List XNode} {vals : List Int} : ∀ {k j : Nat}, j < k → (evalTo l vals k).getD j 0 = nodeV vals (evalTo l vals j) (l.getD j default)
  | 0, j, h => by omega
  | k + 1, j, h => by
    have hl := evalTo_len (l := l) (vals := vals) k
    rw [evalTo, List.getD_eq_getElem?_getD]
    rcases Nat.lt_or_ge j k with h1 | h1
    · rw [List.getElem?_append_left (by omega), ← List.getD_eq_getElem?_getD]
      exact evalTo_get h1
    · obtain rfl : j = k := by omega
      rw [List.getElem?_append_right (by omega), hl, Nat.sub_self]
      rfl
def Kl (a b : Int) : Prop := (-1 ≤ a ∧ a ≤ 1) ∧ (-1 ≤ b ∧ b ≤ 1) ∧ (a = 0 ∨ a = b)
theorem nodeV_kl {vals vals' v v' : List Int} {x : XNode} (hn : vals.length = vals'.length) (hv : ∀ j : Nat, vals.getD j 0 = 0 ∨ vals.getD j 0 = vals'.getD j 0) (hr : ∀ j : Nat, -1 ≤ vals'.getD j 0 ∧ vals'.getD j 0 ≤ 1) (h : ∀ j : Nat, Kl (v.getD j 0) (v'.getD j 0)) : Kl (nodeV vals v x) (nodeV vals' v' x) := by
  have h1 := h x.left.toNat
  have h2 := h x.right.toNat
  rw [Kl] at h1 h2
  rw [nodeV, nodeV]
  split
  · have h3 := hv x.cond.toNat
    have h4 := hr x.cond.toNat
    rw [condV, condV, ← hn, Kl]
    split <;> split <;> omega
  split
  · rw [Kl]; omega
  split
  · rw [Kl]; omega
  · rw [Kl]; omega
theorem evalTo_kl {l : List XNode} {vals vals' : List Int} (hn : vals.length = vals'.length) (hv : ∀ j : Nat, vals.getD j 0 = 0 ∨ vals.getD j 0 = vals'.getD j 0) (hr : ∀ j : Nat, -1 ≤ vals'.getD j 0 ∧ vals'.getD j 0 ≤ 1) : ∀ k j : Nat, Kl ((evalTo l vals k).getD j 0) ((evalTo l vals' k).getD j 0)
  | 0, j => by rw [evalTo, evalTo]; simp [Kl]
  | k + 1, j => by
    have hl := evalTo_len (l := l) (vals := vals) k
    have hl' := evalTo_len (l := l) (vals := vals') k
    rcases Nat.lt_or_ge j (k + 1) with h1 | h1
    · rw [evalTo_get h1, evalTo_get h1]
      rcases Nat.lt_or_ge j k with h2 | h2
      · have := evalTo_kl (l := l) hn hv hr k j
        rw [evalTo_get h2, evalTo_get h2] at this
        exact this
      · obtain rfl : j = k := by omega
        exact nodeV_kl hn hv hr (evalTo_kl hn hv hr j)
    · have e1 : (evalTo l vals (k + 1)).length = k + 1 := evalTo_len _
      have e2 : (evalTo l vals' (k + 1)).length = k + 1 := evalTo_len _
      rw [List.getD_eq_getElem?_getD, List.getD_eq_getElem?_getD, List.getElem?_eq_none (by omega), List.getElem?_eq_none (by omega)]
      simp [Kl]
theorem nodeV_range {vals v : List Int} {x : XNode} (h : ∀ j : Nat, -1 ≤ v.getD j 0 ∧ v.getD j 0 ≤ 1) : -1 ≤ nodeV vals v x ∧ nodeV vals v x ≤ 1 := by
  have h1 := h x.left.toNat
  have h2 := h x.right.toNat
  rw [nodeV]
  split
  · rw [condV]; split <;> omega
  split
  · omega
  split <;> omega
theorem evalTo_range {l : List XNode} {vals : List Int} : ∀ k j : Nat, -1 ≤ (evalTo l vals k).getD j 0 ∧ (evalTo l vals k).getD j 0 ≤ 1
  | 0, j => by rw [evalTo]; simp
  | k + 1, j => by
    rcases Nat.lt_or_ge j (k + 1) with h1 | h1
    · rw [evalTo_get h1]
      rcases Nat.lt_or_ge j k with h2 | h2
      · have := evalTo_range (l := l) (vals := vals) k j
        rw [evalTo_get h2] at this
        exact this
      · obtain rfl : j = k := by omega
        exact nodeV_range (evalTo_range j)
    · have e1 : (evalTo l vals (k + 1)).length = k + 1 := evalTo_len _
      rw [List.getD_eq_getElem?_getD, List.getElem?_eq_none (by omega)]
      simp
end Go.Proofs.Ytlgjgigciapkfaa
end
section
/-
  Rules that are put together are right. Plain. By an AI agent; no person has read it.
-/
set_option linter.unusedSimpArgs false
set_option linter.unusedVariables false
namespace Go.Proofs.Ytlgjgigciapkfaa
open Go.Aw Go
def shN (n : Nat) (x : XNode) : XNode := ⟨x.kind, x.cond, if x.kind = 1 then x.left else x.left + n, if x.kind = 3 ∨ x.kind = 4 then x.right + n else x.right⟩
theorem getD_pre {l m : List XNode} {i : Nat} (h : i < l.length) : (l ++ m).getD i default = l.getD i default := by
  rw [List.getD_eq_getElem?_getD, List.getElem?_append_left h, ← List.getD_eq_getElem?_getD]
theorem partF_pre {a c : List XNode} : ∀ (n : Nat) (i f d : Int), i < a.length → partF a n i = some (f, d) → partF (a ++ c) n i = some (f, d)
  | 0, i, f, d, _, h => by rw [partF] at h; cases h
  | n + 1, i, f, d, hi, h => by
    rw [partF] at h ⊢
    split at h
    · cases h
    rename_i h0
    rw [if_neg h0, getD_pre (by omega)]
    split at h
    · rename_i h1; rw [if_pos h1]; exact h
    rename_i h1
    rw [if_neg h1]
    split at h
    · rename_i h2
      rw [if_pos h2]
      split at h
      · cases h
      rename_i f' d' hp
      rw [partF_pre n _ _ _ (by omega) hp]
      exact h
    rename_i h2
    rw [if_neg h2]
    split at h
    · rename_i h3
      rw [if_pos h3]
      split at h
      · cases h
      rename_i x y hp
      rw [partF_pre n _ _ _ (by omega) hp]
      dsimp only
      split at h
      · rename_i h4
        rw [if_pos h4]
        split at h
        · cases h
        rename_i x' y' hq
        have := (partF_ok _ _ _ _ hp).1
        rw [partF_pre n _ _ _ (by omega) hq]
        exact h
      · cases h
    · cases h
theorem getD_sh {a b c : List XNode} {i : Nat} (h : i < b.length) : (a ++ b.map (shN a.length) ++ c).getD (a.length + i) default = shN a.length (b.getD i default) := by
  rw [getD_pre (by simp; omega), List.getD_eq_getElem?_getD, List.getElem?_append_right (by omega), Nat.add_sub_cancel_left, List.getElem?_map, get_D (l := b) (k := i) default h]
  rfl
theorem partF_sh {a b c : List XNode} : ∀ (n : Nat) (i f d : Int), i < b.length → partF b n i = some (f, d) → partF (a ++ b.map (shN a.length) ++ c) n (a.length + i) = some (a.length + f, d)
  | 0, i, f, d, _, h => by rw [partF] at h; cases h
  | n + 1, i, f, d, hi, h => by
    rw [partF] at h ⊢
    split at h
    · cases h
    rename_i h0
    rw [if_neg (by omega), show ((a.length : Int) + i).toNat = a.length + i.toNat by omega, getD_sh (by omega)]
    generalize b.getD i.toNat default = x at h ⊢
    split at h
    · rename_i h1
      have e1 : (shN a.length x).kind = 1 := h1
      rw [if_pos e1]
      split at h
      · rename_i h2
        rw [if_pos (by rw [shN, if_pos h1, if_neg (by omega)]; exact h2)]
        cases h
        rfl
      · cases h
    rename_i h1
    have e1 : ¬ (shN a.length x).kind = 1 := h1
    rw [if_neg e1]
    split at h
    · rename_i h2
      have e2 : (shN a.length x).kind = 2 := h2
      rw [if_pos e2]
      split at h
      · cases h
      rename_i f' d' hp
      have ih := partF_sh (a := a) (c := c) n _ _ _ (by omega) hp
      rw [show (a.length : Int) + i - 1 = a.length + (i - 1) by omega, ih]
      dsimp only
      split at h
      · rename_i h3
        rw [if_pos (by rw [shN, if_neg h1, if_neg (by omega)]; dsimp only; omega)]
        cases h
        rfl
      · cases h
    rename_i h2
    have e2 : ¬ (shN a.length x).kind = 2 := h2
    rw [if_neg e2]
    split at h
    · rename_i h3
      have e3 : (shN a.length x).kind = 3 ∨ (shN a.length x).kind = 4 := h3
      rw [if_pos e3]
      split at h
      · cases h
      rename_i m r hp
      have ih := partF_sh (a := a) (c := c) n _ _ _ (by omega) hp
      rw [show (a.length : Int) + i - 1 = a.length + (i - 1) by omega, ih]
      dsimp only
      split at h
      · rename_i h4
        rw [if_pos (by rw [shN, if_neg h1, if_pos h3]; dsimp only; omega)]
        split at h
        · cases h
        rename_i f' q hq
        have := (partF_ok _ _ _ _ hp).1
        have ih2 := partF_sh (a := a) (c := c) n _ _ _ (by omega) hq
        rw [show (a.length : Int) + m - 1 = a.length + (m - 1) by omega, ih2]
        dsimp only
        cases h
        rfl
      · cases h
    · cases h
def lenB : Nat → Nat
  | 0 => 1
  | n + 1 => 2 * lenB n + 1
structure RuleD (conds : Nat) (dp : Nat) (l : List XNode) : Prop where
  len : 1 ≤ l.length ∧ l.length ≤ lenB dp
  part : ∃ d : Int, partF l l.length ((l.length : Int) - 1) = some (0, d) ∧ d ≤ dp + 1
  conds : ∀ x ∈ l, x.kind = 1 → x.cond < conds
  kind : ∀ x ∈ l, 1 ≤ x.kind ∧ x.kind ≤ 4
  small : ∀ x ∈ l, (0 ≤ x.left ∧ x.left ≤ l.length) ∧ 0 ≤ x.right ∧ x.right ≤ l.length
theorem lenB_pos : ∀ n, 1 ≤ lenB n
  | 0 => Nat.le_refl _
  | n + 1 => by rw [lenB]; omega
theorem RuleD.leaf {conds dp : Nat} {k : Int} (hk : 0 ≤ k ∧ k < conds) (hc : conds ≤ 64) : RuleD conds dp [⟨1, k, 0, 0⟩] := by
  have := lenB_pos dp
  refine ⟨by simp; omega, ⟨1, ?_, by omega⟩, fun x hx _ => ?_, fun x hx => ?_, fun x hx => ?_⟩
  · have e : partF [⟨1, k, 0, 0⟩] 1 0 = some (0, 1) := by
      have e0 : ([⟨1, k, 0, 0⟩] : List XNode).getD (0 : Int).toNat default = ⟨1, k, 0, 0⟩ := rfl
      rw [partF, if_neg (by omega), e0, if_pos (show (⟨1, k, 0, 0⟩ : XNode).kind = 1 from rfl), if_pos (show (⟨1, k, 0, 0⟩ : XNode).left = 0 ∧ (⟨1, k, 0, 0⟩ : XNode).right = 0 ∧ 0 ≤ (⟨1, k, 0, 0⟩ : XNode).cond ∧ (⟨1, k, 0, 0⟩ : XNode).cond < 64 from ⟨rfl, rfl, hk.1, (by show k < 64; omega)⟩)]
    exact e
  · rw [List.mem_singleton.1 hx]; exact hk.2
  · rw [List.mem_singleton.1 hx]; dsimp only; omega
  · rw [List.mem_singleton.1 hx]; dsimp only; simp
theorem RuleD.neg {conds dp : Nat} {a : List XNode} (ha : RuleD conds dp a) : RuleD conds (dp + 1) (a ++ [⟨2, 0, (a.length : Int) - 1, 0⟩]) := by
  have hl := ha.len
  obtain ⟨d, hp, hd⟩ := ha.part
  refine ⟨by rw [List.length_append, lenB]; simp; omega, ⟨d + 1, ?_, by omega⟩, fun x hx hk => ?_, fun x hx => ?_, fun x hx => ?_⟩
  · rw [List.length_append, List.length_singleton, partF]
    rw [if_neg (by omega)]
    have e : (a ++ [(⟨2, 0, (a.length : Int) - 1, 0⟩ : XNode)]).getD (((a.length + 1 : Nat) : Int) - 1).toNat default = ⟨2, 0, (a.length : Int) - 1, 0⟩ := by
      rw [show (((a.length + 1 : Nat) : Int) - 1).toNat = a.length by omega, List.getD_eq_getElem?_getD, List.getElem?_append_right (by omega), Nat.sub_self]; rfl
    rw [e, if_neg (show ¬ (2 : Int) = 1 by decide), if_pos (show (2 : Int) = 2 from rfl), show ((a.length + 1 : Nat) : Int) - 1 - 1 = (a.length : Int) - 1 by omega, partF_pre _ _ _ _ (by omega) hp]
    dsimp only
    rw [if_pos ⟨rfl, rfl, by omega⟩]
  · rcases List.mem_append.1 hx with h | h
    · exact ha.conds x h hk
    · rw [List.mem_singleton.1 h] at hk; cases hk
  · rcases List.mem_append.1 hx with h | h
    · exact ha.kind x h
    · rw [List.mem_singleton.1 h]; dsimp only; omega
  · rw [List.length_append, List.length_singleton]
    rcases List.mem_append.1 hx with h | h
    · have := ha.small x h; omega
    · rw [List.mem_singleton.1 h]; dsimp only; omega
theorem RuleD.two {conds dp : Nat} {a b : List XNode} {k : Int} (ha : RuleD conds dp a) (hb : RuleD conds dp b) (hk : k = 3 ∨ k = 4) :
    RuleD conds (dp + 1) (a ++ b.map (shN a.length) ++ [⟨k, 0, (a.length : Int) - 1, ((a.length + b.length : Nat) : Int) - 1⟩]) := by
  have hl := ha.len
  have hl2 := hb.len
  obtain ⟨d, hp, hd⟩ := ha.part
  obtain ⟨d2, hp2, hd2⟩ := hb.part
  have hlen : (a ++ b.map (shN a.length) ++ [(⟨k, 0, (a.length : Int) - 1, ((a.length + b.length : Nat) : Int) - 1⟩ : XNode)]).length = a.length + b.length + 1 := by simp; omega
  refine ⟨by rw [hlen, lenB]; omega, ⟨max d d2 + 1, ?_, by omega⟩, fun x hx hk1 => ?_, fun x hx => ?_, fun x hx => ?_⟩
  · rw [hlen, partF, if_neg (by omega)]
    have e : (a ++ b.map (shN a.length) ++ [(⟨k, 0, (a.length : Int) - 1, ((a.length + b.length : Nat) : Int) - 1⟩ : XNode)]).getD (((a.length + b.length + 1 : Nat) : Int) - 1).toNat default = ⟨k, 0, (a.length : Int) - 1, ((a.length + b.length : Nat) : Int) - 1⟩ := by
      rw [show (((a.length + b.length + 1 : Nat) : Int) - 1).toNat = a.length + b.length by omega, List.getD_eq_getElem?_getD, List.getElem?_append_right (by simp), show a.length + b.length - (a ++ b.map (shN a.length)).length = 0 by simp]; rfl
    rw [e, if_neg (by dsimp only; omega), if_neg (by dsimp only; omega), if_pos hk]
    have p1 := partF_sh (a := a) (c := [(⟨k, 0, (a.length : Int) - 1, ((a.length + b.length : Nat) : Int) - 1⟩ : XNode)]) _ _ _ _ (by omega) hp2
    have p2 := partF_pre (c := b.map (shN a.length) ++ [(⟨k, 0, (a.length : Int) - 1, ((a.length + b.length : Nat) : Int) - 1⟩ : XNode)]) _ _ _ _ (by omega) hp
    rw [← List.append_assoc] at p2
    rw [show ((a.length + b.length + 1 : Nat) : Int) - 1 - 1 = (a.length : Int) + ((b.length : Int) - 1) by omega, partF_mono _ (a.length + b.length) _ _ (by omega) p1]
    dsimp only
    rw [if_pos ⟨rfl, by omega, by omega⟩, show (a.length : Int) + 0 - 1 = (a.length : Int) - 1 by omega, partF_mono _ (a.length + b.length) _ _ (by omega) p2]
  · rcases List.mem_append.1 hx with h | h
    · rcases List.mem_append.1 h with h | h
      · exact ha.conds x h hk1
      · obtain ⟨y, hy, rfl⟩ := List.mem_map.1 h
        exact hb.conds y hy hk1
    · rw [List.mem_singleton.1 h] at hk1; dsimp only at hk1; omega
  · rcases List.mem_append.1 hx with h | h
    · rcases List.mem_append.1 h with h | h
      · exact ha.kind x h
      · obtain ⟨y, hy, rfl⟩ := List.mem_map.1 h
        exact hb.kind y hy
    · rw [List.mem_singleton.1 h]; dsimp only; omega
  · rw [hlen]
    rcases List.mem_append.1 hx with h | h
    · rcases List.mem_append.1 h with h | h
      · have := ha.small x h; omega
      · obtain ⟨y, hy, rfl⟩ := List.mem_map.1 h
        have := hb.small y hy
        rw [shN]; dsimp only
        constructor <;> split <;> omega
    · rw [List.mem_singleton.1 h]; dsimp only; omega
theorem RuleD.right {conds : Nat} {l : List XNode} (h : RuleD conds 2 l) : rightR l = true := by
  obtain ⟨d, hp, hd⟩ := h.part
  have hl := h.len
  have e : lenB 2 = 7 := rfl
  exact rightR_iff.2 ⟨by omega, d, hp, by omega⟩
theorem RuleD.err {conds : Nat} {l : List XNode} (h : RuleD conds 2 l) : ruleErr l conds = 0 := by
  rw [ruleErr, if_neg (by rw [h.right]; decide), if_neg]
  rintro ⟨x, hx, hk, hc⟩
  have := h.conds x hx hk
  omega
end Go.Proofs.Ytlgjgigciapkfaa
end
section
/-
  Sites without errors. Plain. By an AI agent; no person has read it.
-/
set_option linter.unusedSimpArgs false
set_option linter.unusedVariables false
namespace Go.Proofs.Ytlgjgigciapkfaa
open Go.Aw Go
theorem nzO_zero {e : Int} (h : nzO e = none) : e = 0 := by
  rw [nzO] at h
  split at h
  · assumption
  · cases h
theorem nzO_ne {e x : Int} (h : nzO e = some x) : x ≠ 0 := by
  rw [nzO] at h
  split at h
  · cases h
  · cases h; assumption
structure SiteOk (s : XSite) : Prop where
  air : airErr s.air = 0
  len : s.sensors.l.length ≤ 64 ∧ s.conds.l.length ≤ 64 ∧ s.zones.l.length ≤ 16 ∧ s.persons.l.length ≤ 64
  sens : ∀ i : Nat, i < s.sensors.l.length → sensAt s.air s.sensors.l i = none
  cond : ∀ c ∈ s.conds.l, condErr s.sensors.l s.air.mine.roads.l.length c = 0
  zone : ∀ z ∈ s.zones.l, zoneErr s.conds.l.length s.air.mine.roads.l.length z = 0
  pers : ∀ p ∈ s.persons.l, 1 ≤ p ∧ p ≤ 3
theorem sensAt_ne {a : XAir} {S : List XSens} {i : Nat} {e : Int} (h : sensAt a S i = some e) : e ≠ 0 := by
  rw [sensAt] at h
  split at h
  · cases h; assumption
  split at h
  · cases h; decide
  split at h
  · cases h; decide
  · cases h
theorem siteOk_of {s : XSite} (h : siteErr s = 0) : SiteOk s := by
  rw [siteErr] at h
  split at h
  · omega
  split at h
  · omega
  split at h
  · omega
  split at h
  · omega
  split at h
  · omega
  rename_i h1 h2 h3 h4 h5
  refine ⟨by omega, by omega, fun i hi => ?_, fun c hc => ?_, fun z hz => ?_, fun p hp => ?_⟩
  · have h3' : sensorsErr s.air s.sensors.l = 0 := by omega
    exact findSome_zero (f := sensAt s.air s.sensors.l) (fun x e hx => sensAt_ne hx) h3' i (List.mem_range.2 hi)
  · have h4' : condsErr s = 0 := by omega
    exact nzO_zero (findSome_zero (f := fun c => nzO (condErr s.sensors.l s.air.mine.roads.l.length c)) (fun x e hx => nzO_ne hx) h4' c hc)
  · have h5' : zonesErr s = 0 := by omega
    exact nzO_zero (findSome_zero (f := fun z => nzO (zoneErr s.conds.l.length s.air.mine.roads.l.length z)) (fun x e hx => nzO_ne hx) h5' z hz)
  · have := findSome_zero (f := fun p : Int => if p < 1 ∨ 3 < p then some 19 else none) (fun x e hx => by
      split at hx
      · cases hx; decide
      · cases hx) h p hp
    split at this
    · cases this
    · omega
theorem findSome_no {α β : Type} {f : α → Option β} {l : List α} (h : ∀ x ∈ l, f x = none) : l.findSome? f = none := List.findSome?_eq_none_iff.2 h
theorem SiteOk.err {s : XSite} (h : SiteOk s) : siteErr s = 0 := by
  have h1 := h.air
  have h2 := h.len
  have e1 : sensorsErr s.air s.sensors.l = 0 := by rw [sensorsErr, findSome_no (fun i hi => h.sens i (List.mem_range.1 hi))]; rfl
  have e2 : condsErr s = 0 := by rw [condsErr, findSome_no (fun c hc => by rw [nzO, if_pos (h.cond c hc)])]; rfl
  have e3 : zonesErr s = 0 := by rw [zonesErr, findSome_no (fun z hz => by rw [nzO, if_pos (h.zone z hz)])]; rfl
  have e4 : personsErr s = 0 := by rw [personsErr, findSome_no (fun p hp => if_neg (by have := h.pers p hp; omega))]; rfl
  rw [siteErr, if_neg (by omega), if_neg (by omega), if_neg (by omega), if_neg (by omega), if_neg (by omega), e4]
theorem condErr_facts {S : List XSens} {n : Nat} {c : XCond} (h : condErr S n c = 0) : (1 ≤ c.kind ∧ c.kind ≤ 5) ∧ (0 ≤ c.value ∧ c.value ≤ 1099511627776) ∧ (c.kind = 1 → LevelOk c.level) ∧
    (c.kind = 5 → 0 ≤ c.target ∧ c.target < n) ∧ (c.kind ≠ 5 → 0 ≤ c.target ∧ c.target < S.length) ∧ (c.kind = 3 → (S.getD c.target.toNat default).kind = 5) := by
  rw [condErr] at h
  split at h
  · omega
  rename_i h1
  split at h
  · omega
  rename_i h2
  have h3 : condBase S n c = 0 := by omega
  have h4 : c.kind = 1 → LevelOk c.level := fun hk => by
    rw [if_pos hk, levelErr] at h
    split at h
    · assumption
    · omega
  rw [condBase] at h3
  split at h3
  · split at h3
    · exact ⟨by omega, by omega, h4, by omega, by omega, by omega⟩
    · omega
  split at h3
  · split at h3
    · rename_i h5
      exact ⟨by omega, by omega, h4, by omega, by omega, fun _ => h5.2⟩
    · omega
  split at h3
  · split at h3
    · exact ⟨by omega, by omega, h4, by omega, by omega, by omega⟩
    · omega
  · omega
structure WrO {α : Type} (l0 : List α) (g : Nat → α) (i : Nat) (l : List α) : Prop where
  len : l.length = l0.length
  don : ∀ j : Nat, j < i → l[j]? = some (g j)
  old : ∀ j : Nat, i ≤ j → l[j]? = l0[j]?
theorem WrO.zero {α : Type} {l0 : List α} {g : Nat → α} : WrO l0 g 0 l0 := ⟨rfl, fun j hj => by omega, fun j _ => rfl⟩
theorem WrO.next {α : Type} {l0 : List α} {g : Nat → α} {i : Nat} {l : List α} (h : WrO l0 g i l) (hi : i < l0.length) {x : α} (hx : x = g i) : WrO l0 g (i + 1) (l.set i x) := by
  have hl := h.len
  refine ⟨by simp [hl], fun j hj => ?_, fun j h1 => ?_⟩
  · rw [List.getElem?_set]
    split
    · rename_i e; rw [if_pos (by omega), hx, e]
    · exact h.don j (by omega)
  · rw [List.getElem?_set_ne (by omega)]
    exact h.old j (by omega)
theorem WrO.stay {α : Type} {l0 : List α} {g : Nat → α} {i : Nat} {l : List α} (h : WrO l0 g i l) (hx : l0[i]? = some (g i)) : WrO l0 g (i + 1) l := by
  refine ⟨h.len, fun j hj => ?_, fun j h1 => h.old j (by omega)⟩
  rcases Nat.lt_or_ge j i with h1 | h1
  · exact h.don j h1
  · obtain rfl : j = i := by omega
    rw [h.old j (Nat.le_refl _), hx]
theorem WrO.done {α : Type} {l0 : List α} {g : Nat → α} {l : List α} (h : WrO l0 g l0.length l) : l = (List.range l0.length).map g := by
  have hl := h.len
  refine List.ext_getElem? fun j => ?_
  rcases Nat.lt_or_ge j l0.length with hj | hj
  · rw [h.don j hj, List.getElem?_map, List.getElem?_range hj]; rfl
  · rw [List.getElem?_eq_none (by omega), List.getElem?_eq_none (by simp; omega)]
end Go.Proofs.Ytlgjgigciapkfaa
end
section
/-
  The draws of chapter 13: spans near flows, faces, sensors. By an AI agent; no person has read it.
-/
set_option linter.unusedSimpArgs false
set_option linter.unusedVariables false
namespace Go.Proofs.Ytlgjgigciapkfaa
open Go.Aw Go
set_option maxRecDepth 20000
attribute [local irreducible] CJ LJ DJ Tri YV Gives seqK blockK loopK retK RV mergeK OwL.L

section
variable {A9 B9 : Prop}
theorem ybhaa (a : A9) (h : A9 → B9 := by exact LJ_q (yv_loadN (row := [_, _, _, _, _, _, _, _]) tb rfl rfl rfl (by repeat (first | exact zi0 | apply zi1 | apply zi2)) (by rfl) (by rfl)) rfl) : B9 := h a
end
theorem stately_tri (k : Int) (L : List Blk) (R : List Sl) :
    Tri Try.prog 42 [.int .i64 k].toArray L R (fun v L' R' => v = .bool (decide (4 ≤ k)) ∧ L = L' ∧ R = R') := by
  refine tri_enter 5 Try.call42 Try.func42 rfl rfl rfl ?_
  refine qae ?_
  refine qaz ?_
  refine qam ?_
  refine qaa ?_
  refine qbz ?_
  refine qaz ?_
  refine qa0 ?_
  refine q_b (L' := L) (R' := R) ?_
  exact ⟨rfl, rfl, rfl⟩
structure SensD (kind address target : Int) (s : XSens) : Prop where
  kind : s.kind = kind
  address : s.address = address
  target : s.target = target
  offset : -50 ≤ s.offset ∧ s.offset ≤ 20
  scale : 300 ≤ s.scale ∧ s.scale ≤ 2000
  error : 0 ≤ s.error ∧ s.error ≤ 5
  drift : 0 ≤ s.drift ∧ s.drift ≤ 699
  life : 1 ≤ s.life ∧ s.life ≤ 200
theorem drawSensor_tri (c : Nat) (x : Arr Int) (k : Nat) (kind address target : Int) (R : List Sl) (hx : CodesR x R) (hk : k ≤ x.l.length) :
    Tri Try.prog 61 [.pointer (some ⟨c, 0, none⟩), .int .i64 kind, .int .i64 address, .int .i64 target].toArray [cblk c x k] R
      (fun v L' R' => ∃ (s : XSens) (k' : Nat), v = s.val ∧ SensD kind address target s ∧ k' ≤ x.l.length ∧ cblk c x k' :: [] = L' ∧ R = R') := by
  refine tri_enter 32 Try.call61 Try.func61 rfl rfl rfl ?_
  refine qae ?_
  refine qaq ?_
  intro b8
  refine qam ?_
  iterate 3 refine qaa ?_
  refine qa6 ?_
  refine LJ_call rfl (range1 (by repeat (first | apply USeg.here | apply USeg.cons | apply USeg.app)) hx hk (by omega)) rfl ?_
  rintro v L' R' ⟨r1, k1, rfl, g1, g1', hk1, rfl, rfl⟩
  refine LJ_q (yv_build (qs := [(1, (Value.int _ _).cells.toList), (0, (Value.int _ _).cells.toList), (2, (Value.int _ _).cells.toList), (4, (Value.int _ _).cells.toList), (7, (Value.int _ _).cells.toList)]) (out := [_, _, _, _, _, _, _, _]) tb rfl rfl rfl rfl) rfl ?_
  refine qaq ?_
  intro b9
  refine qak ?_
  refine qaw ?_
  refine qaa ?_
  refine q_l rfl (stately_tri _ _ _) ?_
  refine qb4 ?_
  refine qaf ?_
  refine q_c (fun hc0 => ?_) (fun hc0 => ?_)
  ·
   refine qae ?_
   refine qa6 ?_
   refine LJ_call rfl (range1 (by repeat (first | apply USeg.here | apply USeg.cons | apply USeg.app)) hx hk1 (by omega)) rfl ?_
   rintro v L' R' ⟨r2, k2, rfl, g2, g2', hk2, rfl, rfl⟩
   refine qa6 ?_
   refine LJ_call rfl (range1 (by repeat (first | apply USeg.here | apply USeg.cons | apply USeg.app)) hx hk2 (by omega)) rfl ?_
   rintro v L' R' ⟨r3, k3, rfl, g3, g3', hk3, rfl, rfl⟩
   refine qab ?_
   refine qcn ?_
   refine qab ?_
   refine qcn ?_
   refine LJ_nil (seqK_normal (CJ_region ?_))
   refine qa6 ?_
   refine LJ_call rfl (next1 (by repeat (first | apply USeg.here | apply USeg.cons | apply USeg.app)) hx hk3 (by omega)) rfl ?_
   rintro v L' R' ⟨r4, k4, rfl, g4, g4', g4'', hk4, rfl, rfl⟩
   have g4q := g4' (by omega)
   refine qa6 ?_
   refine LJ_call rfl (next1 (by repeat (first | apply USeg.here | apply USeg.cons | apply USeg.app)) hx hk4 (by omega)) rfl ?_
   rintro v L' R' ⟨r5, k5, rfl, g5, g5', g5'', hk5, rfl, rfl⟩
   have g5q := g5' (by omega)
   refine qab ?_
   refine qcn ?_
   refine qab ?_
   refine qcn ?_
   refine qam ?_
   refine ybhaa ?_
   refine qak ?_
   refine qa0 ?_
   refine q_r (L' := [cblk c x k5]) (R' := R) (res1 rfl (rv_cell (row := [_, _, _, _, _, _, _, _]) tb rfl rfl rfl (by repeat (first | exact zi0 | apply zi1 | apply zi2)) (by rfl) (by rfl))) ?_
   exact ⟨⟨address, kind, target, r2, r3, r4, r5, r1⟩, k5, rfl, ⟨rfl, rfl, rfl, by dsimp only; omega, by dsimp only; omega, by dsimp only; omega, by dsimp only; omega, by dsimp only; omega⟩, hk5, rfl, rfl⟩
  refine qbv ?_
  refine ybhaa ?_
  refine qak ?_
  refine qa0 ?_
  refine q_r (L' := [cblk c x k1]) (R' := R) (res1 rfl (rv_cell (row := [_, _, _, _, _, _, _, _]) tb rfl rfl rfl (by repeat (first | exact zi0 | apply zi1 | apply zi2)) (by rfl) (by rfl))) ?_
  exact ⟨⟨address, kind, target, 0, 1000, 0, 0, r1⟩, k1, rfl, ⟨rfl, rfl, rfl, by dsimp only; omega, by dsimp only; omega, by dsimp only; omega, by dsimp only; omega, by dsimp only; omega⟩, hk1, rfl, rfl⟩
end Go.Proofs.Ytlgjgigciapkfaa
end
