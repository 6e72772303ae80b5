import Derived.Test.YtkpfjmibipblhaaChecks
import Derived.Test.YtkpfjmibipblhaaOwn
import Derived.ProofKit
import Derived.OpenShut
import Derived.ShutString
import Derived.ChangeOld
import Derived.Below
section
/-
  Fans: FanN, FanS, FanW, Pipe, Search, AirS, Inner, Ref09, in one text. By an AI agent; no person has read it.
-/
set_option linter.unusedSimpArgs false
set_option linter.unusedVariables false
section
namespace Go.Proofs.Ytkpfjmibipblhaa
open Go.Aw Go
set_option maxRecDepth 20000
attribute [local irreducible] CJ LJ DJ Tri YV Gives seqK blockK loopK retK RV mergeK

def betweenS (a b : XPoint) (q : Int) : XSpan :=
  ⟨a.pres - (a.pres - b.pres) * (q - a.flow) / (b.flow - a.flow) - (if 0 < (a.pres - b.pres) * (q - a.flow) % (b.flow - a.flow) then 1 else 0), a.pres - (a.pres - b.pres) * (q - a.flow) / (b.flow - a.flow)⟩

end Go.Proofs.Ytkpfjmibipblhaa

end
section
namespace Go.Proofs.Ytkpfjmibipblhaa
open Go.Aw Go

structure CurveOk (l : List XPoint) : Prop where
  pt : ∀ (i : Nat) (p : XPoint), l[i]? = some p → -1048576 ≤ p.flow ∧ p.flow ≤ 1048576 ∧ 0 ≤ p.pres ∧ p.pres ≤ 2199023255552
  st : ∀ (i : Nat) (p r : XPoint), l[i]? = some p → l[i + 1]? = some r → p.flow < r.flow ∧ r.pres ≤ p.pres
structure FanOk (f : XFan) : Prop where
  road : 0 ≤ f.road
  len1 : 1 ≤ f.curve.l.length
  len8 : f.curve.l.length ≤ 8
  ok : CurveOk f.curve.l

theorem fanOk_of {f : XFan} (h : fanErr f = 0) : FanOk f := by
  unfold fanErr at h
  split at h
  · cases h
  rename_i h1
  split at h
  · cases h
  rename_i h2
  have hn : (List.range f.curve.l.length).findSome? (pointErr f.curve.l) = none := by
    cases hf : (List.range f.curve.l.length).findSome? (pointErr f.curve.l) with
    | none => rfl
    | some e =>
      rw [hf] at h
      simp only [Option.getD_some] at h
      subst h
      obtain ⟨i, _, hi⟩ := List.exists_of_findSome?_eq_some hf
      unfold pointErr at hi
      split at hi
      · cases hi
      · split at hi
        · cases hi
        · split at hi
          · cases hi
          · split at hi
            · cases hi
            · split at hi <;> cases hi
  have hall : ∀ (i : Nat) (p : XPoint), f.curve.l[i]? = some p → pointErr f.curve.l i = none := fun i p hp => by
    obtain ⟨hi, _⟩ := List.getElem?_eq_some_iff.1 hp
    exact List.findSome?_eq_none_iff.1 hn i (List.mem_range.2 hi)
  have hpt : ∀ (i : Nat) (p : XPoint), f.curve.l[i]? = some p → -1048576 ≤ p.flow ∧ p.flow ≤ 1048576 ∧ 0 ≤ p.pres ∧ p.pres ≤ 2199023255552 := fun i p hp => by
    have := hall i p hp
    by_cases hr : p.flow < -1048576 ∨ 1048576 < p.flow ∨ p.pres < 0 ∨ 2199023255552 < p.pres
    · rw [pointErr_1 hp hr] at this; cases this
    · omega
  refine ⟨by omega, by omega, by omega, hpt, fun i p r hp hr => ?_⟩
  have := hall (i + 1) r hr
  have b := hpt _ _ hr
  by_cases hb : r.flow ≤ p.flow ∨ p.pres < r.pres
  · rw [pointErr_14 hr (by omega) (by omega) (by simpa using hp) hb] at this; cases this
  · omega

def curveGo (p : XPoint) : List XPoint → Int → XSpan
  | [], _ => ⟨p.pres, p.pres⟩
  | r :: rest, q => if q ≤ r.flow then betweenS p r q else curveGo r rest q
def curveS (l : List XPoint) (q : Int) : XSpan :=
  match l with
  | [] => ⟨0, 0⟩
  | p :: rest => if q ≤ p.flow then ⟨p.pres, p.pres⟩ else curveGo p rest q
def negS (s : XSpan) : XSpan := ⟨-s.high, -s.low⟩
def alongS (l : List XPoint) (back : Bool) (q : Int) : XSpan := if back then negS (curveS l (-q)) else curveS l q
def stateS (f : XFan) (s q : Int) : XSpan :=
  if s = 1 then alongS f.curve.l f.back q else if s = 2 then alongS f.curve.l (!f.back) q
  else if s = -1 then ⟨min (min 0 (alongS f.curve.l false q).low) (alongS f.curve.l true q).low, max (max 0 (alongS f.curve.l false q).high) (alongS f.curve.l true q).high⟩
  else ⟨0, 0⟩

end Go.Proofs.Ytkpfjmibipblhaa

end
section
namespace Go.Proofs.Ytkpfjmibipblhaa
open Go.Aw Go
set_option maxRecDepth 20000
attribute [local irreducible] CJ LJ DJ Tri YV Gives seqK blockK loopK retK RV mergeK

end Go.Proofs.Ytkpfjmibipblhaa

end
section
namespace Go.Proofs.Ytkpfjmibipblhaa
open Go.Aw Go
set_option maxRecDepth 20000
attribute [local irreducible] CJ LJ DJ Tri YV Gives seqK blockK loopK retK RV mergeK

end Go.Proofs.Ytkpfjmibipblhaa

end
section
namespace Go.Proofs.Ytkpfjmibipblhaa
open Go.Aw Go
set_option maxRecDepth 20000
attribute [local irreducible] CJ LJ DJ Tri YV Gives seqK blockK loopK retK RV mergeK

end Go.Proofs.Ytkpfjmibipblhaa

end
section
namespace Go.Proofs.Ytkpfjmibipblhaa
open Go.Aw Go

theorem findSome_zero {α : Type} {f : α → Option Int} {l : List α} (hf : ∀ x e, f x = some e → e ≠ 0) (h : (l.findSome? f).getD 0 = 0) : ∀ x ∈ l, f x = none := by
  have hn : l.findSome? f = none := by
    cases hs : l.findSome? f with
    | none => rfl
    | some e =>
      rw [hs] at h
      obtain ⟨x, _, hx⟩ := List.exists_of_findSome?_eq_some hs
      exact absurd h (hf x e hx)
  exact List.findSome?_eq_none_iff.1 hn

structure RoadOk (n : Nat) (r : XRoad) : Prop where
  fr : 0 ≤ r.fr ∧ r.fr < n
  to : 0 ≤ r.to ∧ r.to < n
  ne : r.fr ≠ r.to
  rest : 1 ≤ r.rest.low ∧ r.rest.low ≤ r.rest.high ∧ r.rest.high ≤ 262144
  lift : -2199023255552 ≤ r.lift.low ∧ r.lift.low ≤ r.lift.high ∧ r.lift.high ≤ 2199023255552

theorem spanB_iff {s : XSpan} {lo hi : Int} : spanB s lo hi = true ↔ lo ≤ s.low ∧ s.low ≤ s.high ∧ s.high ≤ hi := by simp [spanB]

structure MineOk (m : XMine) : Prop where
  places : m.places.l.length ≤ 64
  roads : m.roads.l.length ≤ 128
  road : ∀ (i : Nat) (r : XRoad), m.roads.l[i]? = some r → RoadOk m.places.l.length r

theorem mineOk_of {m : XMine} (h : mineErr m = 0) : MineOk m := by
  unfold mineErr at h
  split at h
  · cases h
  rename_i hlen
  split at h
  · rename_i e he
    subst h
    obtain ⟨x, _, hx⟩ := List.exists_of_findSome?_eq_some he
    unfold placeErr at hx
    split at hx <;> cases hx
  have hall := findSome_zero (f := roadErr m.places.l.length) (fun x e hx he => by
    subst he
    unfold roadErr at hx
    split at hx
    · cases hx
    · split at hx <;> cases hx) h
  refine ⟨by omega, by omega, fun i r hr => ?_⟩
  have := hall r (List.mem_of_getElem? hr)
  unfold roadErr at this
  split at this
  · cases this
  rename_i h1
  split at this
  · cases this
  rename_i h2
  have e1 : spanB r.rest 1 262144 = true := by
    cases hb : spanB r.rest 1 262144 with
    | true => rfl
    | false => exact absurd (.inr (.inr (.inr (.inr (.inl hb))))) h2
  have e2 : spanB r.lift (-2199023255552) 2199023255552 = true := by
    cases hb : spanB r.lift (-2199023255552) 2199023255552 with
    | true => rfl
    | false => exact absurd (.inr (.inr (.inr (.inr (.inr hb))))) h2
  exact ⟨by omega, by omega, by omega, spanB_iff.1 e1, spanB_iff.1 e2⟩

structure DoorOk (d : XDoor) : Prop where
  road : 0 ≤ d.road
  len : 2 ≤ d.rests.l.length ∧ d.rests.l.length ≤ 6
  rest : ∀ (i : Nat) (x : Int), d.rests.l[i]? = some x → 0 ≤ x ∧ x ≤ 262144
  falls : fallsB d.rests.l d.rests.l.length = true

theorem doorsOk_of {l : List XDoor} (h : doorsErr l = 0) : l.length ≤ 16 ∧ ∀ (i : Nat) (d : XDoor), l[i]? = some d → DoorOk d ∧ ¬ pairBad l i d := by
  unfold doorsErr at h
  split at h
  · cases h
  rename_i hlen
  have hre : ∀ (x : Int) (e : Int), restErr x = some e → e = 1 := fun x e he => by
    unfold restErr at he
    split at he <;> cases he
    rfl
  have hall := findSome_zero (f := doorErr l) (fun i e hx he => by
    subst he
    unfold doorErr at hx
    split at hx
    · cases hx
    · split at hx
      · cases hx
      · split at hx
        · cases hx
        · split at hx
          · rename_i e' he'
            obtain ⟨x, _, hx'⟩ := List.exists_of_findSome?_eq_some he'
            have := hre x _ hx'
            cases hx
            cases this
          · split at hx
            · cases hx
            · split at hx <;> cases hx) h
  refine ⟨by omega, fun i d hd => ?_⟩
  obtain ⟨hi, _⟩ := List.getElem?_eq_some_iff.1 hd
  have := hall i (List.mem_range.2 hi)
  rw [doorErr_at hd] at this
  split at this
  · cases this
  rename_i h1
  split at this
  · cases this
  rename_i h2
  split at this
  · cases this
  rename_i h3
  split at this
  · cases this
  rename_i h4
  split at this
  · cases this
  rename_i h5
  refine ⟨⟨by omega, by omega, fun k x hx => ?_, by simpa using h4⟩, h5⟩
  have := List.findSome?_eq_none_iff.1 h3 x (List.mem_of_getElem? hx)
  unfold restErr at this
  split at this
  · cases this
  · omega

structure AirOk (a : XAir) : Prop where
  mine : MineOk a.mine
  nfans : a.fans.l.length ≤ 8
  fan : ∀ (i : Nat) (f : XFan), a.fans.l[i]? = some f → FanOk f ∧ f.road < a.mine.roads.l.length
  ndoors : a.doors.l.length ≤ 16
  door : ∀ (i : Nat) (d : XDoor), a.doors.l[i]? = some d → DoorOk d ∧ d.road < a.mine.roads.l.length

theorem airOk_of {a : XAir} (h : airErr a = 0) : AirOk a := by
  unfold airErr at h
  split at h
  · rename_i h1; exact absurd h h1
  rename_i h1
  split at h
  · cases h
  rename_i h2
  split at h
  · rename_i e he
    subst h
    obtain ⟨x, _, hx⟩ := List.exists_of_findSome?_eq_some he
    unfold fanIn at hx
    split at hx
    · rename_i hne
      exact absurd (Option.some.inj hx) hne
    · split at hx <;> cases hx
  rename_i hfn
  split at h
  · rename_i h3; exact absurd h h3
  rename_i h3
  have hdo := doorsOk_of (by simpa using h3)
  have hdi := findSome_zero (f := doorIn a.mine.roads.l.length) (fun x e hx he => by
    subst he
    unfold doorIn at hx
    split at hx <;> cases hx) h
  refine ⟨mineOk_of (by simpa using h1), by omega, fun i f hf => ?_, hdo.1, fun i d hd => ⟨(hdo.2 i d hd).1, ?_⟩⟩
  · have := List.findSome?_eq_none_iff.1 hfn f (List.mem_of_getElem? hf)
    unfold fanIn at this
    split at this
    · cases this
    rename_i h4
    split at this
    · cases this
    exact ⟨fanOk_of (by simpa using h4), by omega⟩
  · have := hdi d (List.mem_of_getElem? hd)
    unfold doorIn at this
    split at this
    · cases this
    · omega

end Go.Proofs.Ytkpfjmibipblhaa

end
section
namespace Go.Proofs.Ytkpfjmibipblhaa
open Go.Aw Go
set_option maxRecDepth 20000
attribute [local irreducible] CJ LJ DJ Tri YV Gives seqK blockK loopK retK RV mergeK

def restTo (a : XAir) (s : XSetting) (r : Int) : Nat → XSpan
  | 0 => (a.mine.roads.l.getD r.toNat default).rest
  | k + 1 => if (a.doors.l.getD k default).road = r then ⟨(restTo a s r k).low + (restS (a.doors.l.getD k default) (s.doors.l.getD k 0)).low, (restTo a s r k).high + (restS (a.doors.l.getD k default) (s.doors.l.getD k 0)).high⟩ else restTo a s r k
def baseS (rest lift : XSpan) (q : Int) : XSpan :=
  if q < 0 then ⟨-(rest.high * q * q) - lift.high, -(rest.low * q * q) - lift.low⟩ else ⟨rest.low * q * q - lift.high, rest.high * q * q - lift.low⟩
def innerTo (a : XAir) (s : XSetting) (r q : Int) : Nat → XSpan
  | 0 => baseS (restTo a s r a.doors.l.length) (a.mine.roads.l.getD r.toNat default).lift q
  | k + 1 => if (a.fans.l.getD k default).road = r then ⟨(innerTo a s r q k).low - (stateS (a.fans.l.getD k default) (s.fans.l.getD k 0) q).high, (innerTo a s r q k).high - (stateS (a.fans.l.getD k default) (s.fans.l.getD k 0) q).low⟩ else innerTo a s r q k
def innerS (a : XAir) (s : XSetting) (r q : Int) : XSpan := innerTo a s r q a.fans.l.length

end Go.Proofs.Ytkpfjmibipblhaa

end
section
namespace Go.Proofs.Ytkpfjmibipblhaa
open Go.Aw Go
set_option maxRecDepth 20000
attribute [local irreducible] CJ LJ DJ Tri YV Gives seqK blockK loopK retK RV mergeK

end Go.Proofs.Ytkpfjmibipblhaa

end
end
section
/-
  Flows: RefFits, PipeOf, Mono, Spec, Codes, in one text. By an AI agent; no person has read it.
-/
set_option linter.unusedSimpArgs false
set_option linter.unusedVariables false
section
namespace Go.Proofs.Ytkpfjmibipblhaa
open Go.Aw Go
set_option maxRecDepth 20000
attribute [local irreducible] CJ LJ DJ Tri YV Gives seqK blockK loopK retK RV mergeK

def presBad (p : Int) : Option Int := if p < -70368744177664 ∨ 70368744177664 < p then some 1 else none
def flowBad (q : Int) : Option Int := if q < -1048576 ∨ 1048576 < q then some 1 else none
def netTo (a : XAir) (x : XState) : Nat → List Int
  | 0 => List.replicate x.pres.l.length 0
  | k + 1 =>
    let l1 := (netTo a x k).set (a.mine.roads.l.getD k default).fr.toNat ((netTo a x k).getD (a.mine.roads.l.getD k default).fr.toNat 0 + x.flows.l.getD k 0)
    l1.set (a.mine.roads.l.getD k default).to.toNat (l1.getD (a.mine.roads.l.getD k default).to.toNat 0 - x.flows.l.getD k 0)
def roadUnfit (a : XAir) (s : XSetting) (x : XState) (i : Nat) : Option Int :=
  let r := a.mine.roads.l.getD i default
  let d := x.pres.l.getD r.fr.toNat 0 - x.pres.l.getD r.to.toNat 0
  if (r.closed = true ∧ x.flows.l.getD i 0 ≠ 0) ∨ (r.closed = false ∧ (d < (innerS a s i (x.flows.l.getD i 0)).low ∨ (innerS a s i (x.flows.l.getD i 0)).high < d)) then some 10 else none
def placeUnfit (a : XAir) (x : XState) (net : List Int) (i : Nat) : Option Int :=
  if ((a.mine.places.l.getD i default).surface = true ∧ x.pres.l.getD i 0 ≠ 0) ∨ ((a.mine.places.l.getD i default).surface = false ∧ net.getD i 0 ≠ 0) then some 10 else none
def fitsS (a : XAir) (s : XSetting) (x : XState) : Int :=
  if airErr a ≠ 0 then airErr a else if fitB a s = false then 21
  else if x.pres.l.length ≠ a.mine.places.l.length ∨ x.flows.l.length ≠ a.mine.roads.l.length then 11
  else match x.pres.l.findSome? presBad with
    | some e => e
    | none => match x.flows.l.findSome? flowBad with
      | some e => e
      | none => match (List.range x.flows.l.length).findSome? (roadUnfit a s x) with
        | some e => e
        | none => ((List.range x.pres.l.length).findSome? (placeUnfit a x (netTo a x x.flows.l.length))).getD 0

end Go.Proofs.Ytkpfjmibipblhaa

end
section
namespace Go.Proofs.Ytkpfjmibipblhaa
open Go.Aw Go


end Go.Proofs.Ytkpfjmibipblhaa

end
section
namespace Go.Proofs.Ytkpfjmibipblhaa
open Go.Aw Go

end Go.Proofs.Ytkpfjmibipblhaa

end
section
namespace Go.Proofs.Ytkpfjmibipblhaa
open Go.Aw Go

end Go.Proofs.Ytkpfjmibipblhaa

end
section
namespace Go.Proofs.Ytkpfjmibipblhaa
open Go.Aw Go
set_option maxRecDepth 20000
attribute [local irreducible] CJ LJ DJ Tri YV Gives seqK blockK loopK retK RV mergeK

def bcell (n : Int) : List Value := [.int .u8 n]
abbrev bsl (x : Arr Int) : Sl := x.sl 1 bcell []
abbrev cblk (c : Nat) (x : Arr Int) (k : Nat) : Blk := ⟨c, [x.val, .int .i64 (k : Int)], 122⟩
structure CodesR (x : Arr Int) (R : List Sl) : Prop where
  sl : InR (bsl x) R
  byte : ∀ (i : Nat) (b : Int), x.l[i]? = some b → 0 ≤ b ∧ b ≤ 255

theorem next2_tri (c : Nat) (x : Arr Int) (k : Nat) (n : Int) (R : List Sl) (hx : CodesR x R) (hk : k ≤ x.l.length) (hn : n ≤ 1000000) :
    Tri Try.prog 43 [.pointer (some ⟨c, 0, none⟩), .int .i64 n].toArray [cblk c x k] R
      (fun v L' R' => ∃ (r : Int) (k' : Nat), v = .int .i64 r ∧ 0 ≤ r ∧ (1 ≤ n → r < n) ∧ (n < 1 → r = 0) ∧ k' ≤ x.l.length ∧ (x.l.length ≤ k → r = 0 ∧ k' = k) ∧ [cblk c x k'] = L' ∧ R = R') := by
  have hsl := hx.sl
  refine Tri_len Try.call43 hsl fun hxn => ?_
  refine tri_enter 77 Try.call43 Try.func43 rfl rfl rfl ?_
  refine qae ?_
  refine qad ?_
  refine qco ?_
  refine CJ_drawn tb [0, 1, 2, 3, 4, 5, 6, 7, 8, 9, 10, 11, 12, 13] _ mixed (by kernel_rfl) (List.Sublist.refl _) ?_
  refine qao ?_
  refine DJ_q (yv_lss rfl rfl) rfl rfl rfl ?_
  refine qb2 ?_
  refine DJ_case (k := 8) (show _ = Value.bool _ from rfl) (fun hg2 => ?_) (fun hg2 => ?_)
  ·
   replace hg2 := qb hg2
   iterate 10 refine qap ?_
   refine qbp ?_
   refine qbu ?_
   refine CJ_cond_true rfl ?_
   refine qae ?_
   refine qad ?_
   refine qbh ?_
   refine q_i (L' := [cblk c x k]) (R' := R) ?_
   exact ⟨0, k, rfl, by omega, fun _ => by omega, fun _ => rfl, hk, fun _ => ⟨rfl, rfl⟩, rfl, rfl⟩
  replace hg2 := qb hg2
  refine qb8 ?_
  refine qcb ?_
  refine qal ?_
  refine qat ?_
  refine qb8 ?_
  refine qcb ?_
  refine qal ?_
  refine qat ?_
  refine DJ_q (yv_len tb rfl rfl rfl) rfl rfl rfl ?_
  refine DJ_q (yv_geq rfl rfl) rfl rfl rfl ?_
  refine qbp ?_
  refine qbu ?_
  refine q_c (fun hc0 => ?_) (fun hc0 => ?_)
  ·
   refine qae ?_
   refine qad ?_
   refine qbh ?_
   refine q_i (L' := [cblk c x k]) (R' := R) ?_
   exact ⟨0, k, rfl, by omega, fun _ => by omega, fun _ => rfl, hk, fun _ => ⟨rfl, rfl⟩, rfl, rfl⟩
  have hb := get_D (l := x.l) (k := k) 0 (by omega)
  have hbb := hx.byte _ _ hb
  refine qbv ?_
  refine qa6 ?_
  refine LJ_q (yv_nilCheck rfl) rfl ?_
  refine qab ?_
  refine qac ?_
  refine qar ?_
  refine LJ_q (yv_nilCheck rfl) rfl ?_
  refine qab ?_
  refine qcn ?_
  refine qa4 ?_
  refine CJ_drawn tb [0, 1, 2, 3, 4, 5, 6, 7, 8, 9, 10, 11, 12] _ mixed (by kernel_rfl) (List.Sublist.refl _) ?_
  refine qb8 ?_
  refine qcb ?_
  refine qal ?_
  refine qat ?_
  refine qb8 ?_
  refine qcb ?_
  refine qal ?_
  refine qat ?_
  refine qb7 ?_
  refine qds ?_
  refine qbl ?_
  refine qdm ?_
  refine qcg ?_
  refine DJ_nil (seqK_normal (CJ_seq (CJ_seq ?_)))
  refine CJ_drawn tb [0, 1, 2, 3, 4, 5, 6, 7, 8, 9, 10, 11, 12, 13] _ mixed (by kernel_rfl) (List.Sublist.refl _) ?_
  refine qao ?_
  refine DJ_q (yv_gtr rfl rfl) rfl rfl rfl ?_
  refine qb2 ?_
  refine DJ_case (k := 41) (show _ = Value.bool _ from rfl) (fun hg2 => ?_) (fun hg2 => ?_)
  ·
   replace hg2 := qb hg2
   refine qb8 ?_
   refine qcb ?_
   refine qal ?_
   refine qat ?_
   refine qb8 ?_
   refine qcb ?_
   refine qal ?_
   refine qat ?_
   refine DJ_q (yv_len tb rfl rfl rfl) rfl rfl rfl ?_
   refine DJ_q (yv_lss rfl rfl) rfl rfl rfl ?_
   refine qbp ?_
   refine qbu ?_
   refine q_c (fun hc1 => ?_) (fun hc1 => ?_)
   ·
    obtain ⟨kk, hkk⟩ : ∃ kk, kk = k + 2 := ⟨_, rfl⟩
    have hb2 := get_D (l := x.l) (k := k + 1) 0 (by omega)
    have hbb2 := hx.byte _ _ hb2
    refine CJ_seq ?_
    refine CJ_drawn tb [0, 1, 2, 3, 4, 5, 6, 7, 8, 9, 10, 11, 12, 13, 14] _ mixed (by kernel_rfl) (List.Sublist.refl _) ?_
    refine qao ?_
    refine qdh ?_
    refine qb8 ?_
    refine qcb ?_
    refine qal ?_
    refine qat ?_
    refine qb8 ?_
    refine qcb ?_
    refine qal ?_
    refine qat ?_
    refine qdy ?_
    refine qbl ?_
    refine qdm ?_
    refine qc2 ?_
    refine qcg ?_
    refine DJ_nil (seqK_normal (CJ_region ?_))
    refine qa6 ?_
    refine LJ_q (yv_nilCheck rfl) rfl ?_
    refine qab ?_
    refine qac ?_
    refine qar ?_
    refine LJ_q (yv_nilCheck rfl) rfl ?_
    refine qab ?_
    refine qcn ?_
    refine qam ?_
    refine qaa ?_
    refine qaa ?_
    refine qda ?_
    refine qad ?_
    refine qa0 ?_
    have htm := fun y (h : 0 ≤ y) => And.intro (Int.tmod_nonneg n h) (Int.tmod_lt_of_pos y (show 0 < n by omega))
    refine retK_ret (L' := [cblk c x kk]) (R' := R) (res1 rfl (rv_tmp (show _ = Value.int _ _ from rfl))) ?hp ?hL ?hR
    case hp => exact ⟨_, kk, rfl, (htm _ (by omega)).1, fun _ => (htm _ (by omega)).2, fun _ => by omega, by omega, fun h => by omega, rfl, rfl⟩
    case hL => subst hkk; exact (by repeat (first | exact zs0 _ | exact zs1 _ | apply zs2 | apply zs3 | apply zs4 | apply zs5))
    case hR => exact allR_self _
   obtain ⟨kk, hkk⟩ : ∃ kk, kk = k + 1 := ⟨_, rfl⟩
   refine qbv ?_
   refine qaa ?_
   refine qaa ?_
   refine qda ?_
   refine qad ?_
   refine qa0 ?_
   have htm := fun y (h : 0 ≤ y) => And.intro (Int.tmod_nonneg n h) (Int.tmod_lt_of_pos y (show 0 < n by omega))
   refine retK_ret (L' := [cblk c x kk]) (R' := R) (res1 rfl (rv_tmp (show _ = Value.int _ _ from rfl))) ?hp ?hL ?hR
   case hp => exact ⟨_, kk, rfl, (htm _ (by omega)).1, fun _ => (htm _ (by omega)).2, fun _ => by omega, by omega, fun h => by omega, rfl, rfl⟩
   case hL => subst hkk; exact (by repeat (first | exact zs0 _ | exact zs1 _ | apply zs2 | apply zs3 | apply zs4 | apply zs5))
   case hR => exact allR_self _
  replace hg2 := qb hg2
  obtain ⟨kk, hkk⟩ : ∃ kk, kk = k + 1 := ⟨_, rfl⟩
  iterate 10 refine qap ?_
  refine qbp ?_
  refine qbu ?_
  refine CJ_cond_false rfl ?_
  refine qbv ?_
  refine qaa ?_
  refine qaa ?_
  refine qda ?_
  refine qad ?_
  refine qa0 ?_
  have htm := fun y (h : 0 ≤ y) => And.intro (Int.tmod_nonneg n h) (Int.tmod_lt_of_pos y (show 0 < n by omega))
  refine retK_ret (L' := [cblk c x kk]) (R' := R) (res1 rfl (rv_tmp (show _ = Value.int _ _ from rfl))) ?hp ?hL ?hR
  case hp => exact ⟨_, kk, rfl, (htm _ (by omega)).1, fun _ => (htm _ (by omega)).2, fun _ => by omega, by omega, fun h => by omega, rfl, rfl⟩
  case hL => subst hkk; exact (by repeat (first | exact zs0 _ | exact zs1 _ | apply zs2 | apply zs3 | apply zs4 | apply zs5))
  case hR => exact allR_self _

theorem next_tri (c : Nat) (x : Arr Int) (k : Nat) (n : Int) (R : List Sl) (hx : CodesR x R) (hk : k ≤ x.l.length) (hn : n ≤ 1000000) :
    Tri Try.prog 43 [.pointer (some ⟨c, 0, none⟩), .int .i64 n].toArray [cblk c x k] R
      (fun v L' R' => ∃ (r : Int) (k' : Nat), v = .int .i64 r ∧ 0 ≤ r ∧ (1 ≤ n → r < n) ∧ (n < 1 → r = 0) ∧ k' ≤ x.l.length ∧ [cblk c x k'] = L' ∧ R = R') :=
  (next2_tri c x k n R hx hk hn).mono fun v L' R' ⟨r, k', h1, h2, h3, h4, h5, _, h6, h7⟩ => ⟨r, k', h1, h2, h3, h4, h5, h6, h7⟩

theorem one_tri (c : Nat) (x : Arr Int) (k : Nat) (n : Int) (R : List Sl) (hx : CodesR x R) (hk : k ≤ x.l.length) (hn : -1000000 ≤ n ∧ n ≤ 1000000) :
    Tri Try.prog 44 [.pointer (some ⟨c, 0, none⟩), .int .i64 n].toArray [cblk c x k] R
      (fun v L' R' => ∃ (b : Bool) (k' : Nat), v = .bool b ∧ k' ≤ x.l.length ∧ [cblk c x k'] = L' ∧ R = R') := by
  refine tri_enter 11 Try.call44 Try.func44 rfl rfl rfl ?_
  refine qae ?_
  refine qaz ?_
  refine qam ?_
  refine qa6 ?_
  refine qaa ?_
  refine LJ_call rfl (next_tri c x k n _ hx hk (by omega)) rfl ?_
  rintro v L' R' ⟨r, k', rfl, h1, h2, h3, hk', rfl, rfl⟩
  refine qaa ?_
  refine qa9 ?_
  refine qbn ?_
  refine qaz ?_
  refine qa0 ?_
  refine q_b (L' := [cblk c x k']) (R' := R) ?_
  exact ⟨_, k', rfl, hk', rfl, rfl⟩

theorem range2_tri (c : Nat) (x : Arr Int) (k : Nat) (lo hi : Int) (R : List Sl) (hx : CodesR x R) (hk : k ≤ x.l.length) (hl : -400000 ≤ lo ∧ lo ≤ hi ∧ hi ≤ 400000) :
    Tri Try.prog 48 [.pointer (some ⟨c, 0, none⟩), .int .i64 lo, .int .i64 hi].toArray [cblk c x k] R
      (fun v L' R' => ∃ (r : Int) (k' : Nat), v = .int .i64 r ∧ lo ≤ r ∧ r ≤ hi ∧ k' ≤ x.l.length ∧ (x.l.length ≤ k → r = lo ∧ k' = k) ∧ [cblk c x k'] = L' ∧ R = R') := by
  refine tri_enter 15 Try.call48 Try.func48 rfl rfl rfl ?_
  refine qae ?_
  refine qad ?_
  refine qam ?_
  refine qaa ?_
  refine qa6 ?_
  refine qaa ?_
  refine qaa ?_
  refine qa9 ?_
  refine qar ?_
  refine LJ_call rfl (next2_tri c x k (hi - lo + 1) _ hx hk (by omega)) rfl ?_
  rintro v L' R' ⟨r, k', rfl, h1, h2, h3, hk', he, rfl, rfl⟩
  have h4 := h2 (by omega)
  refine qar ?_
  refine qad ?_
  refine qa0 ?_
  refine q_i (L' := [cblk c x k']) (R' := R) ?_
  exact ⟨_, k', rfl, by omega, by omega, hk', fun h => by have := he h; omega, rfl, rfl⟩

theorem range_tri (c : Nat) (x : Arr Int) (k : Nat) (lo hi : Int) (R : List Sl) (hx : CodesR x R) (hk : k ≤ x.l.length) (hl : -400000 ≤ lo ∧ lo ≤ hi ∧ hi ≤ 400000) :
    Tri Try.prog 48 [.pointer (some ⟨c, 0, none⟩), .int .i64 lo, .int .i64 hi].toArray [cblk c x k] R
      (fun v L' R' => ∃ (r : Int) (k' : Nat), v = .int .i64 r ∧ lo ≤ r ∧ r ≤ hi ∧ k' ≤ x.l.length ∧ [cblk c x k'] = L' ∧ R = R') :=
  (range2_tri c x k lo hi R hx hk hl).mono fun v L' R' ⟨r, k', h1, h2, h3, h5, _, h6, h7⟩ => ⟨r, k', h1, h2, h3, h5, h6, h7⟩

abbrev ccells (x : Arr Int) (k : Nat) : List Value := [x.val, .int .i64 (k : Int)]

theorem next1 {c : Nat} {x : Arr Int} {k : Nat} {n : Int} {L : List Blk} {F : List Value → List Blk} {R : List Sl} (hu : USeg c (ccells x k) 122 L F) (hx : CodesR x R) (hk : k ≤ x.l.length) (hn : n ≤ 1000000) :
    Tri Try.prog 43 [.pointer (some ⟨c, 0, none⟩), .int .i64 n].toArray L R
      (fun v L' R' => ∃ (r : Int) (k' : Nat), v = .int .i64 r ∧ 0 ≤ r ∧ (1 ≤ n → r < n) ∧ (n < 1 → r = 0) ∧ k' ≤ x.l.length ∧ F (ccells x k') = L' ∧ R = R') :=
  (Tri.at1 (Post' := fun v cs' R' => ∃ (r : Int) (k' : Nat), v = .int .i64 r ∧ 0 ≤ r ∧ (1 ≤ n → r < n) ∧ (n < 1 → r = 0) ∧ k' ≤ x.l.length ∧ cs' = ccells x k' ∧ R = R') hu (next_tri c x k n R hx hk hn)
    (fun v L' R' ⟨r, k', h1, h2, h3, h4, h5, h6, h7⟩ => ⟨_, h6, r, k', h1, h2, h3, h4, h5, rfl, h7⟩)).mono
    (fun v L' R' ⟨cs', h0, r, k', h1, h2, h3, h4, h5, h6, h7⟩ => ⟨r, k', h1, h2, h3, h4, h5, by rw [← h6]; exact h0, h7⟩)
theorem next12 {c : Nat} {x : Arr Int} {k : Nat} {n : Int} {L : List Blk} {F : List Value → List Blk} {R : List Sl} (hu : USeg c (ccells x k) 122 L F) (hx : CodesR x R) (hk : k ≤ x.l.length) (hn : n ≤ 1000000) :
    Tri Try.prog 43 [.pointer (some ⟨c, 0, none⟩), .int .i64 n].toArray L R
      (fun v L' R' => ∃ (r : Int) (k' : Nat), v = .int .i64 r ∧ 0 ≤ r ∧ (1 ≤ n → r < n) ∧ (n < 1 → r = 0) ∧ k' ≤ x.l.length ∧ (x.l.length ≤ k → r = 0 ∧ k' = k) ∧ F (ccells x k') = L' ∧ R = R') :=
  (Tri.at1 (Post' := fun v cs' R' => ∃ (r : Int) (k' : Nat), v = .int .i64 r ∧ 0 ≤ r ∧ (1 ≤ n → r < n) ∧ (n < 1 → r = 0) ∧ k' ≤ x.l.length ∧ (x.l.length ≤ k → r = 0 ∧ k' = k) ∧ cs' = ccells x k' ∧ R = R') hu (next2_tri c x k n R hx hk hn)
    (fun v L' R' ⟨r, k', h1, h2, h3, h4, h5, he, h6, h7⟩ => ⟨_, h6, r, k', h1, h2, h3, h4, h5, he, rfl, h7⟩)).mono
    (fun v L' R' ⟨cs', h0, r, k', h1, h2, h3, h4, h5, he, h6, h7⟩ => ⟨r, k', h1, h2, h3, h4, h5, he, by rw [← h6]; exact h0, h7⟩)
theorem one1 {c : Nat} {x : Arr Int} {k : Nat} {n : Int} {L : List Blk} {F : List Value → List Blk} {R : List Sl} (hu : USeg c (ccells x k) 122 L F) (hx : CodesR x R) (hk : k ≤ x.l.length) (hn : -1000000 ≤ n ∧ n ≤ 1000000) :
    Tri Try.prog 44 [.pointer (some ⟨c, 0, none⟩), .int .i64 n].toArray L R
      (fun v L' R' => ∃ (b : Bool) (k' : Nat), v = .bool b ∧ k' ≤ x.l.length ∧ F (ccells x k') = L' ∧ R = R') :=
  (Tri.at1 (Post' := fun v cs' R' => ∃ (b : Bool) (k' : Nat), v = .bool b ∧ k' ≤ x.l.length ∧ cs' = ccells x k' ∧ R = R') hu (one_tri c x k n R hx hk hn)
    (fun v L' R' ⟨b, k', h1, h5, h6, h7⟩ => ⟨_, h6, b, k', h1, h5, rfl, h7⟩)).mono
    (fun v L' R' ⟨cs', h0, b, k', h1, h5, h6, h7⟩ => ⟨b, k', h1, h5, by rw [← h6]; exact h0, h7⟩)
theorem range12 {c : Nat} {x : Arr Int} {k : Nat} {lo hi : Int} {L : List Blk} {F : List Value → List Blk} {R : List Sl} (hu : USeg c (ccells x k) 122 L F) (hx : CodesR x R) (hk : k ≤ x.l.length) (hl : -400000 ≤ lo ∧ lo ≤ hi ∧ hi ≤ 400000) :
    Tri Try.prog 48 [.pointer (some ⟨c, 0, none⟩), .int .i64 lo, .int .i64 hi].toArray L R
      (fun v L' R' => ∃ (r : Int) (k' : Nat), v = .int .i64 r ∧ lo ≤ r ∧ r ≤ hi ∧ k' ≤ x.l.length ∧ (x.l.length ≤ k → r = lo ∧ k' = k) ∧ F (ccells x k') = L' ∧ R = R') :=
  (Tri.at1 (Post' := fun v cs' R' => ∃ (r : Int) (k' : Nat), v = .int .i64 r ∧ lo ≤ r ∧ r ≤ hi ∧ k' ≤ x.l.length ∧ (x.l.length ≤ k → r = lo ∧ k' = k) ∧ cs' = ccells x k' ∧ R = R') hu (range2_tri c x k lo hi R hx hk hl)
    (fun v L' R' ⟨r, k', h1, h2, h3, h5, he, h6, h7⟩ => ⟨_, h6, r, k', h1, h2, h3, h5, he, rfl, h7⟩)).mono
    (fun v L' R' ⟨cs', h0, r, k', h1, h2, h3, h5, he, h6, h7⟩ => ⟨r, k', h1, h2, h3, h5, he, by rw [← h6]; exact h0, h7⟩)
end Go.Proofs.Ytkpfjmibipblhaa

end
end
section
/-
  Draws: MakeS, Make, BranchW, Draw1, Draw2, FitS, Fit, MadeS, Made, New, Base, in one text. By an AI agent; no person has read it.
-/
set_option linter.unusedSimpArgs false
set_option linter.unusedVariables false
section
namespace Go.Proofs.Ytkpfjmibipblhaa
open Go.Aw Go

end Go.Proofs.Ytkpfjmibipblhaa

end
section
namespace Go.Proofs.Ytkpfjmibipblhaa
open Go.Aw Go
set_option maxRecDepth 20000
attribute [local irreducible] CJ LJ DJ Tri YV Gives seqK blockK loopK retK RV mergeK OwL.L

end Go.Proofs.Ytkpfjmibipblhaa

end
section
namespace Go.Proofs.Ytkpfjmibipblhaa
open Go.Aw Go
set_option maxRecDepth 20000
attribute [local irreducible] CJ LJ DJ Tri YV Gives seqK blockK loopK retK RV mergeK OwL.L

end Go.Proofs.Ytkpfjmibipblhaa

end
section
namespace Go.Proofs.Ytkpfjmibipblhaa
open Go.Aw Go
set_option maxRecDepth 20000
attribute [local irreducible] CJ LJ DJ Tri YV Gives seqK blockK loopK retK RV mergeK OwL.L

theorem CodesR.mono {x : Arr Int} {R R' : List Sl} (h : CodesR x R) (k : ∀ r ∈ R, InR r R') : CodesR x R' := ⟨h.sl.mono k, h.byte⟩

structure MadeCurve (l : List XPoint) : Prop where
  len : 1 ≤ l.length ∧ l.length ≤ 4
  ok : CurveOk l
  top : (l.getD 0 default).pres ≤ 3000

structure MadeDoor (road : Int) (d : XDoor) : Prop where
  road : d.road = road
  other : d.other = -1
  len : 2 ≤ d.rests.l.length ∧ d.rests.l.length ≤ 4
  rest : ∀ (i : Nat) (v : Int), d.rests.l[i]? = some v → 0 ≤ v ∧ v ≤ 900
  falls : fallsB d.rests.l d.rests.l.length = true

end Go.Proofs.Ytkpfjmibipblhaa

end
section
namespace Go.Proofs.Ytkpfjmibipblhaa
open Go.Aw Go
set_option maxRecDepth 20000
attribute [local irreducible] CJ LJ DJ Tri YV Gives seqK blockK loopK retK RV mergeK OwL.L

end Go.Proofs.Ytkpfjmibipblhaa

end
section
namespace Go.Proofs.Ytkpfjmibipblhaa
open Go.Aw Go


end Go.Proofs.Ytkpfjmibipblhaa

end
section
namespace Go.Proofs.Ytkpfjmibipblhaa
open Go.Aw Go
set_option maxRecDepth 20000
attribute [local irreducible] CJ LJ DJ Tri YV Gives seqK blockK loopK retK RV mergeK OwL.L

end Go.Proofs.Ytkpfjmibipblhaa

end
section
namespace Go.Proofs.Ytkpfjmibipblhaa
open Go.Aw Go





structure MadeA (a : XAir) (t : XSetting) (x : XState) : Prop where
  err : airErr a = 0
  fit : fitB a t = true
  fits : fitsS a t x = 0
  nplaces : 1 ≤ a.mine.places.l.length ∧ a.mine.places.l.length ≤ 6
  nroads : a.mine.roads.l.length ≤ 9
  nfans : a.fans.l.length ≤ 2
  ndoors : a.doors.l.length ≤ 2
  small : ∀ (i : Nat) (r : XRoad), a.mine.roads.l[i]? = some r → (-260000000 ≤ r.lift.low ∧ r.lift.high ≤ 260000000) ∧ r.rest.high ≤ 22
  curve : ∀ f ∈ a.fans.l, MadeCurve f.curve.l
  rests : ∀ d ∈ a.doors.l, MadeDoor d.road d
  press : ∀ p ∈ x.pres.l, -4000 ≤ p ∧ p ≤ 4000
  surf0 : (a.mine.places.l.getD 0 default).surface = true
  shaft : ∀ v : Nat, v < a.mine.places.l.length → (a.mine.places.l.getD v default).surface = false → ∃ k u : Nat, k < a.mine.roads.l.length ∧ (a.mine.places.l.getD u default).surface = true ∧ (a.mine.roads.l.getD k default).closed = false ∧ (((a.mine.roads.l.getD k default).fr = (v : Int) ∧ (a.mine.roads.l.getD k default).to = (u : Int)) ∨ ((a.mine.roads.l.getD k default).fr = (u : Int) ∧ (a.mine.roads.l.getD k default).to = (v : Int)))

end Go.Proofs.Ytkpfjmibipblhaa

end
section
namespace Go.Proofs.Ytkpfjmibipblhaa
open Go.Aw Go
set_option maxRecDepth 20000
attribute [local irreducible] CJ LJ DJ Tri YV Gives seqK blockK loopK retK RV mergeK OwL.L

end Go.Proofs.Ytkpfjmibipblhaa

end
section
namespace Go.Proofs.Ytkpfjmibipblhaa
open Go.Aw Go
set_option maxRecDepth 20000
attribute [local irreducible] CJ LJ DJ Tri YV Gives seqK blockK loopK retK RV mergeK OwL.L

abbrev codes300 (y : Arr Int) : Arr Int := ⟨y.a, y.cap, y.l.take 300⟩

theorem new_tri (y : Arr Int) (L : List Blk) (R : List Sl) (hy : CodesR y R) :
    Tri Try.prog 12 [y.val].toArray L R (fun v L' R' => ∃ c, v = .pointer (some ⟨c, 0, none⟩) ∧ CodesR (codes300 y) R' ∧ cblk c (codes300 y) 0 :: L = L' ∧ bsl (codes300 y) :: R = R') := by
  have hsl := hy.sl
  refine Tri_cap Try.call12 hsl fun hyn => ?_
  refine tri_enter 10 Try.call12 Try.func12 rfl rfl rfl ?_
  refine qae ?_
  refine qc1 ?_
  refine qa4 ?_
  refine CJ_takeA 300 hsl ?_
  refine qay ?_
  refine qbm ?_
  refine qbm ?_
  refine qag ?_
  refine LJ_q (yv_min2 rfl rfl) rfl ?_
  refine LJ_q (yv_slice_h tb rfl rfl rfl rfl (n := (y.l.take 300).length) (by rw [List.length_take]; omega) (by rw [List.length_take]; omega)) rfl ?_
  refine LJ_q (yv_build (qs := [(0, (Value.slice _ _ _).cells.toList)]) (out := [_, _]) tb rfl rfl rfl rfl) rfl ?_
  refine qax ?_
  intro b9
  refine qc1 ?_
  refine qa0 ?_
  refine q_r (L' := cblk b9 (codes300 y) 0 :: L) (R' := bsl (codes300 y) :: R) (res1 rfl (rv_tmp (show _ = Value.pointer _ from rfl))) ?_
  exact ⟨b9, rfl, ⟨inR_self (by simp), fun i b hb => by rw [List.getElem?_take] at hb; split at hb; exact hy.byte i b hb; cases hb⟩, rfl, rfl⟩

end Go.Proofs.Ytkpfjmibipblhaa

end
section
namespace Go.Proofs.Ytkpfjmibipblhaa
open Go.Aw Go
set_option maxRecDepth 20000
attribute [local irreducible] CJ LJ DJ Tri YV Gives seqK blockK loopK retK RV mergeK OwL.L

end Go.Proofs.Ytkpfjmibipblhaa

end
end
section
/-
  From a contract to a statement: the frame. By an AI agent; no person has read it.
-/
set_option linter.unusedSimpArgs false
set_option linter.unusedVariables false
namespace Go.Proofs.Ytkpfjmibipblhaa
open Go.Aw Go
open Go.ChangeShapes Go.WideShapes Go.ChangeAt Go.RowKit

theorem own_knob : ownKnob Try.prog.godebug = none := by kernel_rfl
theorem laidOut : laidOutB Try.prog = true := by kernel_rfl

abbrev Old (W : World) : Nat → Prop := fun b => b < W.heap.size

theorem holds_old {W : World} {R : List Sl} (h : ∀ r ∈ R, Rep W (Old W) r) : Holds [] (Old W) R W :=
  ⟨List.nodup_nil, (fun e he => by cases he), (fun e he => by cases he), (fun _ h => h), h⟩

theorem below_of {W W' : World} {G : Nat → Prop} {L' : List Blk} {R' : List Sl} (h : St ⟨W, inL [], G⟩ L' R' W') : Below W.heap.size W W' :=
  ⟨h.keep.os, h.keep.tape, h.keep.output, h.keep.size, fun k hk => h.keep.block k hk (fun ⟨e, he, _⟩ => by cases he)⟩

theorem wf_u8 {n : Int} (h : (Lit.int .u8 n).wf = true) : 0 ≤ n ∧ n ≤ 255 := by
  simp only [Lit.wf, Bool.and_eq_true, decide_eq_true_eq] at h
  exact h

theorem cell_old {W : World} {a : Addr} {v : Value} (h : W.cell? a = some v) : a.block < W.heap.size := by
  rcases Nat.lt_or_ge a.block W.heap.size with h' | h'
  · exact h'
  · unfold World.cell? at h
    rw [Array.getElem?_eq_none h'] at h
    simp at h

end Go.Proofs.Ytkpfjmibipblhaa
end
section
/-
  Arguments, opened by their types. By an AI agent; no person has read it.
-/
set_option linter.unusedSimpArgs false
set_option linter.unusedVariables false
namespace Go.Proofs.Ytkpfjmibipblhaa
open Go.Aw Go
open Go.ChangeShapes Go.WideShapes Go.ChangeAt Go.RowKit

def Rd (P : Program) (w : World) (t : TypeId) (cs : List Value) : Prop := ∃ (H : Type) (enc : TypeId × Value → H) (fuel : Nat) (x : DataW H × List MemPlace), DataW.trod enc P w 0 (fun _ => true) true fuel t cs = some x

def Opens (P : Program) (t : TypeId) {α : Type} (f : α → List Value) (subs : α → List Sl) (ok : α → Prop) : Prop :=
  ∀ (w : World) (cs : List Value), Rd P w t cs → ∃ a : α, cs = f a ∧ ok a ∧ ∀ s ∈ subs a, Rep w (Old w) s

theorem opens_int {P : Program} {t : TypeId} {k : IntKind} (ht : P.underlying t = some (.int k)) : Opens P t (fun n => [.int k n]) (fun _ => []) (fun n => (Lit.int k n).wf = true) := by
  rintro w cs ⟨H, enc, fuel, x, hx⟩
  obtain ⟨n, rfl, _, hw⟩ := DataW.trod_int ht hx
  exact ⟨n, rfl, hw, fun _ h => by cases h⟩
theorem opens_slice {P : Program} {t e : TypeId} {wd : Nat} {α : Type} {f : α → List Value} {subs : α → List Sl} {ok : α → Prop} (ht : P.underlying t = some (.slice e)) (hc : P.cellsOf e = wd) (hw : 0 < wd) (hf : ∀ a, (f a).length = wd) (he : Opens P e f subs ok) :
    Opens P t (fun x : Arr α => [x.val]) (fun x => [x.sl wd f (x.l.flatMap subs)]) (fun x => ∀ a ∈ x.l, ok a) := by
  rintro w cs ⟨H, enc, fuel, x, hx⟩
  rcases DataW.trod_slice ht hx with ⟨rfl, _⟩ | ⟨a, len, cap, elems, rest, n, _, rfl, _, _, hl, hm, hlen, hel, _, _⟩
  · exact ⟨⟨none, 0, []⟩, rfl, (fun _ h => by cases h), fun s hs => by rw [List.mem_singleton.1 hs]; exact rep_nil⟩
  · have each : ∀ k, k ≤ len → ∃ l : List α, l.length = k ∧ (∀ (i : Nat) (y : α), l[i]? = some y → w.cells? 0 (a.add (i * wd)) wd = some (f y)) ∧ (∀ y ∈ l, ok y) ∧ ∀ s ∈ l.flatMap subs, Rep w (Old w) s := by
      intro k
      induction k with
      | zero => exact fun _ => ⟨[], rfl, (fun i y h => by simp at h), (fun _ h => by cases h), fun _ h => by simp at h⟩
      | succ k ih =>
        intro hk
        obtain ⟨l, h1, h2, h3, h4⟩ := ih (by omega)
        have hb := hel k (by omega)
        rw [List.getElem?_eq_getElem (by omega), hc, Option.bind_eq_some_iff] at hb
        obtain ⟨cs, hcs, hy⟩ := hb
        obtain ⟨y, rfl, hok, hsub⟩ := he w cs ⟨H, enc, n, _, hy⟩
        refine ⟨l ++ [y], by simp [h1], fun i z hi => ?_, fun z hz => ?_, fun s hs => ?_⟩
        · rcases Nat.lt_or_ge i l.length with hlt | hge
          · rw [List.getElem?_append_left hlt] at hi
            exact h2 i z hi
          · rw [List.getElem?_append_right hge] at hi
            obtain ⟨h5, h6⟩ := List.getElem?_eq_some_iff.1 hi
            simp at h5
            obtain rfl : i = k := by omega
            simp at h6
            rw [← h6]
            exact hcs
        · rcases List.mem_append.1 hz with h | h
          · exact h3 z h
          · rw [List.mem_singleton.1 h]; exact hok
        · rw [List.flatMap_append] at hs
          rcases List.mem_append.1 hs with h | h
          · exact h4 s h
          · exact hsub s (by simpa using h)
    obtain ⟨l, h1, h2, h3, h4⟩ := each len (Nat.le_refl _)
    refine ⟨⟨some a, cap, l⟩, by rw [← h1], h3, fun s hs => ?_⟩
    rw [List.mem_singleton.1 hs]
    refine .mk (by simp) (by rw [h1]; exact hl) (by simp only [maxLen] at hm; show cap < _; omega) (fun r hr => by obtain ⟨y, _, rfl⟩ := List.mem_map.1 hr; exact hf y) ?_ h4
    rcases Nat.eq_zero_or_pos len with h0 | h0
    · left
      cases l with
      | nil => rfl
      | cons y l => simp at h1; omega
    · right
      have cell : ∀ (i j : Nat) (y : α), l[i]? = some y → j < wd → w.cell? ((a.add (i * wd)).add j) = (f y)[j]? := fun i j y hi hj => by
        obtain ⟨_, h7, h8⟩ := World.cells?_some (h2 i y hi)
        exact h8 j (by omega)
      obtain ⟨y0, hy0⟩ := get_some (l := l) (k := 0) (by omega)
      obtain ⟨v0, hv0⟩ := get_some (l := f y0) (k := 0) (by rw [hf]; omega)
      have hc0 := cell 0 0 y0 hy0 hw
      rw [hv0] at hc0
      obtain ⟨b, off, spot⟩ := a
      have hspot : spot = none := by simpa [Addr.add] using World.cell?_spot hc0
      subst hspot
      refine ⟨b, off, rfl, cell_old (a := ⟨b, off, none⟩) (v := v0) (by simpa [Addr.add] using hc0), fun i j hi hj => ?_⟩
      obtain ⟨y, hy⟩ := get_some (l := l) (k := i) hi
      have := cell i j y hy hj
      rw [add_none, add_none] at this
      rw [this, List.getElem?_map, hy]
      rfl

theorem Opens.conv {P : Program} {t : TypeId} {α : Type} {f : α → List Value} {subs subs' : α → List Sl} {ok ok' : α → Prop} (h : Opens P t f subs ok) (hs : ∀ a, subs' a = subs a) (ho : ∀ a, ok a → ok' a) : Opens P t f subs' ok' := fun w cs hr => by
  obtain ⟨a, h1, h2, h3⟩ := h w cs hr
  exact ⟨a, h1, ho a h2, by rw [hs a]; exact h3⟩

theorem flat_none {α : Type} (l : List α) : l.flatMap (fun _ => ([] : List Sl)) = [] := by induction l <;> simp_all
theorem op_u8 : Opens Try.prog 5 (fun n : Int => [.int .u8 n]) (fun _ => []) (fun n => (Lit.int .u8 n).wf = true) := opens_int Try.underlying5
theorem op_bytes : Opens Try.prog 22 (fun x : Arr Int => [x.val]) (fun x => [bsl x]) (fun x => ∀ n ∈ x.l, (Lit.int .u8 n).wf = true) :=
  (opens_slice (wd := 1) Try.underlying22 (by kernel_rfl) (by decide) (fun _ => rfl) op_u8).conv (fun x => by rw [flat_none]; rfl) (fun _ h => h)
end Go.Proofs.Ytkpfjmibipblhaa
end
section
/-
  Places that open roads connect. By an AI agent; no person has read it.
-/
set_option linter.unusedSimpArgs false
set_option linter.unusedVariables false
namespace Go.Proofs.Ytkpfjmibipblhaa
open Go.Aw Go

def blc (b : Bool) : List Value := [.bool b]
theorem blc_len (b : Bool) : (blc b).length = 1 := rfl
end Go.Proofs.Ytkpfjmibipblhaa
end
