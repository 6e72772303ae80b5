/-
  What draught.Make makes, in plain numbers. By an AI agent; no person has read it.
-/
import Derived.Test.YtimnnhdeicpenaaSpec
import Derived.Test.YtimnnhdeicpenaaOwn
set_option linter.unusedSimpArgs false
set_option linter.unusedVariables false
namespace Go.Proofs.Ytimnnhdeicpenaa
open Go.Aw Go

/-- what the first k doors add to each road -/
def restsTo (a : XAir) (s : XSetting) : Nat → List XSpan
  | 0 => List.replicate a.mine.roads.l.length ⟨0, 0⟩
  | k + 1 =>
    let d := a.doors.l.getD k default
    let x := restS d (s.doors.l.getD k 0)
    let y := (restsTo a s k).getD d.road.toNat default
    (restsTo a s k).set d.road.toNat ⟨y.low + x.low, y.high + x.high⟩

theorem restsTo_length (a : XAir) (s : XSetting) : ∀ k, (restsTo a s k).length = a.mine.roads.l.length
  | 0 => by simp [restsTo]
  | k + 1 => by simp only [restsTo, List.length_set]; exact restsTo_length a s k

theorem restsTo_get {a : XAir} {s : XSetting} (ha : AirOk a) {r : Nat} (hr : r < a.mine.roads.l.length) : ∀ k, k ≤ a.doors.l.length → ∃ x : XSpan, (restsTo a s k)[r]? = some x ∧
    (restTo a s r k).low = (a.mine.roads.l.getD r default).rest.low + x.low ∧ (restTo a s r k).high = (a.mine.roads.l.getD r default).rest.high + x.high
  | 0, _ => ⟨⟨0, 0⟩, by simp [restsTo, hr], by simp [restTo], by simp [restTo]⟩
  | k + 1, hk => by
    obtain ⟨x, h1, h2, h3⟩ := restsTo_get (s := s) ha hr k (by omega)
    have hd := ha.door k _ (get_D default (show k < a.doors.l.length by omega))
    have hd0 := hd.1.road
    simp only [restsTo, restTo]
    by_cases he : (a.doors.l.getD k default).road = (r : Int)
    · rw [if_pos he]
      have he' : (a.doors.l.getD k default).road.toNat = r := by omega
      rw [he']
      have hg : (restsTo a s k).getD r default = x := by rw [List.getD_eq_getElem?_getD, h1]; rfl
      refine ⟨_, List.getElem?_set_self (by rw [restsTo_length]; exact hr), ?_, ?_⟩ <;> rw [hg] <;> dsimp only <;> omega
    · rw [if_neg he]
      have he' : ¬ (a.doors.l.getD k default).road.toNat = r := by omega
      exact ⟨x, by rw [List.getElem?_set_ne he']; exact h1, h2, h3⟩

/-- the open roads among the first k ones -/
def openTo (a : XAir) : Nat → List Nat
  | 0 => []
  | k + 1 => if (a.mine.roads.l.getD k default).closed = true then openTo a k else openTo a k ++ [k]
/-- the indices of the open roads that end at place v -/
def atTo (a : XAir) (v : Nat) : Nat → List Int
  | 0 => []
  | k + 1 =>
    if (a.mine.roads.l.getD k default).closed = true then atTo a v k
    else if (a.mine.roads.l.getD k default).fr = (v : Int) ∨ (a.mine.roads.l.getD k default).to = (v : Int) then atTo a v k ++ [((openTo a k).length : Int)]
    else atTo a v k

theorem openTo_length (a : XAir) : ∀ k, (openTo a k).length ≤ k
  | 0 => by simp [openTo]
  | k + 1 => by
    have := openTo_length a k
    simp only [openTo]
    split
    · omega
    · simp; omega
theorem atTo_length (a : XAir) (v : Nat) : ∀ k, (atTo a v k).length ≤ k
  | 0 => by simp [atTo]
  | k + 1 => by
    have := atTo_length a v k
    simp only [atTo]
    split
    · omega
    · split
      · simp; omega
      · omega

structure XNet where
  pipes : Arr XPipe
  at_ : Arr (Arr Int)
abbrev XNet.val (n : XNet) : Value := .agg #[n.pipes.val, n.at_.val]
def XNet.cells (n : XNet) : List Value := [n.pipes.val, n.at_.val]
def acell (x : Arr Int) : List Value := [x.val]
abbrev ppsl (x : Arr XPipe) : Sl := x.sl 12 XPipe.cells (x.l.map XPipe.sl)
abbrev aasl (x : Arr (Arr Int)) : Sl := x.sl 1 acell (x.l.map isl)

structure NetIs (a : XAir) (s : XSetting) (n : XNet) : Prop where
  nums : n.pipes.l.map XPipe.num = (openTo a a.mine.roads.l.length).map fun (i : Nat) => (i : Int)
  pipe : ∀ p ∈ n.pipes.l, PipeIs a s p.num p
  atl : n.at_.l.length = a.mine.places.l.length
  at_ : ∀ (v : Nat) (x : Arr Int), n.at_.l[v]? = some x → x.l = atTo a v a.mine.roads.l.length

/-- the fans of each road behind k of them -/
structure MF (a : XAir) (s : XSetting) (k : Nat) (F : List (OwL XBlow)) : Prop where
  len : F.length = a.mine.roads.l.length
  ok : ∀ (r : Nat) (p : OwL XBlow), F[r]? = some p → p.ok 5 XBlow.cells ∧ p.l = blowsTo a s r k

theorem MF.zero (a : XAir) (s : XSetting) : MF a s 0 (List.replicate a.mine.roads.l.length OwL.nil) := by
  refine ⟨by simp, fun r p hp => ?_⟩
  rw [List.getElem?_replicate] at hp
  split at hp
  · cases hp; exact ⟨OwL.nil_ok, rfl⟩
  · cases hp

theorem MF.stay {a : XAir} {s : XSetting} {k : Nat} {F : List (OwL XBlow)} (h : MF a s k F) (hs : s.fans.l.getD k 0 = 0) : MF a s (k + 1) F := by
  refine ⟨h.len, fun r p hp => ?_⟩
  rw [blowsTo, if_neg (fun h => h.1 hs)]
  exact h.ok r p hp

theorem MF.next {a : XAir} {s : XSetting} {k : Nat} {F : List (OwL XBlow)} (h : MF a s k F) (hs : ¬ s.fans.l.getD k 0 = 0) {i : Nat} (hi : (i : Int) = (a.fans.l.getD k default).road) {p : OwL XBlow} (hp : F[i]? = some p) {o : Ow}
    (ho : (⟨o, p.l ++ [⟨a.fans.l.getD k default, s.fans.l.getD k 0⟩]⟩ : OwL XBlow).ok 5 XBlow.cells) : MF a s (k + 1) (F.set i ⟨o, p.l ++ [⟨a.fans.l.getD k default, s.fans.l.getD k 0⟩]⟩) := by
  refine ⟨by simp [h.len], fun r q hq => ?_⟩
  rw [List.getElem?_set] at hq
  split at hq
  · rename_i hri
    subst hri
    split at hq
    · cases hq
      refine ⟨ho, ?_⟩
      dsimp only
      rw [blowsTo, if_pos ⟨hs, hi.symm⟩, (h.ok i p hp).2]
    · cases hq
  · rename_i hri
    rw [blowsTo, if_neg (fun h => hri (by omega))]
    exact h.ok r q hq

/-- the ends at each place behind k roads -/
structure MA (a : XAir) (k : Nat) (G : List (OwL Int)) : Prop where
  len : G.length = a.mine.places.l.length
  ok : ∀ (v : Nat) (p : OwL Int), G[v]? = some p → p.ok 1 icell ∧ p.l = atTo a v k

theorem MA.zero (a : XAir) : MA a 0 (List.replicate a.mine.places.l.length OwL.nil) := by
  refine ⟨by simp, fun r p hp => ?_⟩
  rw [List.getElem?_replicate] at hp
  split at hp
  · cases hp; exact ⟨OwL.nil_ok, rfl⟩
  · cases hp

theorem MA.stay {a : XAir} {k : Nat} {G : List (OwL Int)} (h : MA a k G) (hc : (a.mine.roads.l.getD k default).closed = true) : MA a (k + 1) G := by
  refine ⟨h.len, fun v p hp => ?_⟩
  rw [atTo, if_pos hc]
  exact h.ok v p hp

theorem MA.next {a : XAir} {k : Nat} {G : List (OwL Int)} (h : MA a k G) (hc : ¬ (a.mine.roads.l.getD k default).closed = true) {i j : Nat} (hi : (i : Int) = (a.mine.roads.l.getD k default).fr) (hj : (j : Int) = (a.mine.roads.l.getD k default).to) (hne : i ≠ j)
    {p q : OwL Int} (hp : G[i]? = some p) (hq : G[j]? = some q) {o o' : Ow} {n : Int} (hn : n = ((openTo a k).length : Int)) (ho : (⟨o, p.l ++ [n]⟩ : OwL Int).ok 1 icell) (ho' : (⟨o', q.l ++ [n]⟩ : OwL Int).ok 1 icell) :
    MA a (k + 1) ((G.set i ⟨o, p.l ++ [n]⟩).set j ⟨o', q.l ++ [n]⟩) := by
  refine ⟨by simp [h.len], fun v x hx => ?_⟩
  rw [atTo, if_neg hc]
  rw [List.getElem?_set] at hx
  split at hx
  · rename_i hv
    subst hv
    split at hx
    · cases hx
      refine ⟨ho', ?_⟩
      dsimp only
      rw [if_pos (.inr hj.symm), (h.ok j q hq).2, hn]
    · cases hx
  · rename_i hv
    rw [List.getElem?_set] at hx
    split at hx
    · rename_i hv2
      subst hv2
      split at hx
      · cases hx
        refine ⟨ho, ?_⟩
        dsimp only
        rw [if_pos (.inl hi.symm), (h.ok i p hp).2, hn]
      · cases hx
    · rename_i hv2
      rw [if_neg (by omega)]
      exact h.ok v x hx

/-- the pipes behind k roads -/
structure MP (a : XAir) (s : XSetting) (S : List Sl) (k : Nat) (P : OwL XPipe) : Prop where
  ok : P.ok 12 XPipe.cells
  nums : P.l.map XPipe.num = (openTo a k).map fun (i : Nat) => (i : Int)
  pipe : ∀ p ∈ P.l, PipeIs a s p.num p ∧ InR p.sl S

theorem MP.length {a : XAir} {s : XSetting} {S : List Sl} {k : Nat} {P : OwL XPipe} (h : MP a s S k P) : P.l.length = (openTo a k).length := by
  have := congrArg List.length h.nums
  simpa using this

theorem MP.zero (a : XAir) (s : XSetting) (S : List Sl) : MP a s S 0 OwL.nil := ⟨OwL.nil_ok, rfl, fun _ h => by cases h⟩
theorem MP.stay {a : XAir} {s : XSetting} {S : List Sl} {k : Nat} {P : OwL XPipe} (h : MP a s S k P) (hc : (a.mine.roads.l.getD k default).closed = true) : MP a s S (k + 1) P :=
  ⟨h.ok, by rw [openTo, if_pos hc]; exact h.nums, h.pipe⟩
theorem MP.next {a : XAir} {s : XSetting} {S : List Sl} {k : Nat} {P : OwL XPipe} (h : MP a s S k P) (hc : ¬ (a.mine.roads.l.getD k default).closed = true) {p : XPipe} (hp : PipeIs a s k p) (hs : InR p.sl S) {o : Ow} (ho : (⟨o, P.l ++ [p]⟩ : OwL XPipe).ok 12 XPipe.cells) :
    MP a s S (k + 1) ⟨o, P.l ++ [p]⟩ := by
  refine ⟨ho, ?_, fun q hq => ?_⟩
  · rw [openTo, if_neg hc]
    simp [h.nums, hp.num]
  · rcases List.mem_append.1 hq with hq | hq
    · exact h.pipe q hq
    · rw [List.mem_singleton.1 hq]
      refine ⟨?_, hs⟩
      rw [hp.num]
      exact hp

theorem flat_nil {α : Type} {T : TypeId} {f : α → List Value} (n : Nat) : (List.replicate n (OwL.nil : OwL α)).flatMap (OwL.L T f) = [] := by
  induction n with
  | zero => rfl
  | succ n ih => rw [List.replicate_succ, List.flatMap_cons, ih]; rfl
theorem zrep_nil {α : Type} (n : Nat) : zrep [.slice none 0 0] n = (List.replicate n (OwL.nil : OwL α)).flatMap hcell := zrep_rows (f := hcell) (x := OwL.nil) rfl n
theorem zrep_span (n : Nat) : zrep [.int .i64 0, .int .i64 0] n = (List.replicate n (⟨0, 0⟩ : XSpan)).flatMap XSpan.cells := zrep_rows (f := XSpan.cells) (x := ⟨0, 0⟩) rfl n
theorem span_len (x : XSpan) : x.cells.length = 2 := rfl
theorem blow_len (x : XBlow) : x.cells.length = 5 := rfl
theorem pipe_len (x : XPipe) : x.cells.length = 12 := rfl

end Go.Proofs.Ytimnnhdeicpenaa
