/-
  The parts of a mine, in plain numbers: places are labelled by a search from place to place. By an AI agent; no person has read it.
-/
import Derived.Test.YtlgjgigciapkfaaGraph
import Derived.Test.YtlgjgigciapkfaaDraws
import Derived.Test.YtlgjgigciapkfaaNets
set_option linter.unusedSimpArgs false
set_option linter.unusedVariables false
namespace Go.Proofs.Ytlgjgigciapkfaa
open Go.Aw Go

/-- the places next to v, by the first k roads -/
def nearTo (m : XMine) (v : Nat) : Nat → List Int
  | 0 => []
  | k + 1 => if (m.roads.l.getD k default).closed = true then nearTo m v k
    else if (m.roads.l.getD k default).fr = (v : Int) then nearTo m v k ++ [(m.roads.l.getD k default).to]
    else if (m.roads.l.getD k default).to = (v : Int) then nearTo m v k ++ [(m.roads.l.getD k default).fr] else nearTo m v k
theorem nearTo_length (m : XMine) (v : Nat) : ∀ k, (nearTo m v k).length ≤ k
  | 0 => by simp [nearTo]
  | k + 1 => by
    have := nearTo_length m v k
    rw [nearTo]
    split
    · omega
    · split
      · simp only [List.length_append, List.length_singleton]; omega
      · split
        · simp only [List.length_append, List.length_singleton]; omega
        · omega
theorem nearTo_step {m : XMine} (hm : MineOk m) {v : Nat} : ∀ k, k ≤ m.roads.l.length → ∀ e ∈ nearTo m v k, ∃ w : Nat, e = (w : Int) ∧ Step m v w
  | 0, _, e, h => by cases h
  | k + 1, hk, e, h => by
    have ih := nearTo_step hm (v := v) k (by omega) e
    have hg := get_D (l := m.roads.l) (k := k) default (by omega)
    have hro := hm.road k _ hg
    have h1 := hro.fr
    have h2 := hro.to
    have hmem := List.mem_of_getElem? hg
    rw [nearTo] at h
    split at h
    · exact ih h
    · rename_i hc
      have hc : (m.roads.l.getD k default).closed = false := by simpa using hc
      split at h
      · rename_i hf
        rcases List.mem_append.1 h with h | h
        · exact ih h
        · rw [List.mem_singleton.1 h]
          exact ⟨(m.roads.l.getD k default).to.toNat, by omega, _, hmem, hc, .inl ⟨hf, by omega⟩⟩
      · split at h
        · rename_i hf ht
          rcases List.mem_append.1 h with h | h
          · exact ih h
          · rw [List.mem_singleton.1 h]
            exact ⟨(m.roads.l.getD k default).fr.toNat, by omega, _, hmem, hc, .inr ⟨by omega, ht⟩⟩
        · exact ih h
theorem nearTo_mono (m : XMine) (v : Nat) {k : Nat} : ∀ {n : Nat}, k ≤ n → ∀ e ∈ nearTo m v k, e ∈ nearTo m v n
  | 0, h, e, he => by rw [show k = 0 by omega] at he; exact he
  | n + 1, h, e, he => by
    rcases Nat.lt_or_ge n k with h' | h'
    · rw [show k = n + 1 by omega] at he; exact he
    · have := nearTo_mono m v (n := n) h' e he
      rw [nearTo]
      split
      · exact this
      · split
        · exact List.mem_append_left _ this
        · split
          · exact List.mem_append_left _ this
          · exact this
theorem step_nearTo {m : XMine} (hm : MineOk m) {v w : Nat} (h : Step m v w) : (w : Int) ∈ nearTo m v m.roads.l.length := by
  obtain ⟨r, hr, hc, h1⟩ := h
  obtain ⟨i, hi⟩ := List.mem_iff_getElem?.1 hr
  have hil := (List.getElem?_eq_some_iff.1 hi).1
  have hro := hm.road i r hi
  have hne := hro.ne
  have hgr : m.roads.l.getD i default = r := getD_some hi
  refine nearTo_mono m v (k := i + 1) hil _ ?_
  rw [nearTo, hgr, if_neg (by rw [hc]; decide)]
  rcases h1 with h1 | h1
  · rw [if_pos h1.1, h1.2]; simp
  · rw [if_neg (by omega), if_pos h1.2, h1.1]; simp

structure NB (m : XMine) (k : Nat) (G : List (OwL Int)) : Prop where
  len : G.length = m.places.l.length
  ok : ∀ (v : Nat) (p : OwL Int), G[v]? = some p → p.ok 1 icell ∧ p.l = nearTo m v k
theorem NB.zero (m : XMine) : NB m 0 (List.replicate m.places.l.length OwL.nil) := by
  refine ⟨by simp, fun r p hp => ?_⟩
  rw [List.getElem?_replicate] at hp
  split at hp
  · cases hp; exact ⟨OwL.nil_ok, rfl⟩
  · cases hp
theorem NB.stay {m : XMine} {k : Nat} {G : List (OwL Int)} (h : NB m k G) (hc : (m.roads.l.getD k default).closed = true) : NB m (k + 1) G :=
  ⟨h.len, fun v p hp => ⟨(h.ok v p hp).1, by rw [nearTo, if_pos hc]; exact (h.ok v p hp).2⟩⟩
theorem NB.next {m : XMine} {k : Nat} {G : List (OwL Int)} (h : NB m k G) (hc : ¬ (m.roads.l.getD k default).closed = true) {i j : Nat} (hi : (i : Int) = (m.roads.l.getD k default).fr) (hj : (j : Int) = (m.roads.l.getD k default).to) (hne : i ≠ j)
    {p q : OwL Int} (hp : G[i]? = some p) (hq : G[j]? = some q) {o o' : Ow} (hok : (⟨o, p.l ++ [(m.roads.l.getD k default).to]⟩ : OwL Int).ok 1 icell) (hok' : (⟨o', q.l ++ [(m.roads.l.getD k default).fr]⟩ : OwL Int).ok 1 icell) :
    NB m (k + 1) ((G.set i ⟨o, p.l ++ [(m.roads.l.getD k default).to]⟩).set j ⟨o', q.l ++ [(m.roads.l.getD k default).fr]⟩) := by
  refine ⟨by simp [h.len], fun v x hx => ?_⟩
  rw [List.getElem?_set] at hx
  split at hx
  · rename_i e
    subst e
    split at hx
    · cases hx
      refine ⟨hok', ?_⟩
      rw [nearTo, if_neg hc, if_neg (by omega), if_pos (by omega), (h.ok _ q hq).2]
    · cases hx
  · rename_i e
    rw [List.getElem?_set] at hx
    split at hx
    · rename_i e2
      subst e2
      split at hx
      · cases hx
        refine ⟨hok, ?_⟩
        rw [nearTo, if_neg hc, if_pos (by omega), (h.ok _ p hp).2]
      · cases hx
    · rename_i e2
      refine ⟨(h.ok v x hx).1, ?_⟩
      rw [nearTo, if_neg hc, if_neg (by omega), if_neg (by omega)]
      exact (h.ok v x hx).2

/-! labels -/
abbrev lb (f : List Int) (v : Nat) : Int := f.getD v (-1)
theorem lb_set {f : List Int} {k i : Nat} {x : Int} (hk : k < f.length) : lb (f.set k x) i = if i = k then x else lb f i := by
  unfold lb
  rw [List.getD_eq_getElem?_getD, List.getElem?_set, List.getD_eq_getElem?_getD]
  split
  · rename_i h; subst h; simp [hk]
  · rename_i h; rw [if_neg (fun e => h e.symm)]
theorem lb_lt {f : List Int} {v : Nat} (h : 0 ≤ lb f v) : v < f.length := by
  rcases Nat.lt_or_ge v f.length with h' | h'
  · exact h'
  · unfold lb at h; rw [List.getD_eq_getElem?_getD, List.getElem?_eq_none h'] at h; simp at h
/-- whole parts have labels below n -/
structure Lab (m : XMine) (f : List Int) (n : Int) : Prop where
  len : f.length = m.places.l.length
  rng : ∀ v, -1 ≤ lb f v ∧ lb f v < n
  n0 : 0 ≤ n
  clo : ∀ u v, 0 ≤ lb f u → Step m u v → lb f v = lb f u
  con : ∀ u v, 0 ≤ lb f u → lb f u = lb f v → Conn m u v
/-- part n is being labelled, from place i on -/
structure Dfs (m : XMine) (f0 f : List Int) (n : Int) (i : Nat) (todo : List Int) (ex : Nat → Prop) : Prop where
  len : f.length = m.places.l.length
  old : ∀ v, 0 ≤ lb f0 v → lb f v = lb f0 v
  new : ∀ v, lb f0 v < 0 → lb f v = -1 ∨ (lb f v = n ∧ Conn m i v)
  start : lb f i = n ∧ lb f0 i < 0
  tds : ∀ e ∈ todo, ∃ v : Nat, e = (v : Int) ∧ lb f0 v < 0 ∧ lb f v = n
  clo : ∀ u, lb f0 u < 0 → lb f u = n → (u : Int) ∈ todo ∨ ex u ∨ ∀ v, Step m u v → lb f v = n
theorem Lab.start {m : XMine} {f : List Int} {n : Int} (h : Lab m f n) {i : Nat} (hi : i < m.places.l.length) (hn : lb f i < 0) : Dfs m f (f.set i n) n i [(i : Int)] (fun _ => False) := by
  have hl := h.len
  refine ⟨by simp [hl], fun v hv => ?_, fun v hv => ?_, ⟨by rw [lb_set (by omega), if_pos rfl], hn⟩, fun e he => ?_, fun u hu hu2 => ?_⟩
  · rw [lb_set (by omega), if_neg (fun e => by rw [e] at hv; omega)]
  · rw [lb_set (by omega)]
    split
    · rename_i e; rw [e]; exact .inr ⟨rfl, .refl⟩
    · left; have := h.rng v; omega
  · rw [List.mem_singleton.1 he]; exact ⟨i, rfl, hn, by rw [lb_set (by omega), if_pos rfl]⟩
  · rw [lb_set (by omega)] at hu2
    split at hu2
    · rename_i e; rw [e]; exact .inl (by simp)
    · have := h.rng u; omega
/-- a place next to one of the part is labelled n, or not labelled -/
theorem Dfs.next_lb {m : XMine} {f0 f : List Int} {n : Int} {i : Nat} {todo : List Int} {ex : Nat → Prop} (h : Dfs m f0 f n i todo ex) (hl : Lab m f0 n) {p q : Nat} (hp : lb f0 p < 0) (hs : Step m p q) : lb f0 q < 0 := by
  rcases Int.lt_or_le (lb f0 q) 0 with h' | h'
  · exact h'
  · have := hl.clo q p h' hs.symm
    omega
theorem Dfs.push {m : XMine} {f0 f : List Int} {n : Int} {i : Nat} {todo : List Int} {ex : Nat → Prop} (h : Dfs m f0 f n i todo ex) (hl : Lab m f0 n) {p q : Nat} (hp : lb f0 p < 0 ∧ lb f p = n) (hs : Step m p q) (hq : q < m.places.l.length) (hf : lb f q < 0) : Dfs m f0 (f.set q n) n i (todo ++ [(q : Int)]) ex := by
  have hln := h.len
  have hq0 := h.next_lb hl hp.1 hs
  have hci : Conn m i p := by
    rcases h.new p hp.1 with h1 | h1
    · have := hl.n0; omega
    · exact h1.2
  have hn0 := hl.n0
  refine ⟨by simp [hln], fun v hv => ?_, fun v hv => ?_, ⟨?_, h.start.2⟩, fun e he => ?_, fun u hu hu2 => ?_⟩
  · rw [lb_set (by omega), if_neg (fun e => by rw [e] at hv; omega)]; exact h.old v hv
  · rw [lb_set (by omega)]
    split
    · rename_i e; rw [e]; exact .inr ⟨rfl, hci.tail hs⟩
    · exact h.new v hv
  · rw [lb_set (by omega)]
    split
    · rfl
    · exact h.start.1
  · rcases List.mem_append.1 he with h1 | h1
    · obtain ⟨v, a1, a2, a3⟩ := h.tds e h1
      refine ⟨v, a1, a2, ?_⟩
      rw [lb_set (by omega)]
      split
      · rfl
      · exact a3
    · rw [List.mem_singleton.1 h1]
      exact ⟨q, rfl, hq0, by rw [lb_set (by omega), if_pos rfl]⟩
  · rw [lb_set (by omega)] at hu2
    split at hu2
    · rename_i e; rw [e]; exact .inl (by simp)
    · rcases h.clo u hu hu2 with h1 | h1 | h1
      · exact .inl (List.mem_append_left _ h1)
      · exact .inr (.inl h1)
      · refine .inr (.inr fun v hv => ?_)
        rw [lb_set (by omega)]
        split
        · rfl
        · exact h1 v hv
/-- one place is taken off -/
theorem Dfs.pop {m : XMine} {f0 f : List Int} {n : Int} {i : Nat} {todo : List Int} {p : Nat} (h : Dfs m f0 f n i (todo ++ [(p : Int)]) (fun _ => False)) : Dfs m f0 f n i todo (fun u => u = p) := by
  refine ⟨h.len, h.old, h.new, h.start, fun e he => h.tds e (List.mem_append_left _ he), fun u hu hu2 => ?_⟩
  rcases h.clo u hu hu2 with h1 | h1 | h1
  · rcases List.mem_append.1 h1 with h2 | h2
    · exact .inl h2
    · have := List.mem_singleton.1 h2
      exact .inr (.inl (by omega))
  · exact absurd h1 id
  · exact .inr (.inr h1)
/-- all places next to it are labelled -/
theorem Dfs.through {m : XMine} {f0 f : List Int} {n : Int} {i : Nat} {todo : List Int} {p : Nat} (h : Dfs m f0 f n i todo (fun u => u = p)) (hp : ∀ v, Step m p v → lb f v = n) : Dfs m f0 f n i todo (fun _ => False) := by
  refine ⟨h.len, h.old, h.new, h.start, h.tds, fun u hu hu2 => ?_⟩
  rcases h.clo u hu hu2 with h1 | h1 | h1
  · exact .inl h1
  · rw [h1]; exact .inr (.inr hp)
  · exact .inr (.inr h1)
theorem Dfs.done {m : XMine} {f0 f : List Int} {n : Int} {i : Nat} (h : Dfs m f0 f n i [] (fun _ => False)) (hl : Lab m f0 n) : Lab m f (n + 1) := by
  have hn0 := hl.n0
  have cases_ : ∀ v, (0 ≤ lb f0 v ∧ lb f v = lb f0 v) ∨ (lb f0 v < 0 ∧ lb f v = -1) ∨ (lb f0 v < 0 ∧ lb f v = n ∧ Conn m i v) := fun v => by
    rcases Int.lt_or_le (lb f0 v) 0 with h1 | h1
    · rcases h.new v h1 with h2 | h2
      · exact .inr (.inl ⟨h1, h2⟩)
      · exact .inr (.inr ⟨h1, h2⟩)
    · exact .inl ⟨h1, h.old v h1⟩
  refine ⟨h.len, fun v => ?_, by omega, fun u v hu hs => ?_, fun u v hu he => ?_⟩
  · have := hl.rng v
    rcases cases_ v with h1 | h1 | h1 <;> omega
  · rcases cases_ u with h1 | h1 | h1
    · have h2 := hl.clo u v h1.1 hs
      rw [h.old v (by omega), h1.2, h2]
    · omega
    · rcases h.clo u h1.1 h1.2.1 with h2 | h2 | h2
      · cases h2
      · exact absurd h2 id
      · rw [h2 v hs, h1.2.1]
  · have ru := hl.rng u
    have rv := hl.rng v
    rcases cases_ u with h1 | h1 | h1
    · rcases cases_ v with h2 | h2 | h2
      · exact hl.con u v h1.1 (by omega)
      · omega
      · omega
    · omega
    · rcases cases_ v with h2 | h2 | h2
      · omega
      · omega
      · exact h1.2.2.symm.trans h2.2.2
theorem Lab.init {m : XMine} : Lab m (List.replicate m.places.l.length (-1)) 0 := by
  have e : ∀ v, lb (List.replicate m.places.l.length (-1)) v = -1 := fun v => by
    unfold lb
    rw [List.getD_eq_getElem?_getD, List.getElem?_replicate]
    split <;> rfl
  refine ⟨by simp, fun v => by rw [e]; omega, by omega, fun u v hu => by rw [e] at hu; omega, fun u v hu => by rw [e] at hu; omega⟩
/-- the labels tell what is connected -/
structure PartIs (m : XMine) (f : List Int) (n : Int) : Prop where
  len : f.length = m.places.l.length
  rng : ∀ v, v < m.places.l.length → 0 ≤ lb f v ∧ lb f v < n
  n : 0 ≤ n ∧ n ≤ m.places.l.length
  iff : ∀ u v, u < m.places.l.length → v < m.places.l.length → (lb f u = lb f v ↔ Conn m u v)
theorem Lab.part {m : XMine} {f : List Int} {n : Int} (h : Lab m f n) (ha : ∀ v, v < m.places.l.length → 0 ≤ lb f v) (hn : n ≤ m.places.l.length) : PartIs m f n := by
  refine ⟨h.len, fun v hv => ⟨ha v hv, (h.rng v).2⟩, ⟨h.n0, hn⟩, fun u v hu hv => ⟨fun he => h.con u v (ha u hu) he, fun hc => ?_⟩⟩
  have := Conn.closed (P := fun x => 0 ≤ lb f x ∧ lb f x = lb f u) (fun x y hx hs => by
    have := h.clo x y hx.1 hs
    omega) hc ⟨ha u hu, rfl⟩
  exact this.2.symm
def nNeg (f : List Int) : Nat := f.countP (fun x => decide (x < 0))
theorem nNeg_set {f : List Int} {q : Nat} {n : Int} (hq : q < f.length) (hf : lb f q < 0) (hn : 0 ≤ n) : nNeg (f.set q n) + 1 = nNeg f := by
  unfold nNeg
  have hg : f[q] < 0 := by
    have := get_D (l := f) (k := q) (-1) hq
    rw [List.getElem?_eq_getElem hq] at this
    rw [Option.some.inj this]; exact hf
  rw [List.countP_set hq]
  have : 0 < List.countP (fun x => decide (x < 0)) f := List.countP_pos_iff.2 ⟨f[q], List.getElem_mem hq, by simpa using hg⟩
  rw [if_pos (by simpa using hg), if_neg (by simpa using hn)]
  omega
end Go.Proofs.Ytlgjgigciapkfaa
