/-
  From a contract to a statement: the frame. By an AI agent; no person has read it.
-/
import Derived.Test.YtjjfpglgonpciaaDraws
import Derived.ProofKit
import Derived.OpenShut
import Derived.ShutString
import Derived.ChangeOld
import Derived.Below
set_option linter.unusedSimpArgs false
set_option linter.unusedVariables false
namespace Go.Proofs.Ytjjfpglgonpciaa
open Go.Aw Go
open Go.ChangeShapes Go.WideShapes Go.ChangeAt Go.RowKit

theorem own_knob : ownKnob Try.prog.godebug = none := by kernel_rfl
theorem laidOut : laidOutB Try.prog = true := by kernel_rfl

/-- all that is there -/
abbrev Old (W : World) : Nat → Prop := fun b => b < W.heap.size

theorem holds_old {W : World} {R : List Sl} (h : ∀ r ∈ R, Rep W (Old W) r) : Holds [] (Old W) R W :=
  ⟨List.nodup_nil, (fun e he => by cases he), (fun e he => by cases he), (fun _ h => h), h⟩

theorem below_of {W W' : World} {G : Nat → Prop} {L' : List Blk} {R' : List Sl} (h : St ⟨W, inL [], G⟩ L' R' W') : Below W.heap.size W W' :=
  ⟨h.keep.os, h.keep.tape, h.keep.output, h.keep.size, fun k hk => h.keep.block k hk (fun ⟨e, he, _⟩ => by cases he)⟩

theorem wf_i64 {n : Int} (h : (Lit.int .i64 n).wf = true) : I64 n := by
  simp only [Lit.wf, Bool.and_eq_true, decide_eq_true_eq] at h
  exact h
theorem wf_u8 {n : Int} (h : (Lit.int .u8 n).wf = true) : 0 ≤ n ∧ n ≤ 255 := by
  simp only [Lit.wf, Bool.and_eq_true, decide_eq_true_eq] at h
  exact h

theorem wf_u16 {n : Int} (h : (Lit.int .u16 n).wf = true) : 0 ≤ n ∧ n ≤ 65535 := by
  simp only [Lit.wf, Bool.and_eq_true, decide_eq_true_eq] at h
  exact h

/-- what a slice of numbers shows -/
def IsRow (k : IntKind) (w : World) (a : Option Addr) (len cap : Nat) (zs : List Int) : Prop :=
  (a = none ∧ len = 0 ∧ cap = 0 ∧ zs = []) ∨
  ∃ x, a = some x ∧ len ≤ cap ∧ cap ≤ maxLen ∧ zs.length = cap ∧ (∀ i, i < zs.length → w.cell? (x.add i) = some (.int k (zs.getD i 0))) ∧ ∀ n ∈ zs, (Lit.int k n).wf = true

theorem cell_old {W : World} {a : Addr} {v : Value} (h : W.cell? a = some v) : a.block < W.heap.size := by
  rcases Nat.lt_or_ge a.block W.heap.size with h' | h'
  · exact h'
  · unfold World.cell? at h
    rw [Array.getElem?_eq_none h'] at h
    simp at h

theorem rep_row {k : IntKind} {W : World} {a : Option Addr} {len cap : Nat} {zs : List Int} (h : IsRow k W a len cap zs) : ∃ l : List Int, l.length = len ∧ Rep W (Old W) (.mk 1 a len cap (l.map fun n => [Value.int k n]) []) ∧ ∀ n ∈ l, (Lit.int k n).wf = true := by
  rcases h with ⟨rfl, rfl, rfl, rfl⟩ | ⟨x, rfl, hl, hm, hz, hcell, hwf⟩
  · exact ⟨[], rfl, rep_nil, fun _ h => by cases h⟩
  · refine ⟨zs.take len, by rw [List.length_take]; omega, .mk (by simp; omega) hl (by simp only [maxLen] at hm; omega) (fun r hr => by obtain ⟨n, _, rfl⟩ := List.mem_map.1 hr; rfl) ?_ (by simp), fun n hn => hwf n (List.mem_of_mem_take hn)⟩
    rcases Nat.eq_zero_or_pos len with h0 | h0
    · left; rw [h0]; simp
    · right
      obtain ⟨b, off, spot⟩ := x
      have hc := hcell 0 (by omega)
      have hspot : spot = none := by simpa [Addr.add] using World.cell?_spot hc
      subst hspot
      refine ⟨b, off, rfl, cell_old (a := ⟨b, off, none⟩) (by simpa [Addr.add] using hc), fun i j hi hj => ?_⟩
      obtain rfl : j = 0 := by omega
      have := hcell i (by omega)
      rw [add_none] at this
      rw [Nat.mul_one, Nat.add_zero, this, List.getElem?_map, List.getElem?_take, if_pos hi, get_D (l := zs) 0 (by omega)]
      rfl

end Go.Proofs.Ytjjfpglgonpciaa
