/-
  The state of certify.Flows' loop, in plain numbers. By an AI agent; no person has read it.
-/
import Derived.Test.YtjjfpglgonpciaaCflowR
set_option linter.unusedSimpArgs false
set_option linter.unusedVariables false
namespace Go.Proofs.Ytjjfpglgonpciaa
open Go.Aw Go

structure FlowTo (a : XAir) (s : XSetting) (b : XBounds) (A : List Bool) (n : XNet) (k : Nat) (l : List XSpan) : Prop where
  len : l.length = a.mine.roads.l.length
  don : ∀ (j : Nat) (p : XPipe), j < k → n.pipes.l[j]? = some p → l[p.num.toNat]? = some (roadFlow a s b A p.num.toNat)
  non : ∀ i : Nat, i < a.mine.roads.l.length → (∀ (j : Nat) (p : XPipe), j < k → n.pipes.l[j]? = some p → p.num.toNat ≠ i) → l[i]? = some ⟨0, 0⟩
end Go.Proofs.Ytjjfpglgonpciaa
