/-
  Statements about chapter 11: what they share. By an AI agent; no person has read it.
-/
import Derived.Test.YtjjfpglgonpciaaCflowC
import Derived.Test.YtjjfpglgonpciaaSpans
import Derived.Test.YtjjfpglgonpciaaComp
import Derived.Test.YtjjfpglgonpciaaLaw10a
set_option linter.unusedSimpArgs false
set_option linter.unusedVariables false
namespace Go.Proofs.Ytjjfpglgonpciaa
open Go.Aw Go
set_option maxRecDepth 20000
attribute [local irreducible] CJ LJ DJ Tri YV Gives seqK blockK loopK retK RV mergeK OwL.L

theorem awake11_airy (b b' : Nat) : AiryIs (awake10 b b').mine [true, true] := by
  have hs : surf (awake10 b b').mine = [true, false] := rfl
  have st : Step (awake10 b b').mine 0 1 := ⟨awake10Road, .head _, rfl, .inr ⟨rfl, rfl⟩⟩
  refine ⟨rfl, fun i hi => ?_⟩
  rw [hs] at hi ⊢
  simp only [List.length_cons, List.length_nil] at hi ⊢
  rcases Nat.lt_or_ge i 1 with h | h
  · obtain rfl : i = 0 := by omega
    exact ⟨fun _ => ⟨0, by decide, rfl, .refl⟩, fun _ => rfl⟩
  · obtain rfl : i = 1 := by omega
    exact ⟨fun _ => ⟨0, by decide, rfl, Conn.refl.tail st⟩, fun _ => rfl⟩
end Go.Proofs.Ytjjfpglgonpciaa
