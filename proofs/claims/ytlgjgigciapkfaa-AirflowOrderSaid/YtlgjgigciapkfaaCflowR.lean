/-
  ref11.Flows. By an AI agent; no person has read it.
-/
import Derived.Test.YtlgjgigciapkfaaCflow
set_option linter.unusedSimpArgs false
set_option linter.unusedVariables false
namespace Go.Proofs.Ytlgjgigciapkfaa
open Go.Aw Go
set_option maxRecDepth 20000
attribute [local irreducible] CJ LJ DJ Tri YV Gives seqK blockK loopK retK RV mergeK OwL.L

structure CheckOk (a : XAir) (s : XSetting) (b : XBounds) : Prop where
  h0 : airErr a = 0
  hf : fitB a s = true
  hl : b.low.l.length = a.mine.places.l.length
  hh : b.high.l.length = a.mine.places.l.length
  pl : PresOk b.low.l
  ph : PresOk b.high.l
theorem checkS_ok {a : XAir} {s : XSetting} {b : XBounds} {A : List Bool} (h : checkS a s b A = 0) : CheckOk a s b := by
  unfold checkS at h
  split at h
  · rename_i h1; exact absurd h h1
  rename_i h1
  split at h
  · cases h
  rename_i h2
  split at h
  · cases h
  rename_i h3
  split at h
  · cases h
  rename_i h4
  refine ⟨by omega, by simpa using h2, by omega, by omega, presOk_of ?_, presOk_of ?_⟩
  · cases e : b.low.l.findSome? presBad with
    | none => rfl
    | some x => exact absurd (.inl (by rw [e]; rfl)) h4
  · cases e : b.high.l.findSome? presBad with
    | none => rfl
    | some x => exact absurd (.inr (by rw [e]; rfl)) h4

end Go.Proofs.Ytlgjgigciapkfaa
