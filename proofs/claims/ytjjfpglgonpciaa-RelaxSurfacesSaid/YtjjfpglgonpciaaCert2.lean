/-
  certify.Check. By an AI agent; no person has read it.
-/
import Derived.Test.YtjjfpglgonpciaaCert
set_option linter.unusedSimpArgs false
set_option linter.unusedVariables false
namespace Go.Proofs.Ytjjfpglgonpciaa
open Go.Aw Go
set_option maxRecDepth 20000
attribute [local irreducible] CJ LJ DJ Tri YV Gives seqK blockK loopK retK RV mergeK OwL.L

theorem airErr_mine {a : XAir} (h : airErr a = 0) : mineErr a.mine = 0 := by
  unfold airErr at h
  split at h
  · rename_i h1; exact absurd h h1
  · rename_i h1; omega
end Go.Proofs.Ytjjfpglgonpciaa
