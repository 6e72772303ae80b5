/-
  ref11.Flows. By an AI agent; no person has read it.
-/
import Derived.Test.YtjjfpglgonpciaaCflow
set_option linter.unusedSimpArgs false
set_option linter.unusedVariables false
namespace Go.Proofs.Ytjjfpglgonpciaa
open Go.Aw Go
set_option maxRecDepth 20000
attribute [local irreducible] CJ LJ DJ Tri YV Gives seqK blockK loopK retK RV mergeK OwL.L

structure CheckOk (a : XAir) (s : XSetting) (b : XBounds) : Prop where
  h0 : airErr a = 0
  hf : fitB a s = true
  hl : b.low.l.length = a.mine.places.l.length
  hh : b.high.l.length = a.mine.places.l.length
  pl : PresOk b.low.l
  ph : PresOk b.high.l
end Go.Proofs.Ytjjfpglgonpciaa
