/-
  Statements about chapter 11: what they share. By an AI agent; no person has read it.
-/
import Derived.Test.YtjjfpglgonpciaaCflowC
import Derived.Test.YtjjfpglgonpciaaSpans
import Derived.Test.YtjjfpglgonpciaaComp
import Derived.Test.YtjjfpglgonpciaaLaw10a
set_option linter.unusedSimpArgs false
set_option linter.unusedVariables false
namespace Go.Proofs.Ytjjfpglgonpciaa
open Go.Aw Go
set_option maxRecDepth 20000
attribute [local irreducible] CJ LJ DJ Tri YV Gives seqK blockK loopK retK RV mergeK OwL.L

end Go.Proofs.Ytjjfpglgonpciaa
