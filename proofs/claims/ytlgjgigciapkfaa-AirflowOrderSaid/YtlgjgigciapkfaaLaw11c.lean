/-
  Statements about chapter 11: what accepted bounds prove of a state that fits. By an AI agent; no person has read it.
-/
import Derived.Test.YtlgjgigciapkfaaLaw11b
import Derived.Test.YtlgjgigciapkfaaBounds
set_option linter.unusedSimpArgs false
set_option linter.unusedVariables false
namespace Go.Proofs.Ytlgjgigciapkfaa
open Go.Aw Go
set_option maxRecDepth 20000
attribute [local irreducible] CJ LJ DJ Tri YV Gives seqK blockK loopK retK RV mergeK OwL.L

end Go.Proofs.Ytlgjgigciapkfaa
