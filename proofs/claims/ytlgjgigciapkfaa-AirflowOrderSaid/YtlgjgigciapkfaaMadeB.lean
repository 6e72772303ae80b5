/-
  The bounds of a made air are no greater than a tenth of what is possible. By an AI agent; no person has read it.
-/
import Derived.Test.YtlgjgigciapkfaaRelP
set_option linter.unusedSimpArgs false
set_option linter.unusedVariables false
namespace Go.Proofs.Ytlgjgigciapkfaa
open Go.Aw Go

section
variable {a : XAir} {s : XSetting} {x : XState} (h : MadeA a s x)
include h
end
section
variable {a : XAir} {s : XSetting} {x : XState} (h : MadeA a s x)
include h
end
end Go.Proofs.Ytlgjgigciapkfaa
