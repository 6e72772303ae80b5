/-
  A made air, frozen, under letters of its own. By an AI agent; no person has read it.
-/
import Derived.Test.YtimnnhdeicpenaaLaw9a
import Derived.Test.YtimnnhdeicpenaaFitsF
import Derived.Test.YtimnnhdeicpenaaCopy
set_option linter.unusedSimpArgs false
set_option linter.unusedVariables false
namespace Go.Proofs.Ytimnnhdeicpenaa
open Go.Aw Go
set_option maxRecDepth 20000
attribute [local irreducible] CJ LJ DJ Tri YV Gives seqK blockK loopK retK RV mergeK OwL.L

theorem CJ_made {P n code t R} {Q : TPost} {A : List Blk} {m : MadeO} {cb : Blk} {b1 b2 b3 : Nat} {T1 T2 T3 : TypeId} (hm : m.Ok) (hM : MadeA m.a m.t m.x) (hf : ∀ f ∈ m.fans.l, InR f.sl R) (hd : ∀ d ∈ m.doors.l, InR d.sl R)
    (h : ∀ a s x R', MadeA a s x → AirR a R' → SetR s R' → StateR x R' → (∀ r ∈ R, InR r R') → CJ P n code t (⟨b3, x.cells, T3⟩ :: ⟨b2, s.cells, T2⟩ :: ⟨b1, a.cells, T1⟩ :: (A ++ (cb :: []))) R' Q) :
    CJ P n code t (⟨b3, m.x.cells, T3⟩ :: ⟨b2, m.t.cells, T2⟩ :: ⟨b1, m.a.cells, T1⟩ :: (A ++ m.L cb)) R Q :=
  CJ_frzMade (A := ⟨b3, m.x.cells, T3⟩ :: ⟨b2, m.t.cells, T2⟩ :: ⟨b1, m.a.cells, T1⟩ :: A) hm hf hd fun R' h1 h2 h3 h4 => h m.a m.t m.x R' hM h1 h2 h3 h4

/-- what one needs of a made air -/
structure MadeB (a : XAir) (s : XSetting) (x : XState) : Prop where
  made : MadeA a s x
  ok : AirOk a
  fits : FitsF a s x
  right : rightB a s = true
  fit : FitOk a s
theorem MadeA.b {a : XAir} {s : XSetting} {x : XState} (h : MadeA a s x) : MadeB a s x :=
  ⟨h, airOk_of h.err, fitsF_of h.err h.fit h.fits, rightB_true h.err h.fit, (right_of (rightB_true h.err h.fit)).2⟩
end Go.Proofs.Ytimnnhdeicpenaa
