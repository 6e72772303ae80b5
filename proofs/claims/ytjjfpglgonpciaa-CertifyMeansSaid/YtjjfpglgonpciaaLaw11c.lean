/-
  Statements about chapter 11: what accepted bounds prove of a state that fits. By an AI agent; no person has read it.
-/
import Derived.Test.YtjjfpglgonpciaaLaw11b
import Derived.Test.YtjjfpglgonpciaaBounds
set_option linter.unusedSimpArgs false
set_option linter.unusedVariables false
namespace Go.Proofs.Ytjjfpglgonpciaa
open Go.Aw Go
set_option maxRecDepth 20000
attribute [local irreducible] CJ LJ DJ Tri YV Gives seqK blockK loopK retK RV mergeK OwL.L

/-- drawn bounds, at another place -/
theorem bounds1 {c : Nat} {x : Arr Int} {k : Nat} {a : XAir} {s : XSetting} {st : XState} {A : List Bool} {L B : List Blk} {R : List Sl} (hu : Spl L B [cblk c x k]) (hx : CodesR x R) (hk : k ≤ x.l.length) (hm : AirR a R) (hs : SetR s R) (hX : StateR st R) (hM : MadeA a s st) (hA : AiryIs a.mine A) :
    Tri Try.prog 18 [.pointer (some ⟨c, 0, none⟩), a.val, s.val, st.val].toArray L R
      (fun w L' R' => ∃ (lo hi : OwL Int) (k' : Nat), w = .agg #[lo.val, hi.val] ∧ (lo.ok 1 icell ∧ hi.ok 1 icell) ∧ (lo.l.length = a.mine.places.l.length ∧ hi.l.length = a.mine.places.l.length) ∧ (PresOk lo.l ∧ PresOk hi.l) ∧ k' ≤ x.l.length ∧ B ++ (hi.L 3 icell ++ (lo.L 3 icell ++ (cblk c x k' :: []))) = L' ∧ R = R') :=
  (Tri.spl hu (bounds_tri c x k a s st A R hx hk hm hs hX hM.b.fits.plen hM.press (by have := hM.nplaces; omega) (fun _ => hA) (fun h0 => hM.solve_in h0))).mono fun v L'' R' ⟨L', e, lo, hi, k', a1, a2, a3, a4, a5, a6, a7⟩ => ⟨lo, hi, k', a1, a2, a3, a4, a5, by rw [a6]; exact e, a7⟩

theorem boundsR_mono {b : XBounds} {R R' : List Sl} (h : BoundsR b R) (k : ∀ r ∈ R, InR r R') : BoundsR b R' := ⟨h.low.mono k, h.high.mono k⟩

end Go.Proofs.Ytjjfpglgonpciaa
