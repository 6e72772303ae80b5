/-
  No cell of these rows narrows 'for every input' (looked for: loops, veiled, ifaces, maps, wideKeys, modest, calm, conditions, laid).
  DERIVED. THE GIVEN ROWS OF THIS SEAT. 11 by the template 'for every input the law returns true; each argument reads behind the call as it read before'; 0 by the template 'total and deterministic' (their statements: YtdnhinkamcfpkaaTotals.lean).
  GIVEN WITH THE SEED: the statements are not yours to turn. If you find one false, say at which input.
  Laid BY PROGRAM, IN A SANDBOX (cutbox-rows.mjs): the forced cells as the released guide's own fill.sh prints them over the translation 15f25d8ed8b8c353… (all of the seat's roots in one cut). By AI agents, Wed Nov 11 2026. No macro, syntax, notation, axiom, sorry.
-/
import Derived.Test.YtdnhinkamcfpkaaChecked
import GoSem.Claim
import GoSem.ClaimJoined
import GoSem.ClaimMapViews
import Derived.JoinedTies
import Derived.KernelRfl
namespace Go.Proofs.Ytdnhinkamcfpkaa
/- THE CELL 'sum', in the pinned program and in every row, IS THE sha256 OF THE DUMP (.gsa) THAT YtdnhinkamcfpkaaProg.lean LOADS. Nothing in Lean hashes anything: it is a label: what it is worth is what the hold of that sum in a sandbox is worth. -/
noncomputable def Try.pinned : Pinned := { name := "ytdnhinkamcfpkaa", sum := "15f25d8ed8b8c35386777896ba78185ecd58b1547bdb04ad35d58e0d9de5e70e", checked := Try.checked }
namespace Rows
def none {H : Type} : Left H := { results := [], args := [] }

/-- 'minecontrollaw10.BalanceNets': WHATEVER THE INPUT: true; the input reads as it did. -/
def balanceNetsSpec : ChangeSpec := { name := "balanceNets", fn := fun _ => fun
  | [d1, d2, d3] => { results := [.lit (.bool true)], args := [d1, d2, d3] }
  | _ => none }
def balanceNetsRow : OpenClaim := { program := "ytdnhinkamcfpkaa", sum := "15f25d8ed8b8c35386777896ba78185ecd58b1547bdb04ad35d58e0d9de5e70e", func := "minecontrol/minecontrollaw10.BalanceNets", spec := "balanceNets", unfollowed := true, recurses := true, named := ["math/bits.divideError", "math/bits.overflowError"], apart := false }
def BalanceNetsSaid : Prop := balanceNetsRow.holds Try.pinned (OpenSpec.ofChange balanceNetsSpec)

/-- ITS FALSE NEIGHBOUR: 'it returns false'. Refute it at one input. -/
def balanceNetsWrong : ChangeSpec := { name := "balanceNets", fn := fun _ => fun
  | [d1, d2, d3] => { results := [.lit (.bool false)], args := [d1, d2, d3] }
  | _ => none }
def BalanceNetsWrongFalsely : Prop := balanceNetsRow.holds Try.pinned (OpenSpec.ofChange balanceNetsWrong)

/-- 'minecontrollaw10.BalanceRises': WHATEVER THE INPUT: true; the input reads as it did. -/
def balanceRisesSpec : ChangeSpec := { name := "balanceRises", fn := fun _ => fun
  | [d1, d2, d3, d4] => { results := [.lit (.bool true)], args := [d1, d2, d3, d4] }
  | _ => none }
def balanceRisesRow : OpenClaim := { program := "ytdnhinkamcfpkaa", sum := "15f25d8ed8b8c35386777896ba78185ecd58b1547bdb04ad35d58e0d9de5e70e", func := "minecontrol/minecontrollaw10.BalanceRises", spec := "balanceRises", unfollowed := true, recurses := true, named := ["math/bits.divideError", "math/bits.overflowError"], apart := false }
def BalanceRisesSaid : Prop := balanceRisesRow.holds Try.pinned (OpenSpec.ofChange balanceRisesSpec)

/-- ITS FALSE NEIGHBOUR: 'it returns false'. Refute it at one input. -/
def balanceRisesWrong : ChangeSpec := { name := "balanceRises", fn := fun _ => fun
  | [d1, d2, d3, d4] => { results := [.lit (.bool false)], args := [d1, d2, d3, d4] }
  | _ => none }
def BalanceRisesWrongFalsely : Prop := balanceRisesRow.holds Try.pinned (OpenSpec.ofChange balanceRisesWrong)

/-- 'minecontrollaw10.BalanceHolds': WHATEVER THE INPUT: true; the input reads as it did. -/
def balanceHoldsSpec : ChangeSpec := { name := "balanceHolds", fn := fun _ => fun
  | [d1, d2] => { results := [.lit (.bool true)], args := [d1, d2] }
  | _ => none }
def balanceHoldsRow : OpenClaim := { program := "ytdnhinkamcfpkaa", sum := "15f25d8ed8b8c35386777896ba78185ecd58b1547bdb04ad35d58e0d9de5e70e", func := "minecontrol/minecontrollaw10.BalanceHolds", spec := "balanceHolds", unfollowed := true, recurses := true, named := ["math/bits.divideError", "math/bits.overflowError"], apart := false }
def BalanceHoldsSaid : Prop := balanceHoldsRow.holds Try.pinned (OpenSpec.ofChange balanceHoldsSpec)

/-- ITS FALSE NEIGHBOUR: 'it returns false'. Refute it at one input. -/
def balanceHoldsWrong : ChangeSpec := { name := "balanceHolds", fn := fun _ => fun
  | [d1, d2] => { results := [.lit (.bool false)], args := [d1, d2] }
  | _ => none }
def BalanceHoldsWrongFalsely : Prop := balanceHoldsRow.holds Try.pinned (OpenSpec.ofChange balanceHoldsWrong)

/-- 'minecontrollaw10.BalanceSums': WHATEVER THE INPUT: true; the input reads as it did. -/
def balanceSumsSpec : ChangeSpec := { name := "balanceSums", fn := fun _ => fun
  | [d] => { results := [.lit (.bool true)], args := [d] }
  | _ => none }
def balanceSumsRow : OpenClaim := { program := "ytdnhinkamcfpkaa", sum := "15f25d8ed8b8c35386777896ba78185ecd58b1547bdb04ad35d58e0d9de5e70e", func := "minecontrol/minecontrollaw10.BalanceSums", spec := "balanceSums", unfollowed := true, recurses := true, named := ["math/bits.divideError", "math/bits.overflowError"], apart := false }
def BalanceSumsSaid : Prop := balanceSumsRow.holds Try.pinned (OpenSpec.ofChange balanceSumsSpec)

/-- ITS FALSE NEIGHBOUR: 'it returns false'. Refute it at one input. -/
def balanceSumsWrong : ChangeSpec := { name := "balanceSums", fn := fun _ => fun
  | [d] => { results := [.lit (.bool false)], args := [d] }
  | _ => none }
def BalanceSumsWrongFalsely : Prop := balanceSumsRow.holds Try.pinned (OpenSpec.ofChange balanceSumsWrong)

/-- 'minecontrollaw10.BalanceNarrows': WHATEVER THE INPUT: true; the input reads as it did. -/
def balanceNarrowsSpec : ChangeSpec := { name := "balanceNarrows", fn := fun _ => fun
  | [d1, d2, d3] => { results := [.lit (.bool true)], args := [d1, d2, d3] }
  | _ => none }
def balanceNarrowsRow : OpenClaim := { program := "ytdnhinkamcfpkaa", sum := "15f25d8ed8b8c35386777896ba78185ecd58b1547bdb04ad35d58e0d9de5e70e", func := "minecontrol/minecontrollaw10.BalanceNarrows", spec := "balanceNarrows", unfollowed := true, recurses := true, named := ["math/bits.divideError", "math/bits.overflowError"], apart := false }
def BalanceNarrowsSaid : Prop := balanceNarrowsRow.holds Try.pinned (OpenSpec.ofChange balanceNarrowsSpec)

/-- ITS FALSE NEIGHBOUR: 'it returns false'. Refute it at one input. -/
def balanceNarrowsWrong : ChangeSpec := { name := "balanceNarrows", fn := fun _ => fun
  | [d1, d2, d3] => { results := [.lit (.bool false)], args := [d1, d2, d3] }
  | _ => none }
def BalanceNarrowsWrongFalsely : Prop := balanceNarrowsRow.holds Try.pinned (OpenSpec.ofChange balanceNarrowsWrong)

/-- 'minecontrollaw10.BalanceSearches': WHATEVER THE INPUT: true; the input reads as it did. -/
def balanceSearchesSpec : ChangeSpec := { name := "balanceSearches", fn := fun _ => fun
  | [d1, d2, d3] => { results := [.lit (.bool true)], args := [d1, d2, d3] }
  | _ => none }
def balanceSearchesRow : OpenClaim := { program := "ytdnhinkamcfpkaa", sum := "15f25d8ed8b8c35386777896ba78185ecd58b1547bdb04ad35d58e0d9de5e70e", func := "minecontrol/minecontrollaw10.BalanceSearches", spec := "balanceSearches", unfollowed := true, recurses := true, named := ["math/bits.divideError", "math/bits.overflowError"], apart := false }
def BalanceSearchesSaid : Prop := balanceSearchesRow.holds Try.pinned (OpenSpec.ofChange balanceSearchesSpec)

/-- ITS FALSE NEIGHBOUR: 'it returns false'. Refute it at one input. -/
def balanceSearchesWrong : ChangeSpec := { name := "balanceSearches", fn := fun _ => fun
  | [d1, d2, d3] => { results := [.lit (.bool false)], args := [d1, d2, d3] }
  | _ => none }
def BalanceSearchesWrongFalsely : Prop := balanceSearchesRow.holds Try.pinned (OpenSpec.ofChange balanceSearchesWrong)

/-- 'minecontrollaw11.CertifyChecks': WHATEVER THE INPUT: true; the input reads as it did. -/
def certifyChecksSpec : ChangeSpec := { name := "certifyChecks", fn := fun _ => fun
  | [d1, d2] => { results := [.lit (.bool true)], args := [d1, d2] }
  | _ => none }
def certifyChecksRow : OpenClaim := { program := "ytdnhinkamcfpkaa", sum := "15f25d8ed8b8c35386777896ba78185ecd58b1547bdb04ad35d58e0d9de5e70e", func := "minecontrol/minecontrollaw11.CertifyChecks", spec := "certifyChecks", named := ["math/bits.divideError", "math/bits.overflowError"], apart := false }
def CertifyChecksSaid : Prop := certifyChecksRow.holds Try.pinned (OpenSpec.ofChange certifyChecksSpec)

/-- ITS FALSE NEIGHBOUR: 'it returns false'. Refute it at one input. -/
def certifyChecksWrong : ChangeSpec := { name := "certifyChecks", fn := fun _ => fun
  | [d1, d2] => { results := [.lit (.bool false)], args := [d1, d2] }
  | _ => none }
def CertifyChecksWrongFalsely : Prop := certifyChecksRow.holds Try.pinned (OpenSpec.ofChange certifyChecksWrong)

/-- 'minecontrollaw11.CertifyErrors': WHATEVER THE INPUT: true; the input reads as it did. -/
def certifyErrorsSpec : ChangeSpec := { name := "certifyErrors", fn := fun _ => fun
  | [d1, d2, d3] => { results := [.lit (.bool true)], args := [d1, d2, d3] }
  | _ => none }
def certifyErrorsRow : OpenClaim := { program := "ytdnhinkamcfpkaa", sum := "15f25d8ed8b8c35386777896ba78185ecd58b1547bdb04ad35d58e0d9de5e70e", func := "minecontrol/minecontrollaw11.CertifyErrors", spec := "certifyErrors", named := ["math/bits.divideError", "math/bits.overflowError"], apart := false }
def CertifyErrorsSaid : Prop := certifyErrorsRow.holds Try.pinned (OpenSpec.ofChange certifyErrorsSpec)

/-- ITS FALSE NEIGHBOUR: 'it returns false'. Refute it at one input. -/
def certifyErrorsWrong : ChangeSpec := { name := "certifyErrors", fn := fun _ => fun
  | [d1, d2, d3] => { results := [.lit (.bool false)], args := [d1, d2, d3] }
  | _ => none }
def CertifyErrorsWrongFalsely : Prop := certifyErrorsRow.holds Try.pinned (OpenSpec.ofChange certifyErrorsWrong)

/-- 'minecontrollaw11.CertifyUnknown': WHATEVER THE INPUT: true; the input reads as it did. -/
def certifyUnknownSpec : ChangeSpec := { name := "certifyUnknown", fn := fun _ => fun
  | [d1, d2, d3] => { results := [.lit (.bool true)], args := [d1, d2, d3] }
  | _ => none }
def certifyUnknownRow : OpenClaim := { program := "ytdnhinkamcfpkaa", sum := "15f25d8ed8b8c35386777896ba78185ecd58b1547bdb04ad35d58e0d9de5e70e", func := "minecontrol/minecontrollaw11.CertifyUnknown", spec := "certifyUnknown", named := ["math/bits.divideError", "math/bits.overflowError"], apart := false }
def CertifyUnknownSaid : Prop := certifyUnknownRow.holds Try.pinned (OpenSpec.ofChange certifyUnknownSpec)

/-- ITS FALSE NEIGHBOUR: 'it returns false'. Refute it at one input. -/
def certifyUnknownWrong : ChangeSpec := { name := "certifyUnknown", fn := fun _ => fun
  | [d1, d2, d3] => { results := [.lit (.bool false)], args := [d1, d2, d3] }
  | _ => none }
def CertifyUnknownWrongFalsely : Prop := certifyUnknownRow.holds Try.pinned (OpenSpec.ofChange certifyUnknownWrong)

/-- 'minecontrollaw11.CertifyMeans': WHATEVER THE INPUT: true; the input reads as it did. -/
def certifyMeansSpec : ChangeSpec := { name := "certifyMeans", fn := fun _ => fun
  | [d] => { results := [.lit (.bool true)], args := [d] }
  | _ => none }
def certifyMeansRow : OpenClaim := { program := "ytdnhinkamcfpkaa", sum := "15f25d8ed8b8c35386777896ba78185ecd58b1547bdb04ad35d58e0d9de5e70e", func := "minecontrol/minecontrollaw11.CertifyMeans", spec := "certifyMeans", named := ["math/bits.divideError", "math/bits.overflowError"], apart := false }
def CertifyMeansSaid : Prop := certifyMeansRow.holds Try.pinned (OpenSpec.ofChange certifyMeansSpec)

/-- ITS FALSE NEIGHBOUR: 'it returns false'. Refute it at one input. -/
def certifyMeansWrong : ChangeSpec := { name := "certifyMeans", fn := fun _ => fun
  | [d] => { results := [.lit (.bool false)], args := [d] }
  | _ => none }
def CertifyMeansWrongFalsely : Prop := certifyMeansRow.holds Try.pinned (OpenSpec.ofChange certifyMeansWrong)

/-- 'minecontrollaw11.CertifyProves': WHATEVER THE INPUT: true; the input reads as it did. -/
def certifyProvesSpec : ChangeSpec := { name := "certifyProves", fn := fun _ => fun
  | [d] => { results := [.lit (.bool true)], args := [d] }
  | _ => none }
def certifyProvesRow : OpenClaim := { program := "ytdnhinkamcfpkaa", sum := "15f25d8ed8b8c35386777896ba78185ecd58b1547bdb04ad35d58e0d9de5e70e", func := "minecontrol/minecontrollaw11.CertifyProves", spec := "certifyProves", named := ["math/bits.divideError", "math/bits.overflowError"], apart := false }
def CertifyProvesSaid : Prop := certifyProvesRow.holds Try.pinned (OpenSpec.ofChange certifyProvesSpec)

/-- ITS FALSE NEIGHBOUR: 'it returns false'. Refute it at one input. -/
def certifyProvesWrong : ChangeSpec := { name := "certifyProves", fn := fun _ => fun
  | [d] => { results := [.lit (.bool false)], args := [d] }
  | _ => none }
def CertifyProvesWrongFalsely : Prop := certifyProvesRow.holds Try.pinned (OpenSpec.ofChange certifyProvesWrong)

/- THE SECOND FORM. 'bulk': how many values and letters a reading holds, each counted each time it is reached (what is shared counts as often as it is met; a slice's spare places count too). A statement '..UptoSaid' is the law's where the arguments, and the package variables that the reading takes, are together of bulk at most 1048576: NARROWER than '..Said'. Prove '..Said' where nothing that the law and all that it calls make is longer than what came in: it says more and counts as full. Else prove '..UptoSaid'. A law counts once. -/
mutual
def uptoBulk {H : Type} : DataW H → Nat
  | .lit (.string bytes) => bytes.length + 1
  | .lit _ => 1
  | .nil => 1
  | .ptr d => uptoBulk d + 1
  | .slice elems spare => uptoBulkAll elems + uptoBulkAll spare + 1
  | .agg parts => uptoBulkAll parts + 1
  | .iface _ d => uptoBulk d + 1
  | .map entries => uptoBulkEntries entries + 1
  | .held _ => 1
def uptoBulkAll {H : Type} : List (DataW H) → Nat
  | [] => 0
  | d :: r => uptoBulk d + uptoBulkAll r
def uptoBulkEntries {H : Type} : List (Lit × DataW H) → Nat
  | [] => 0
  | x :: r => uptoBulkEntry x + uptoBulkEntries r
def uptoBulkEntry {H : Type} : Lit × DataW H → Nat
  | (.string bytes, d) => bytes.length + uptoBulk d + 1
  | (_, d) => uptoBulk d + 1
 end
def uptoSmall : (H : Type) → List (DataW H) → Bool := fun _ ds => decide (uptoBulkAll ds ≤ 1048576)
def OpenSpec.upto (s : _root_.Go.ChangeSpec) : _root_.Go.OpenSpec := { _root_.Go.OpenSpec.ofChange s with cond := some uptoSmall }

/-- 'minecontrollaw10.BalanceNets', WHERE WHAT IT READS IS OF BULK AT MOST 1048576: true; the input reads as it did. -/
def balanceNetsUptoRow : OpenClaim := { program := "ytdnhinkamcfpkaa", sum := "15f25d8ed8b8c35386777896ba78185ecd58b1547bdb04ad35d58e0d9de5e70e", func := "minecontrol/minecontrollaw10.BalanceNets", spec := "balanceNets", unfollowed := true, recurses := true, named := ["math/bits.divideError", "math/bits.overflowError"], apart := false, narrowed := true }
def BalanceNetsUptoSaid : Prop := balanceNetsUptoRow.holds Try.pinned (OpenSpec.upto balanceNetsSpec)

/-- 'minecontrollaw10.BalanceRises', WHERE WHAT IT READS IS OF BULK AT MOST 1048576: true; the input reads as it did. -/
def balanceRisesUptoRow : OpenClaim := { program := "ytdnhinkamcfpkaa", sum := "15f25d8ed8b8c35386777896ba78185ecd58b1547bdb04ad35d58e0d9de5e70e", func := "minecontrol/minecontrollaw10.BalanceRises", spec := "balanceRises", unfollowed := true, recurses := true, named := ["math/bits.divideError", "math/bits.overflowError"], apart := false, narrowed := true }
def BalanceRisesUptoSaid : Prop := balanceRisesUptoRow.holds Try.pinned (OpenSpec.upto balanceRisesSpec)

/-- 'minecontrollaw10.BalanceHolds', WHERE WHAT IT READS IS OF BULK AT MOST 1048576: true; the input reads as it did. -/
def balanceHoldsUptoRow : OpenClaim := { program := "ytdnhinkamcfpkaa", sum := "15f25d8ed8b8c35386777896ba78185ecd58b1547bdb04ad35d58e0d9de5e70e", func := "minecontrol/minecontrollaw10.BalanceHolds", spec := "balanceHolds", unfollowed := true, recurses := true, named := ["math/bits.divideError", "math/bits.overflowError"], apart := false, narrowed := true }
def BalanceHoldsUptoSaid : Prop := balanceHoldsUptoRow.holds Try.pinned (OpenSpec.upto balanceHoldsSpec)

/-- 'minecontrollaw10.BalanceSums', WHERE WHAT IT READS IS OF BULK AT MOST 1048576: true; the input reads as it did. -/
def balanceSumsUptoRow : OpenClaim := { program := "ytdnhinkamcfpkaa", sum := "15f25d8ed8b8c35386777896ba78185ecd58b1547bdb04ad35d58e0d9de5e70e", func := "minecontrol/minecontrollaw10.BalanceSums", spec := "balanceSums", unfollowed := true, recurses := true, named := ["math/bits.divideError", "math/bits.overflowError"], apart := false, narrowed := true }
def BalanceSumsUptoSaid : Prop := balanceSumsUptoRow.holds Try.pinned (OpenSpec.upto balanceSumsSpec)

/-- 'minecontrollaw10.BalanceNarrows', WHERE WHAT IT READS IS OF BULK AT MOST 1048576: true; the input reads as it did. -/
def balanceNarrowsUptoRow : OpenClaim := { program := "ytdnhinkamcfpkaa", sum := "15f25d8ed8b8c35386777896ba78185ecd58b1547bdb04ad35d58e0d9de5e70e", func := "minecontrol/minecontrollaw10.BalanceNarrows", spec := "balanceNarrows", unfollowed := true, recurses := true, named := ["math/bits.divideError", "math/bits.overflowError"], apart := false, narrowed := true }
def BalanceNarrowsUptoSaid : Prop := balanceNarrowsUptoRow.holds Try.pinned (OpenSpec.upto balanceNarrowsSpec)

/-- 'minecontrollaw10.BalanceSearches', WHERE WHAT IT READS IS OF BULK AT MOST 1048576: true; the input reads as it did. -/
def balanceSearchesUptoRow : OpenClaim := { program := "ytdnhinkamcfpkaa", sum := "15f25d8ed8b8c35386777896ba78185ecd58b1547bdb04ad35d58e0d9de5e70e", func := "minecontrol/minecontrollaw10.BalanceSearches", spec := "balanceSearches", unfollowed := true, recurses := true, named := ["math/bits.divideError", "math/bits.overflowError"], apart := false, narrowed := true }
def BalanceSearchesUptoSaid : Prop := balanceSearchesUptoRow.holds Try.pinned (OpenSpec.upto balanceSearchesSpec)

/-- 'minecontrollaw11.CertifyChecks', WHERE WHAT IT READS IS OF BULK AT MOST 1048576: true; the input reads as it did. -/
def certifyChecksUptoRow : OpenClaim := { program := "ytdnhinkamcfpkaa", sum := "15f25d8ed8b8c35386777896ba78185ecd58b1547bdb04ad35d58e0d9de5e70e", func := "minecontrol/minecontrollaw11.CertifyChecks", spec := "certifyChecks", named := ["math/bits.divideError", "math/bits.overflowError"], apart := false, narrowed := true }
def CertifyChecksUptoSaid : Prop := certifyChecksUptoRow.holds Try.pinned (OpenSpec.upto certifyChecksSpec)

/-- 'minecontrollaw11.CertifyErrors', WHERE WHAT IT READS IS OF BULK AT MOST 1048576: true; the input reads as it did. -/
def certifyErrorsUptoRow : OpenClaim := { program := "ytdnhinkamcfpkaa", sum := "15f25d8ed8b8c35386777896ba78185ecd58b1547bdb04ad35d58e0d9de5e70e", func := "minecontrol/minecontrollaw11.CertifyErrors", spec := "certifyErrors", named := ["math/bits.divideError", "math/bits.overflowError"], apart := false, narrowed := true }
def CertifyErrorsUptoSaid : Prop := certifyErrorsUptoRow.holds Try.pinned (OpenSpec.upto certifyErrorsSpec)

/-- 'minecontrollaw11.CertifyUnknown', WHERE WHAT IT READS IS OF BULK AT MOST 1048576: true; the input reads as it did. -/
def certifyUnknownUptoRow : OpenClaim := { program := "ytdnhinkamcfpkaa", sum := "15f25d8ed8b8c35386777896ba78185ecd58b1547bdb04ad35d58e0d9de5e70e", func := "minecontrol/minecontrollaw11.CertifyUnknown", spec := "certifyUnknown", named := ["math/bits.divideError", "math/bits.overflowError"], apart := false, narrowed := true }
def CertifyUnknownUptoSaid : Prop := certifyUnknownUptoRow.holds Try.pinned (OpenSpec.upto certifyUnknownSpec)

/-- 'minecontrollaw11.CertifyMeans', WHERE WHAT IT READS IS OF BULK AT MOST 1048576: true; the input reads as it did. -/
def certifyMeansUptoRow : OpenClaim := { program := "ytdnhinkamcfpkaa", sum := "15f25d8ed8b8c35386777896ba78185ecd58b1547bdb04ad35d58e0d9de5e70e", func := "minecontrol/minecontrollaw11.CertifyMeans", spec := "certifyMeans", named := ["math/bits.divideError", "math/bits.overflowError"], apart := false, narrowed := true }
def CertifyMeansUptoSaid : Prop := certifyMeansUptoRow.holds Try.pinned (OpenSpec.upto certifyMeansSpec)

/-- 'minecontrollaw11.CertifyProves', WHERE WHAT IT READS IS OF BULK AT MOST 1048576: true; the input reads as it did. -/
def certifyProvesUptoRow : OpenClaim := { program := "ytdnhinkamcfpkaa", sum := "15f25d8ed8b8c35386777896ba78185ecd58b1547bdb04ad35d58e0d9de5e70e", func := "minecontrol/minecontrollaw11.CertifyProves", spec := "certifyProves", named := ["math/bits.divideError", "math/bits.overflowError"], apart := false, narrowed := true }
def CertifyProvesUptoSaid : Prop := certifyProvesUptoRow.holds Try.pinned (OpenSpec.upto certifyProvesSpec)

end Rows
end Go.Proofs.Ytdnhinkamcfpkaa
