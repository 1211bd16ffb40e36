/-
  No cell of these rows narrows 'for every input' (looked for: loops, veiled, ifaces, maps, wideKeys, modest, calm, conditions, laid).
  DERIVED. THE GIVEN ROWS OF THIS SEAT. 4 by the template 'for every input the law returns true; each argument reads behind the call as it read before'; 0 by the template 'total and deterministic' (their statements: YtpjiopgakifhaaaGreatTotals.lean).
  GIVEN WITH THE SEED: the statements are not yours to turn. If you find one false, say at which input.
  Laid BY PROGRAM, IN A SANDBOX (cutbox-rows.mjs): the forced cells as the released guide's own fill.sh prints them over the translation a6cff7770efa11ac… (all of the seat's roots in one cut). By AI agents, Wed Nov 11 2026. No macro, syntax, notation, axiom, sorry.
-/
import Derived.Test.YtpjiopgakifhaaaGreatChecked
import GoSem.Claim
import GoSem.ClaimJoined
import GoSem.ClaimMapViews
import Derived.JoinedTies
import Derived.KernelRfl
namespace Go.Proofs.YtpjiopgakifhaaaGreat
/- THE CELL 'sum', in the pinned program and in every row, IS THE sha256 OF THE DUMP (.gsa) THAT YtpjiopgakifhaaaGreatProg.lean LOADS. Nothing in Lean hashes anything: it is a label: what it is worth is what the hold of that sum in a sandbox is worth. -/
noncomputable def Tryz.pinned : Pinned := { name := "ytpjiopgakifhaaagreat", sum := "a6cff7770efa11acbd29a8a6ccedaad9445c650ed9fcb8506b53b4ded64ec9ae", checked := Tryz.checked }
namespace Rows
def none {H : Type} : Left H := { results := [], args := [] }

/-- 'pinballtop.TopTwins': WHATEVER THE INPUT: true; the input reads as it did. -/
def topTwinsSpec : ChangeSpec := { name := "topTwins", fn := fun _ => fun
  | [d1, d2, d3] => { results := [.lit (.bool true)], args := [d1, d2, d3] }
  | _ => none }
def topTwinsRow : OpenClaim := { program := "ytpjiopgakifhaaagreat", sum := "a6cff7770efa11acbd29a8a6ccedaad9445c650ed9fcb8506b53b4ded64ec9ae", func := "pinball/pinballtop.TopTwins", spec := "topTwins", inPlace := ["slices.overlaps[int]"], unfollowed := true, recurses := true, named := ["math/bits.divideError", "math/bits.overflowError"], apart := false }
def TopTwinsSaid : Prop := topTwinsRow.holds Tryz.pinned (OpenSpec.ofChange topTwinsSpec)

/-- ITS FALSE NEIGHBOUR: 'it returns false'. Refute it at one input. -/
def topTwinsWrong : ChangeSpec := { name := "topTwins", fn := fun _ => fun
  | [d1, d2, d3] => { results := [.lit (.bool false)], args := [d1, d2, d3] }
  | _ => none }
def TopTwinsWrongFalsely : Prop := topTwinsRow.holds Tryz.pinned (OpenSpec.ofChange topTwinsWrong)

/-- 'pinballtop.TopRests': WHATEVER THE INPUT: true; the input reads as it did. -/
def topRestsSpec : ChangeSpec := { name := "topRests", fn := fun _ => fun
  | [d1, d2, d3] => { results := [.lit (.bool true)], args := [d1, d2, d3] }
  | _ => none }
def topRestsRow : OpenClaim := { program := "ytpjiopgakifhaaagreat", sum := "a6cff7770efa11acbd29a8a6ccedaad9445c650ed9fcb8506b53b4ded64ec9ae", func := "pinball/pinballtop.TopRests", spec := "topRests", inPlace := ["slices.overlaps[int]"], unfollowed := true, recurses := true, named := ["math/bits.divideError", "math/bits.overflowError"], apart := false }
def TopRestsSaid : Prop := topRestsRow.holds Tryz.pinned (OpenSpec.ofChange topRestsSpec)

/-- ITS FALSE NEIGHBOUR: 'it returns false'. Refute it at one input. -/
def topRestsWrong : ChangeSpec := { name := "topRests", fn := fun _ => fun
  | [d1, d2, d3] => { results := [.lit (.bool false)], args := [d1, d2, d3] }
  | _ => none }
def TopRestsWrongFalsely : Prop := topRestsRow.holds Tryz.pinned (OpenSpec.ofChange topRestsWrong)

/-- 'pinballtop.TopLanes': WHATEVER THE INPUT: true; the input reads as it did. -/
def topLanesSpec : ChangeSpec := { name := "topLanes", fn := fun _ => fun
  | [d1, d2] => { results := [.lit (.bool true)], args := [d1, d2] }
  | _ => none }
def topLanesRow : OpenClaim := { program := "ytpjiopgakifhaaagreat", sum := "a6cff7770efa11acbd29a8a6ccedaad9445c650ed9fcb8506b53b4ded64ec9ae", func := "pinball/pinballtop.TopLanes", spec := "topLanes", inPlace := ["slices.overlaps[int]"], unfollowed := true, recurses := true, named := ["math/bits.divideError", "math/bits.overflowError"], apart := false }
def TopLanesSaid : Prop := topLanesRow.holds Tryz.pinned (OpenSpec.ofChange topLanesSpec)

/-- ITS FALSE NEIGHBOUR: 'it returns false'. Refute it at one input. -/
def topLanesWrong : ChangeSpec := { name := "topLanes", fn := fun _ => fun
  | [d1, d2] => { results := [.lit (.bool false)], args := [d1, d2] }
  | _ => none }
def TopLanesWrongFalsely : Prop := topLanesRow.holds Tryz.pinned (OpenSpec.ofChange topLanesWrong)

/-- 'pinballtop.TopTargets': WHATEVER THE INPUT: true; the input reads as it did. -/
def topTargetsSpec : ChangeSpec := { name := "topTargets", fn := fun _ => fun
  | [d1, d2] => { results := [.lit (.bool true)], args := [d1, d2] }
  | _ => none }
def topTargetsRow : OpenClaim := { program := "ytpjiopgakifhaaagreat", sum := "a6cff7770efa11acbd29a8a6ccedaad9445c650ed9fcb8506b53b4ded64ec9ae", func := "pinball/pinballtop.TopTargets", spec := "topTargets", inPlace := ["slices.overlaps[int]"], unfollowed := true, recurses := true, named := ["math/bits.divideError", "math/bits.overflowError"], apart := false }
def TopTargetsSaid : Prop := topTargetsRow.holds Tryz.pinned (OpenSpec.ofChange topTargetsSpec)

/-- ITS FALSE NEIGHBOUR: 'it returns false'. Refute it at one input. -/
def topTargetsWrong : ChangeSpec := { name := "topTargets", fn := fun _ => fun
  | [d1, d2] => { results := [.lit (.bool false)], args := [d1, d2] }
  | _ => none }
def TopTargetsWrongFalsely : Prop := topTargetsRow.holds Tryz.pinned (OpenSpec.ofChange topTargetsWrong)

/- THE SECOND FORM. 'bulk': how many values and letters a reading holds, each counted each time it is reached (what is shared counts as often as it is met; a slice's spare places count too). A statement '..UptoSaid' is the law's where the arguments, and the package variables that the reading takes, are together of bulk at most 1048576: NARROWER than '..Said'. Prove '..Said' where nothing that the law and all that it calls make is longer than what came in: it says more and counts as full. Else prove '..UptoSaid'. A law counts once. -/
mutual
def uptoBulk {H : Type} : DataW H → Nat
  | .lit (.string bytes) => bytes.length + 1
  | .lit _ => 1
  | .nil => 1
  | .ptr d => uptoBulk d + 1
  | .slice elems spare => uptoBulkAll elems + uptoBulkAll spare + 1
  | .agg parts => uptoBulkAll parts + 1
  | .iface _ d => uptoBulk d + 1
  | .map entries => uptoBulkEntries entries + 1
  | .held _ => 1
def uptoBulkAll {H : Type} : List (DataW H) → Nat
  | [] => 0
  | d :: r => uptoBulk d + uptoBulkAll r
def uptoBulkEntries {H : Type} : List (Lit × DataW H) → Nat
  | [] => 0
  | x :: r => uptoBulkEntry x + uptoBulkEntries r
def uptoBulkEntry {H : Type} : Lit × DataW H → Nat
  | (.string bytes, d) => bytes.length + uptoBulk d + 1
  | (_, d) => uptoBulk d + 1
 end
def uptoSmall : (H : Type) → List (DataW H) → Bool := fun _ ds => decide (uptoBulkAll ds ≤ 1048576)
def OpenSpec.upto (s : _root_.Go.ChangeSpec) : _root_.Go.OpenSpec := { _root_.Go.OpenSpec.ofChange s with cond := some uptoSmall }

/-- 'pinballtop.TopTwins', WHERE WHAT IT READS IS OF BULK AT MOST 1048576: true; the input reads as it did. -/
def topTwinsUptoRow : OpenClaim := { program := "ytpjiopgakifhaaagreat", sum := "a6cff7770efa11acbd29a8a6ccedaad9445c650ed9fcb8506b53b4ded64ec9ae", func := "pinball/pinballtop.TopTwins", spec := "topTwins", inPlace := ["slices.overlaps[int]"], unfollowed := true, recurses := true, named := ["math/bits.divideError", "math/bits.overflowError"], apart := false, narrowed := true }
def TopTwinsUptoSaid : Prop := topTwinsUptoRow.holds Tryz.pinned (OpenSpec.upto topTwinsSpec)

/-- 'pinballtop.TopRests', WHERE WHAT IT READS IS OF BULK AT MOST 1048576: true; the input reads as it did. -/
def topRestsUptoRow : OpenClaim := { program := "ytpjiopgakifhaaagreat", sum := "a6cff7770efa11acbd29a8a6ccedaad9445c650ed9fcb8506b53b4ded64ec9ae", func := "pinball/pinballtop.TopRests", spec := "topRests", inPlace := ["slices.overlaps[int]"], unfollowed := true, recurses := true, named := ["math/bits.divideError", "math/bits.overflowError"], apart := false, narrowed := true }
def TopRestsUptoSaid : Prop := topRestsUptoRow.holds Tryz.pinned (OpenSpec.upto topRestsSpec)

/-- 'pinballtop.TopLanes', WHERE WHAT IT READS IS OF BULK AT MOST 1048576: true; the input reads as it did. -/
def topLanesUptoRow : OpenClaim := { program := "ytpjiopgakifhaaagreat", sum := "a6cff7770efa11acbd29a8a6ccedaad9445c650ed9fcb8506b53b4ded64ec9ae", func := "pinball/pinballtop.TopLanes", spec := "topLanes", inPlace := ["slices.overlaps[int]"], unfollowed := true, recurses := true, named := ["math/bits.divideError", "math/bits.overflowError"], apart := false, narrowed := true }
def TopLanesUptoSaid : Prop := topLanesUptoRow.holds Tryz.pinned (OpenSpec.upto topLanesSpec)

/-- 'pinballtop.TopTargets', WHERE WHAT IT READS IS OF BULK AT MOST 1048576: true; the input reads as it did. -/
def topTargetsUptoRow : OpenClaim := { program := "ytpjiopgakifhaaagreat", sum := "a6cff7770efa11acbd29a8a6ccedaad9445c650ed9fcb8506b53b4ded64ec9ae", func := "pinball/pinballtop.TopTargets", spec := "topTargets", inPlace := ["slices.overlaps[int]"], unfollowed := true, recurses := true, named := ["math/bits.divideError", "math/bits.overflowError"], apart := false, narrowed := true }
def TopTargetsUptoSaid : Prop := topTargetsUptoRow.holds Tryz.pinned (OpenSpec.upto topTargetsSpec)

end Rows
end Go.Proofs.YtpjiopgakifhaaaGreat
