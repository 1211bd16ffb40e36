/-
  No cell of these rows narrows 'for every input' (looked for: loops, veiled, ifaces, maps, wideKeys, modest, calm, conditions, laid).
  DERIVED. THE GIVEN ROWS OF THIS SEAT. 10 by the template 'for every input the law returns true; each argument reads behind the call as it read before'; 0 by the template 'total and deterministic' (their statements: YtjbhnbbegkdplaaTotals.lean).
  GIVEN WITH THE SEED: the statements are not yours to turn. If you find one false, say at which input.
  Laid BY PROGRAM, IN A SANDBOX (cutbox-rows.mjs): the forced cells as the released guide's own fill.sh prints them over the translation 1b00d4d31561f7ee… (all of the seat's roots in one cut). By AI agents, Wed Nov 11 2026. No macro, syntax, notation, axiom, sorry.
-/
import Derived.Test.YtjbhnbbegkdplaaChecked
import GoSem.Claim
import GoSem.ClaimJoined
import GoSem.ClaimMapViews
import Derived.JoinedTies
import Derived.KernelRfl
namespace Go.Proofs.Ytjbhnbbegkdplaa
/- THE CELL 'sum', in the pinned program and in every row, IS THE sha256 OF THE DUMP (.gsa) THAT YtjbhnbbegkdplaaProg.lean LOADS. Nothing in Lean hashes anything: it is a label: what it is worth is what the hold of that sum in a sandbox is worth. -/
noncomputable def Try.pinned : Pinned := { name := "ytjbhnbbegkdplaa", sum := "1b00d4d31561f7ee0958e11c45afbd72910a0a93de51035b4f2082923ddd54f8", checked := Try.checked }
namespace Rows
def none {H : Type} : Left H := { results := [], args := [] }

/-- 'pinballlaw28.TiltRuns': WHATEVER THE INPUT: true; the input reads as it did. -/
def tiltRunsSpec : ChangeSpec := { name := "tiltRuns", fn := fun _ => fun
  | [d1, d2, d3] => { results := [.lit (.bool true)], args := [d1, d2, d3] }
  | _ => none }
def tiltRunsRow : OpenClaim := { program := "ytjbhnbbegkdplaa", sum := "1b00d4d31561f7ee0958e11c45afbd72910a0a93de51035b4f2082923ddd54f8", func := "pinball/pinballlaw28.TiltRuns", spec := "tiltRuns", unfollowed := true, recurses := true, apart := false }
def TiltRunsSaid : Prop := tiltRunsRow.holds Try.pinned (OpenSpec.ofChange tiltRunsSpec)

/-- ITS FALSE NEIGHBOUR: 'it returns false'. Refute it at one input. -/
def tiltRunsWrong : ChangeSpec := { name := "tiltRuns", fn := fun _ => fun
  | [d1, d2, d3] => { results := [.lit (.bool false)], args := [d1, d2, d3] }
  | _ => none }
def TiltRunsWrongFalsely : Prop := tiltRunsRow.holds Try.pinned (OpenSpec.ofChange tiltRunsWrong)

/-- 'pinballlaw28.TiltTurns': WHATEVER THE INPUT: true; the input reads as it did. -/
def tiltTurnsSpec : ChangeSpec := { name := "tiltTurns", fn := fun _ => fun
  | [d1, d2] => { results := [.lit (.bool true)], args := [d1, d2] }
  | _ => none }
def tiltTurnsRow : OpenClaim := { program := "ytjbhnbbegkdplaa", sum := "1b00d4d31561f7ee0958e11c45afbd72910a0a93de51035b4f2082923ddd54f8", func := "pinball/pinballlaw28.TiltTurns", spec := "tiltTurns", unfollowed := true, recurses := true, apart := false }
def TiltTurnsSaid : Prop := tiltTurnsRow.holds Try.pinned (OpenSpec.ofChange tiltTurnsSpec)

/-- ITS FALSE NEIGHBOUR: 'it returns false'. Refute it at one input. -/
def tiltTurnsWrong : ChangeSpec := { name := "tiltTurns", fn := fun _ => fun
  | [d1, d2] => { results := [.lit (.bool false)], args := [d1, d2] }
  | _ => none }
def TiltTurnsWrongFalsely : Prop := tiltTurnsRow.holds Try.pinned (OpenSpec.ofChange tiltTurnsWrong)

/-- 'pinballlaw28.TiltCounts': WHATEVER THE INPUT: true; the input reads as it did. -/
def tiltCountsSpec : ChangeSpec := { name := "tiltCounts", fn := fun _ => fun
  | [d1, d2] => { results := [.lit (.bool true)], args := [d1, d2] }
  | _ => none }
def tiltCountsRow : OpenClaim := { program := "ytjbhnbbegkdplaa", sum := "1b00d4d31561f7ee0958e11c45afbd72910a0a93de51035b4f2082923ddd54f8", func := "pinball/pinballlaw28.TiltCounts", spec := "tiltCounts", unfollowed := true, recurses := true, apart := false }
def TiltCountsSaid : Prop := tiltCountsRow.holds Try.pinned (OpenSpec.ofChange tiltCountsSpec)

/-- ITS FALSE NEIGHBOUR: 'it returns false'. Refute it at one input. -/
def tiltCountsWrong : ChangeSpec := { name := "tiltCounts", fn := fun _ => fun
  | [d1, d2] => { results := [.lit (.bool false)], args := [d1, d2] }
  | _ => none }
def TiltCountsWrongFalsely : Prop := tiltCountsRow.holds Try.pinned (OpenSpec.ofChange tiltCountsWrong)

/-- 'pinballlaw28.TiltRests': WHATEVER THE INPUT: true; the input reads as it did. -/
def tiltRestsSpec : ChangeSpec := { name := "tiltRests", fn := fun _ => fun
  | [d1, d2] => { results := [.lit (.bool true)], args := [d1, d2] }
  | _ => none }
def tiltRestsRow : OpenClaim := { program := "ytjbhnbbegkdplaa", sum := "1b00d4d31561f7ee0958e11c45afbd72910a0a93de51035b4f2082923ddd54f8", func := "pinball/pinballlaw28.TiltRests", spec := "tiltRests", unfollowed := true, recurses := true, apart := false }
def TiltRestsSaid : Prop := tiltRestsRow.holds Try.pinned (OpenSpec.ofChange tiltRestsSpec)

/-- ITS FALSE NEIGHBOUR: 'it returns false'. Refute it at one input. -/
def tiltRestsWrong : ChangeSpec := { name := "tiltRests", fn := fun _ => fun
  | [d1, d2] => { results := [.lit (.bool false)], args := [d1, d2] }
  | _ => none }
def TiltRestsWrongFalsely : Prop := tiltRestsRow.holds Try.pinned (OpenSpec.ofChange tiltRestsWrong)

/-- 'pinballlaw28.TiltMoves': WHATEVER THE INPUT: true; the input reads as it did. -/
def tiltMovesSpec : ChangeSpec := { name := "tiltMoves", fn := fun _ => fun
  | [d1, d2, d3] => { results := [.lit (.bool true)], args := [d1, d2, d3] }
  | _ => none }
def tiltMovesRow : OpenClaim := { program := "ytjbhnbbegkdplaa", sum := "1b00d4d31561f7ee0958e11c45afbd72910a0a93de51035b4f2082923ddd54f8", func := "pinball/pinballlaw28.TiltMoves", spec := "tiltMoves", unfollowed := true, recurses := true, apart := false }
def TiltMovesSaid : Prop := tiltMovesRow.holds Try.pinned (OpenSpec.ofChange tiltMovesSpec)

/-- ITS FALSE NEIGHBOUR: 'it returns false'. Refute it at one input. -/
def tiltMovesWrong : ChangeSpec := { name := "tiltMoves", fn := fun _ => fun
  | [d1, d2, d3] => { results := [.lit (.bool false)], args := [d1, d2, d3] }
  | _ => none }
def TiltMovesWrongFalsely : Prop := tiltMovesRow.holds Try.pinned (OpenSpec.ofChange tiltMovesWrong)

/-- 'pinballlaw28.TiltLimits': WHATEVER THE INPUT: true; the input reads as it did. -/
def tiltLimitsSpec : ChangeSpec := { name := "tiltLimits", fn := fun _ => fun
  | [d] => { results := [.lit (.bool true)], args := [d] }
  | _ => none }
def tiltLimitsRow : OpenClaim := { program := "ytjbhnbbegkdplaa", sum := "1b00d4d31561f7ee0958e11c45afbd72910a0a93de51035b4f2082923ddd54f8", func := "pinball/pinballlaw28.TiltLimits", spec := "tiltLimits", unfollowed := true, recurses := true, apart := false }
def TiltLimitsSaid : Prop := tiltLimitsRow.holds Try.pinned (OpenSpec.ofChange tiltLimitsSpec)

/-- ITS FALSE NEIGHBOUR: 'it returns false'. Refute it at one input. -/
def tiltLimitsWrong : ChangeSpec := { name := "tiltLimits", fn := fun _ => fun
  | [d] => { results := [.lit (.bool false)], args := [d] }
  | _ => none }
def TiltLimitsWrongFalsely : Prop := tiltLimitsRow.holds Try.pinned (OpenSpec.ofChange tiltLimitsWrong)

/-- 'pinballlaw28.TiltStates': WHATEVER THE INPUT: true; the input reads as it did. -/
def tiltStatesSpec : ChangeSpec := { name := "tiltStates", fn := fun _ => fun
  | [d1, d2] => { results := [.lit (.bool true)], args := [d1, d2] }
  | _ => none }
def tiltStatesRow : OpenClaim := { program := "ytjbhnbbegkdplaa", sum := "1b00d4d31561f7ee0958e11c45afbd72910a0a93de51035b4f2082923ddd54f8", func := "pinball/pinballlaw28.TiltStates", spec := "tiltStates", unfollowed := true, recurses := true, apart := false }
def TiltStatesSaid : Prop := tiltStatesRow.holds Try.pinned (OpenSpec.ofChange tiltStatesSpec)

/-- ITS FALSE NEIGHBOUR: 'it returns false'. Refute it at one input. -/
def tiltStatesWrong : ChangeSpec := { name := "tiltStates", fn := fun _ => fun
  | [d1, d2] => { results := [.lit (.bool false)], args := [d1, d2] }
  | _ => none }
def TiltStatesWrongFalsely : Prop := tiltStatesRow.holds Try.pinned (OpenSpec.ofChange tiltStatesWrong)

/-- 'pinballlaw28.TiltSplits': WHATEVER THE INPUT: true; the input reads as it did. -/
def tiltSplitsSpec : ChangeSpec := { name := "tiltSplits", fn := fun _ => fun
  | [d1, d2, d3] => { results := [.lit (.bool true)], args := [d1, d2, d3] }
  | _ => none }
def tiltSplitsRow : OpenClaim := { program := "ytjbhnbbegkdplaa", sum := "1b00d4d31561f7ee0958e11c45afbd72910a0a93de51035b4f2082923ddd54f8", func := "pinball/pinballlaw28.TiltSplits", spec := "tiltSplits", unfollowed := true, recurses := true, apart := false }
def TiltSplitsSaid : Prop := tiltSplitsRow.holds Try.pinned (OpenSpec.ofChange tiltSplitsSpec)

/-- ITS FALSE NEIGHBOUR: 'it returns false'. Refute it at one input. -/
def tiltSplitsWrong : ChangeSpec := { name := "tiltSplits", fn := fun _ => fun
  | [d1, d2, d3] => { results := [.lit (.bool false)], args := [d1, d2, d3] }
  | _ => none }
def TiltSplitsWrongFalsely : Prop := tiltSplitsRow.holds Try.pinned (OpenSpec.ofChange tiltSplitsWrong)

/-- 'pinballlaw28.TiltSteps': WHATEVER THE INPUT: true; the input reads as it did. -/
def tiltStepsSpec : ChangeSpec := { name := "tiltSteps", fn := fun _ => fun
  | [d1, d2, d3] => { results := [.lit (.bool true)], args := [d1, d2, d3] }
  | _ => none }
def tiltStepsRow : OpenClaim := { program := "ytjbhnbbegkdplaa", sum := "1b00d4d31561f7ee0958e11c45afbd72910a0a93de51035b4f2082923ddd54f8", func := "pinball/pinballlaw28.TiltSteps", spec := "tiltSteps", unfollowed := true, recurses := true, apart := false }
def TiltStepsSaid : Prop := tiltStepsRow.holds Try.pinned (OpenSpec.ofChange tiltStepsSpec)

/-- ITS FALSE NEIGHBOUR: 'it returns false'. Refute it at one input. -/
def tiltStepsWrong : ChangeSpec := { name := "tiltSteps", fn := fun _ => fun
  | [d1, d2, d3] => { results := [.lit (.bool false)], args := [d1, d2, d3] }
  | _ => none }
def TiltStepsWrongFalsely : Prop := tiltStepsRow.holds Try.pinned (OpenSpec.ofChange tiltStepsWrong)

/-- 'pinballlaw28.TiltSlams': WHATEVER THE INPUT: true; the input reads as it did. -/
def tiltSlamsSpec : ChangeSpec := { name := "tiltSlams", fn := fun _ => fun
  | [d1, d2, d3] => { results := [.lit (.bool true)], args := [d1, d2, d3] }
  | _ => none }
def tiltSlamsRow : OpenClaim := { program := "ytjbhnbbegkdplaa", sum := "1b00d4d31561f7ee0958e11c45afbd72910a0a93de51035b4f2082923ddd54f8", func := "pinball/pinballlaw28.TiltSlams", spec := "tiltSlams", unfollowed := true, recurses := true, apart := false }
def TiltSlamsSaid : Prop := tiltSlamsRow.holds Try.pinned (OpenSpec.ofChange tiltSlamsSpec)

/-- ITS FALSE NEIGHBOUR: 'it returns false'. Refute it at one input. -/
def tiltSlamsWrong : ChangeSpec := { name := "tiltSlams", fn := fun _ => fun
  | [d1, d2, d3] => { results := [.lit (.bool false)], args := [d1, d2, d3] }
  | _ => none }
def TiltSlamsWrongFalsely : Prop := tiltSlamsRow.holds Try.pinned (OpenSpec.ofChange tiltSlamsWrong)

/- THE SECOND FORM. 'bulk': how many values and letters a reading holds, each counted each time it is reached (what is shared counts as often as it is met; a slice's spare places count too). A statement '..UptoSaid' is the law's where the arguments, and the package variables that the reading takes, are together of bulk at most 1048576: NARROWER than '..Said'. Prove '..Said' where nothing that the law and all that it calls make is longer than what came in: it says more and counts as full. Else prove '..UptoSaid'. A law counts once. -/
mutual
def uptoBulk {H : Type} : DataW H → Nat
  | .lit (.string bytes) => bytes.length + 1
  | .lit _ => 1
  | .nil => 1
  | .ptr d => uptoBulk d + 1
  | .slice elems spare => uptoBulkAll elems + uptoBulkAll spare + 1
  | .agg parts => uptoBulkAll parts + 1
  | .iface _ d => uptoBulk d + 1
  | .map entries => uptoBulkEntries entries + 1
  | .held _ => 1
def uptoBulkAll {H : Type} : List (DataW H) → Nat
  | [] => 0
  | d :: r => uptoBulk d + uptoBulkAll r
def uptoBulkEntries {H : Type} : List (Lit × DataW H) → Nat
  | [] => 0
  | x :: r => uptoBulkEntry x + uptoBulkEntries r
def uptoBulkEntry {H : Type} : Lit × DataW H → Nat
  | (.string bytes, d) => bytes.length + uptoBulk d + 1
  | (_, d) => uptoBulk d + 1
 end
def uptoSmall : (H : Type) → List (DataW H) → Bool := fun _ ds => decide (uptoBulkAll ds ≤ 1048576)
def OpenSpec.upto (s : _root_.Go.ChangeSpec) : _root_.Go.OpenSpec := { _root_.Go.OpenSpec.ofChange s with cond := some uptoSmall }

/-- 'pinballlaw28.TiltRuns', WHERE WHAT IT READS IS OF BULK AT MOST 1048576: true; the input reads as it did. -/
def tiltRunsUptoRow : OpenClaim := { program := "ytjbhnbbegkdplaa", sum := "1b00d4d31561f7ee0958e11c45afbd72910a0a93de51035b4f2082923ddd54f8", func := "pinball/pinballlaw28.TiltRuns", spec := "tiltRuns", unfollowed := true, recurses := true, apart := false, narrowed := true }
def TiltRunsUptoSaid : Prop := tiltRunsUptoRow.holds Try.pinned (OpenSpec.upto tiltRunsSpec)

/-- 'pinballlaw28.TiltTurns', WHERE WHAT IT READS IS OF BULK AT MOST 1048576: true; the input reads as it did. -/
def tiltTurnsUptoRow : OpenClaim := { program := "ytjbhnbbegkdplaa", sum := "1b00d4d31561f7ee0958e11c45afbd72910a0a93de51035b4f2082923ddd54f8", func := "pinball/pinballlaw28.TiltTurns", spec := "tiltTurns", unfollowed := true, recurses := true, apart := false, narrowed := true }
def TiltTurnsUptoSaid : Prop := tiltTurnsUptoRow.holds Try.pinned (OpenSpec.upto tiltTurnsSpec)

/-- 'pinballlaw28.TiltCounts', WHERE WHAT IT READS IS OF BULK AT MOST 1048576: true; the input reads as it did. -/
def tiltCountsUptoRow : OpenClaim := { program := "ytjbhnbbegkdplaa", sum := "1b00d4d31561f7ee0958e11c45afbd72910a0a93de51035b4f2082923ddd54f8", func := "pinball/pinballlaw28.TiltCounts", spec := "tiltCounts", unfollowed := true, recurses := true, apart := false, narrowed := true }
def TiltCountsUptoSaid : Prop := tiltCountsUptoRow.holds Try.pinned (OpenSpec.upto tiltCountsSpec)

/-- 'pinballlaw28.TiltRests', WHERE WHAT IT READS IS OF BULK AT MOST 1048576: true; the input reads as it did. -/
def tiltRestsUptoRow : OpenClaim := { program := "ytjbhnbbegkdplaa", sum := "1b00d4d31561f7ee0958e11c45afbd72910a0a93de51035b4f2082923ddd54f8", func := "pinball/pinballlaw28.TiltRests", spec := "tiltRests", unfollowed := true, recurses := true, apart := false, narrowed := true }
def TiltRestsUptoSaid : Prop := tiltRestsUptoRow.holds Try.pinned (OpenSpec.upto tiltRestsSpec)

/-- 'pinballlaw28.TiltMoves', WHERE WHAT IT READS IS OF BULK AT MOST 1048576: true; the input reads as it did. -/
def tiltMovesUptoRow : OpenClaim := { program := "ytjbhnbbegkdplaa", sum := "1b00d4d31561f7ee0958e11c45afbd72910a0a93de51035b4f2082923ddd54f8", func := "pinball/pinballlaw28.TiltMoves", spec := "tiltMoves", unfollowed := true, recurses := true, apart := false, narrowed := true }
def TiltMovesUptoSaid : Prop := tiltMovesUptoRow.holds Try.pinned (OpenSpec.upto tiltMovesSpec)

/-- 'pinballlaw28.TiltLimits', WHERE WHAT IT READS IS OF BULK AT MOST 1048576: true; the input reads as it did. -/
def tiltLimitsUptoRow : OpenClaim := { program := "ytjbhnbbegkdplaa", sum := "1b00d4d31561f7ee0958e11c45afbd72910a0a93de51035b4f2082923ddd54f8", func := "pinball/pinballlaw28.TiltLimits", spec := "tiltLimits", unfollowed := true, recurses := true, apart := false, narrowed := true }
def TiltLimitsUptoSaid : Prop := tiltLimitsUptoRow.holds Try.pinned (OpenSpec.upto tiltLimitsSpec)

/-- 'pinballlaw28.TiltStates', WHERE WHAT IT READS IS OF BULK AT MOST 1048576: true; the input reads as it did. -/
def tiltStatesUptoRow : OpenClaim := { program := "ytjbhnbbegkdplaa", sum := "1b00d4d31561f7ee0958e11c45afbd72910a0a93de51035b4f2082923ddd54f8", func := "pinball/pinballlaw28.TiltStates", spec := "tiltStates", unfollowed := true, recurses := true, apart := false, narrowed := true }
def TiltStatesUptoSaid : Prop := tiltStatesUptoRow.holds Try.pinned (OpenSpec.upto tiltStatesSpec)

/-- 'pinballlaw28.TiltSplits', WHERE WHAT IT READS IS OF BULK AT MOST 1048576: true; the input reads as it did. -/
def tiltSplitsUptoRow : OpenClaim := { program := "ytjbhnbbegkdplaa", sum := "1b00d4d31561f7ee0958e11c45afbd72910a0a93de51035b4f2082923ddd54f8", func := "pinball/pinballlaw28.TiltSplits", spec := "tiltSplits", unfollowed := true, recurses := true, apart := false, narrowed := true }
def TiltSplitsUptoSaid : Prop := tiltSplitsUptoRow.holds Try.pinned (OpenSpec.upto tiltSplitsSpec)

/-- 'pinballlaw28.TiltSteps', WHERE WHAT IT READS IS OF BULK AT MOST 1048576: true; the input reads as it did. -/
def tiltStepsUptoRow : OpenClaim := { program := "ytjbhnbbegkdplaa", sum := "1b00d4d31561f7ee0958e11c45afbd72910a0a93de51035b4f2082923ddd54f8", func := "pinball/pinballlaw28.TiltSteps", spec := "tiltSteps", unfollowed := true, recurses := true, apart := false, narrowed := true }
def TiltStepsUptoSaid : Prop := tiltStepsUptoRow.holds Try.pinned (OpenSpec.upto tiltStepsSpec)

/-- 'pinballlaw28.TiltSlams', WHERE WHAT IT READS IS OF BULK AT MOST 1048576: true; the input reads as it did. -/
def tiltSlamsUptoRow : OpenClaim := { program := "ytjbhnbbegkdplaa", sum := "1b00d4d31561f7ee0958e11c45afbd72910a0a93de51035b4f2082923ddd54f8", func := "pinball/pinballlaw28.TiltSlams", spec := "tiltSlams", unfollowed := true, recurses := true, apart := false, narrowed := true }
def TiltSlamsUptoSaid : Prop := tiltSlamsUptoRow.holds Try.pinned (OpenSpec.upto tiltSlamsSpec)

end Rows
end Go.Proofs.Ytjbhnbbegkdplaa
