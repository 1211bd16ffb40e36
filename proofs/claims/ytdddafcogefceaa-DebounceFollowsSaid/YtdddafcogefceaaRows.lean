/-
  No cell of these rows narrows 'for every input' (looked for: loops, veiled, ifaces, maps, wideKeys, modest, calm, conditions, laid).
  DERIVED. THE GIVEN ROWS OF THIS SEAT. 10 by the template 'for every input the law returns true; each argument reads behind the call as it read before'; 0 by the template 'total and deterministic' (their statements: YtdddafcogefceaaTotals.lean).
  GIVEN WITH THE SEED: the statements are not yours to turn. If you find one false, say at which input.
  Laid BY PROGRAM, IN A SANDBOX (cutbox-rows.mjs): the forced cells as the released guide's own fill.sh prints them over the translation 923d2b68b08b5ffd… (all of the seat's roots in one cut). By AI agents, Wed Nov 11 2026. No macro, syntax, notation, axiom, sorry.
-/
import Derived.Test.YtdddafcogefceaaChecked
import GoSem.Claim
import GoSem.ClaimJoined
import GoSem.ClaimMapViews
import Derived.JoinedTies
import Derived.KernelRfl
namespace Go.Proofs.Ytdddafcogefceaa
/- THE CELL 'sum', in the pinned program and in every row, IS THE sha256 OF THE DUMP (.gsa) THAT YtdddafcogefceaaProg.lean LOADS. Nothing in Lean hashes anything: it is a label: what it is worth is what the hold of that sum in a sandbox is worth. -/
noncomputable def Try.pinned : Pinned := { name := "ytdddafcogefceaa", sum := "923d2b68b08b5ffd8d80382515c9ba2c726aad417d8c640b9487be7ed7d1a2a8", checked := Try.checked }
namespace Rows
def none {H : Type} : Left H := { results := [], args := [] }

/-- 'pinballlaw27.DebounceRuns': WHATEVER THE INPUT: true; the input reads as it did. -/
def debounceRunsSpec : ChangeSpec := { name := "debounceRuns", fn := fun _ => fun
  | [d1, d2, d3] => { results := [.lit (.bool true)], args := [d1, d2, d3] }
  | _ => none }
def debounceRunsRow : OpenClaim := { program := "ytdddafcogefceaa", sum := "923d2b68b08b5ffd8d80382515c9ba2c726aad417d8c640b9487be7ed7d1a2a8", func := "pinball/pinballlaw27.DebounceRuns", spec := "debounceRuns", apart := false }
def DebounceRunsSaid : Prop := debounceRunsRow.holds Try.pinned (OpenSpec.ofChange debounceRunsSpec)

/-- ITS FALSE NEIGHBOUR: 'it returns false'. Refute it at one input. -/
def debounceRunsWrong : ChangeSpec := { name := "debounceRuns", fn := fun _ => fun
  | [d1, d2, d3] => { results := [.lit (.bool false)], args := [d1, d2, d3] }
  | _ => none }
def DebounceRunsWrongFalsely : Prop := debounceRunsRow.holds Try.pinned (OpenSpec.ofChange debounceRunsWrong)

/-- 'pinballlaw27.DebounceAlternates': WHATEVER THE INPUT: true; the input reads as it did. -/
def debounceAlternatesSpec : ChangeSpec := { name := "debounceAlternates", fn := fun _ => fun
  | [d1, d2] => { results := [.lit (.bool true)], args := [d1, d2] }
  | _ => none }
def debounceAlternatesRow : OpenClaim := { program := "ytdddafcogefceaa", sum := "923d2b68b08b5ffd8d80382515c9ba2c726aad417d8c640b9487be7ed7d1a2a8", func := "pinball/pinballlaw27.DebounceAlternates", spec := "debounceAlternates", apart := false }
def DebounceAlternatesSaid : Prop := debounceAlternatesRow.holds Try.pinned (OpenSpec.ofChange debounceAlternatesSpec)

/-- ITS FALSE NEIGHBOUR: 'it returns false'. Refute it at one input. -/
def debounceAlternatesWrong : ChangeSpec := { name := "debounceAlternates", fn := fun _ => fun
  | [d1, d2] => { results := [.lit (.bool false)], args := [d1, d2] }
  | _ => none }
def DebounceAlternatesWrongFalsely : Prop := debounceAlternatesRow.holds Try.pinned (OpenSpec.ofChange debounceAlternatesWrong)

/-- 'pinballlaw27.DebounceIndependent': WHATEVER THE INPUT: true; the input reads as it did. -/
def debounceIndependentSpec : ChangeSpec := { name := "debounceIndependent", fn := fun _ => fun
  | [d1, d2, d3] => { results := [.lit (.bool true)], args := [d1, d2, d3] }
  | _ => none }
def debounceIndependentRow : OpenClaim := { program := "ytdddafcogefceaa", sum := "923d2b68b08b5ffd8d80382515c9ba2c726aad417d8c640b9487be7ed7d1a2a8", func := "pinball/pinballlaw27.DebounceIndependent", spec := "debounceIndependent", apart := false }
def DebounceIndependentSaid : Prop := debounceIndependentRow.holds Try.pinned (OpenSpec.ofChange debounceIndependentSpec)

/-- ITS FALSE NEIGHBOUR: 'it returns false'. Refute it at one input. -/
def debounceIndependentWrong : ChangeSpec := { name := "debounceIndependent", fn := fun _ => fun
  | [d1, d2, d3] => { results := [.lit (.bool false)], args := [d1, d2, d3] }
  | _ => none }
def DebounceIndependentWrongFalsely : Prop := debounceIndependentRow.holds Try.pinned (OpenSpec.ofChange debounceIndependentWrong)

/-- 'pinballlaw27.DebounceSplits': WHATEVER THE INPUT: true; the input reads as it did. -/
def debounceSplitsSpec : ChangeSpec := { name := "debounceSplits", fn := fun _ => fun
  | [d1, d2, d3] => { results := [.lit (.bool true)], args := [d1, d2, d3] }
  | _ => none }
def debounceSplitsRow : OpenClaim := { program := "ytdddafcogefceaa", sum := "923d2b68b08b5ffd8d80382515c9ba2c726aad417d8c640b9487be7ed7d1a2a8", func := "pinball/pinballlaw27.DebounceSplits", spec := "debounceSplits", apart := false }
def DebounceSplitsSaid : Prop := debounceSplitsRow.holds Try.pinned (OpenSpec.ofChange debounceSplitsSpec)

/-- ITS FALSE NEIGHBOUR: 'it returns false'. Refute it at one input. -/
def debounceSplitsWrong : ChangeSpec := { name := "debounceSplits", fn := fun _ => fun
  | [d1, d2, d3] => { results := [.lit (.bool false)], args := [d1, d2, d3] }
  | _ => none }
def DebounceSplitsWrongFalsely : Prop := debounceSplitsRow.holds Try.pinned (OpenSpec.ofChange debounceSplitsWrong)

/-- 'pinballlaw27.DebounceMirrors': WHATEVER THE INPUT: true; the input reads as it did. -/
def debounceMirrorsSpec : ChangeSpec := { name := "debounceMirrors", fn := fun _ => fun
  | [d1, d2] => { results := [.lit (.bool true)], args := [d1, d2] }
  | _ => none }
def debounceMirrorsRow : OpenClaim := { program := "ytdddafcogefceaa", sum := "923d2b68b08b5ffd8d80382515c9ba2c726aad417d8c640b9487be7ed7d1a2a8", func := "pinball/pinballlaw27.DebounceMirrors", spec := "debounceMirrors", apart := false }
def DebounceMirrorsSaid : Prop := debounceMirrorsRow.holds Try.pinned (OpenSpec.ofChange debounceMirrorsSpec)

/-- ITS FALSE NEIGHBOUR: 'it returns false'. Refute it at one input. -/
def debounceMirrorsWrong : ChangeSpec := { name := "debounceMirrors", fn := fun _ => fun
  | [d1, d2] => { results := [.lit (.bool false)], args := [d1, d2] }
  | _ => none }
def DebounceMirrorsWrongFalsely : Prop := debounceMirrorsRow.holds Try.pinned (OpenSpec.ofChange debounceMirrorsWrong)

/-- 'pinballlaw27.DebounceLimits': WHATEVER THE INPUT: true; the input reads as it did. -/
def debounceLimitsSpec : ChangeSpec := { name := "debounceLimits", fn := fun _ => fun
  | [d1, d2] => { results := [.lit (.bool true)], args := [d1, d2] }
  | _ => none }
def debounceLimitsRow : OpenClaim := { program := "ytdddafcogefceaa", sum := "923d2b68b08b5ffd8d80382515c9ba2c726aad417d8c640b9487be7ed7d1a2a8", func := "pinball/pinballlaw27.DebounceLimits", spec := "debounceLimits", apart := false }
def DebounceLimitsSaid : Prop := debounceLimitsRow.holds Try.pinned (OpenSpec.ofChange debounceLimitsSpec)

/-- ITS FALSE NEIGHBOUR: 'it returns false'. Refute it at one input. -/
def debounceLimitsWrong : ChangeSpec := { name := "debounceLimits", fn := fun _ => fun
  | [d1, d2] => { results := [.lit (.bool false)], args := [d1, d2] }
  | _ => none }
def DebounceLimitsWrongFalsely : Prop := debounceLimitsRow.holds Try.pinned (OpenSpec.ofChange debounceLimitsWrong)

/-- 'pinballlaw27.DebounceStates': WHATEVER THE INPUT: true; the input reads as it did. -/
def debounceStatesSpec : ChangeSpec := { name := "debounceStates", fn := fun _ => fun
  | [d1, d2] => { results := [.lit (.bool true)], args := [d1, d2] }
  | _ => none }
def debounceStatesRow : OpenClaim := { program := "ytdddafcogefceaa", sum := "923d2b68b08b5ffd8d80382515c9ba2c726aad417d8c640b9487be7ed7d1a2a8", func := "pinball/pinballlaw27.DebounceStates", spec := "debounceStates", apart := false }
def DebounceStatesSaid : Prop := debounceStatesRow.holds Try.pinned (OpenSpec.ofChange debounceStatesSpec)

/-- ITS FALSE NEIGHBOUR: 'it returns false'. Refute it at one input. -/
def debounceStatesWrong : ChangeSpec := { name := "debounceStates", fn := fun _ => fun
  | [d1, d2] => { results := [.lit (.bool false)], args := [d1, d2] }
  | _ => none }
def DebounceStatesWrongFalsely : Prop := debounceStatesRow.holds Try.pinned (OpenSpec.ofChange debounceStatesWrong)

/-- 'pinballlaw27.DebounceSamples': WHATEVER THE INPUT: true; the input reads as it did. -/
def debounceSamplesSpec : ChangeSpec := { name := "debounceSamples", fn := fun _ => fun
  | [d1, d2, d3] => { results := [.lit (.bool true)], args := [d1, d2, d3] }
  | _ => none }
def debounceSamplesRow : OpenClaim := { program := "ytdddafcogefceaa", sum := "923d2b68b08b5ffd8d80382515c9ba2c726aad417d8c640b9487be7ed7d1a2a8", func := "pinball/pinballlaw27.DebounceSamples", spec := "debounceSamples", apart := false }
def DebounceSamplesSaid : Prop := debounceSamplesRow.holds Try.pinned (OpenSpec.ofChange debounceSamplesSpec)

/-- ITS FALSE NEIGHBOUR: 'it returns false'. Refute it at one input. -/
def debounceSamplesWrong : ChangeSpec := { name := "debounceSamples", fn := fun _ => fun
  | [d1, d2, d3] => { results := [.lit (.bool false)], args := [d1, d2, d3] }
  | _ => none }
def DebounceSamplesWrongFalsely : Prop := debounceSamplesRow.holds Try.pinned (OpenSpec.ofChange debounceSamplesWrong)

/-- 'pinballlaw27.DebounceIgnores': WHATEVER THE INPUT: true; the input reads as it did. -/
def debounceIgnoresSpec : ChangeSpec := { name := "debounceIgnores", fn := fun _ => fun
  | [d1, d2, d3] => { results := [.lit (.bool true)], args := [d1, d2, d3] }
  | _ => none }
def debounceIgnoresRow : OpenClaim := { program := "ytdddafcogefceaa", sum := "923d2b68b08b5ffd8d80382515c9ba2c726aad417d8c640b9487be7ed7d1a2a8", func := "pinball/pinballlaw27.DebounceIgnores", spec := "debounceIgnores", apart := false }
def DebounceIgnoresSaid : Prop := debounceIgnoresRow.holds Try.pinned (OpenSpec.ofChange debounceIgnoresSpec)

/-- ITS FALSE NEIGHBOUR: 'it returns false'. Refute it at one input. -/
def debounceIgnoresWrong : ChangeSpec := { name := "debounceIgnores", fn := fun _ => fun
  | [d1, d2, d3] => { results := [.lit (.bool false)], args := [d1, d2, d3] }
  | _ => none }
def DebounceIgnoresWrongFalsely : Prop := debounceIgnoresRow.holds Try.pinned (OpenSpec.ofChange debounceIgnoresWrong)

/-- 'pinballlaw27.DebounceFollows': WHATEVER THE INPUT: true; the input reads as it did. -/
def debounceFollowsSpec : ChangeSpec := { name := "debounceFollows", fn := fun _ => fun
  | [d1, d2, d3] => { results := [.lit (.bool true)], args := [d1, d2, d3] }
  | _ => none }
def debounceFollowsRow : OpenClaim := { program := "ytdddafcogefceaa", sum := "923d2b68b08b5ffd8d80382515c9ba2c726aad417d8c640b9487be7ed7d1a2a8", func := "pinball/pinballlaw27.DebounceFollows", spec := "debounceFollows", apart := false }
def DebounceFollowsSaid : Prop := debounceFollowsRow.holds Try.pinned (OpenSpec.ofChange debounceFollowsSpec)

/-- ITS FALSE NEIGHBOUR: 'it returns false'. Refute it at one input. -/
def debounceFollowsWrong : ChangeSpec := { name := "debounceFollows", fn := fun _ => fun
  | [d1, d2, d3] => { results := [.lit (.bool false)], args := [d1, d2, d3] }
  | _ => none }
def DebounceFollowsWrongFalsely : Prop := debounceFollowsRow.holds Try.pinned (OpenSpec.ofChange debounceFollowsWrong)

/- THE SECOND FORM. 'bulk': how many values and letters a reading holds, each counted each time it is reached (what is shared counts as often as it is met; a slice's spare places count too). A statement '..UptoSaid' is the law's where the arguments, and the package variables that the reading takes, are together of bulk at most 1048576: NARROWER than '..Said'. Prove '..Said' where nothing that the law and all that it calls make is longer than what came in: it says more and counts as full. Else prove '..UptoSaid'. A law counts once. -/
mutual
def uptoBulk {H : Type} : DataW H → Nat
  | .lit (.string bytes) => bytes.length + 1
  | .lit _ => 1
  | .nil => 1
  | .ptr d => uptoBulk d + 1
  | .slice elems spare => uptoBulkAll elems + uptoBulkAll spare + 1
  | .agg parts => uptoBulkAll parts + 1
  | .iface _ d => uptoBulk d + 1
  | .map entries => uptoBulkEntries entries + 1
  | .held _ => 1
def uptoBulkAll {H : Type} : List (DataW H) → Nat
  | [] => 0
  | d :: r => uptoBulk d + uptoBulkAll r
def uptoBulkEntries {H : Type} : List (Lit × DataW H) → Nat
  | [] => 0
  | x :: r => uptoBulkEntry x + uptoBulkEntries r
def uptoBulkEntry {H : Type} : Lit × DataW H → Nat
  | (.string bytes, d) => bytes.length + uptoBulk d + 1
  | (_, d) => uptoBulk d + 1
 end
def uptoSmall : (H : Type) → List (DataW H) → Bool := fun _ ds => decide (uptoBulkAll ds ≤ 1048576)
def OpenSpec.upto (s : _root_.Go.ChangeSpec) : _root_.Go.OpenSpec := { _root_.Go.OpenSpec.ofChange s with cond := some uptoSmall }

/-- 'pinballlaw27.DebounceRuns', WHERE WHAT IT READS IS OF BULK AT MOST 1048576: true; the input reads as it did. -/
def debounceRunsUptoRow : OpenClaim := { program := "ytdddafcogefceaa", sum := "923d2b68b08b5ffd8d80382515c9ba2c726aad417d8c640b9487be7ed7d1a2a8", func := "pinball/pinballlaw27.DebounceRuns", spec := "debounceRuns", apart := false, narrowed := true }
def DebounceRunsUptoSaid : Prop := debounceRunsUptoRow.holds Try.pinned (OpenSpec.upto debounceRunsSpec)

/-- 'pinballlaw27.DebounceAlternates', WHERE WHAT IT READS IS OF BULK AT MOST 1048576: true; the input reads as it did. -/
def debounceAlternatesUptoRow : OpenClaim := { program := "ytdddafcogefceaa", sum := "923d2b68b08b5ffd8d80382515c9ba2c726aad417d8c640b9487be7ed7d1a2a8", func := "pinball/pinballlaw27.DebounceAlternates", spec := "debounceAlternates", apart := false, narrowed := true }
def DebounceAlternatesUptoSaid : Prop := debounceAlternatesUptoRow.holds Try.pinned (OpenSpec.upto debounceAlternatesSpec)

/-- 'pinballlaw27.DebounceIndependent', WHERE WHAT IT READS IS OF BULK AT MOST 1048576: true; the input reads as it did. -/
def debounceIndependentUptoRow : OpenClaim := { program := "ytdddafcogefceaa", sum := "923d2b68b08b5ffd8d80382515c9ba2c726aad417d8c640b9487be7ed7d1a2a8", func := "pinball/pinballlaw27.DebounceIndependent", spec := "debounceIndependent", apart := false, narrowed := true }
def DebounceIndependentUptoSaid : Prop := debounceIndependentUptoRow.holds Try.pinned (OpenSpec.upto debounceIndependentSpec)

/-- 'pinballlaw27.DebounceSplits', WHERE WHAT IT READS IS OF BULK AT MOST 1048576: true; the input reads as it did. -/
def debounceSplitsUptoRow : OpenClaim := { program := "ytdddafcogefceaa", sum := "923d2b68b08b5ffd8d80382515c9ba2c726aad417d8c640b9487be7ed7d1a2a8", func := "pinball/pinballlaw27.DebounceSplits", spec := "debounceSplits", apart := false, narrowed := true }
def DebounceSplitsUptoSaid : Prop := debounceSplitsUptoRow.holds Try.pinned (OpenSpec.upto debounceSplitsSpec)

/-- 'pinballlaw27.DebounceMirrors', WHERE WHAT IT READS IS OF BULK AT MOST 1048576: true; the input reads as it did. -/
def debounceMirrorsUptoRow : OpenClaim := { program := "ytdddafcogefceaa", sum := "923d2b68b08b5ffd8d80382515c9ba2c726aad417d8c640b9487be7ed7d1a2a8", func := "pinball/pinballlaw27.DebounceMirrors", spec := "debounceMirrors", apart := false, narrowed := true }
def DebounceMirrorsUptoSaid : Prop := debounceMirrorsUptoRow.holds Try.pinned (OpenSpec.upto debounceMirrorsSpec)

/-- 'pinballlaw27.DebounceLimits', WHERE WHAT IT READS IS OF BULK AT MOST 1048576: true; the input reads as it did. -/
def debounceLimitsUptoRow : OpenClaim := { program := "ytdddafcogefceaa", sum := "923d2b68b08b5ffd8d80382515c9ba2c726aad417d8c640b9487be7ed7d1a2a8", func := "pinball/pinballlaw27.DebounceLimits", spec := "debounceLimits", apart := false, narrowed := true }
def DebounceLimitsUptoSaid : Prop := debounceLimitsUptoRow.holds Try.pinned (OpenSpec.upto debounceLimitsSpec)

/-- 'pinballlaw27.DebounceStates', WHERE WHAT IT READS IS OF BULK AT MOST 1048576: true; the input reads as it did. -/
def debounceStatesUptoRow : OpenClaim := { program := "ytdddafcogefceaa", sum := "923d2b68b08b5ffd8d80382515c9ba2c726aad417d8c640b9487be7ed7d1a2a8", func := "pinball/pinballlaw27.DebounceStates", spec := "debounceStates", apart := false, narrowed := true }
def DebounceStatesUptoSaid : Prop := debounceStatesUptoRow.holds Try.pinned (OpenSpec.upto debounceStatesSpec)

/-- 'pinballlaw27.DebounceSamples', WHERE WHAT IT READS IS OF BULK AT MOST 1048576: true; the input reads as it did. -/
def debounceSamplesUptoRow : OpenClaim := { program := "ytdddafcogefceaa", sum := "923d2b68b08b5ffd8d80382515c9ba2c726aad417d8c640b9487be7ed7d1a2a8", func := "pinball/pinballlaw27.DebounceSamples", spec := "debounceSamples", apart := false, narrowed := true }
def DebounceSamplesUptoSaid : Prop := debounceSamplesUptoRow.holds Try.pinned (OpenSpec.upto debounceSamplesSpec)

/-- 'pinballlaw27.DebounceIgnores', WHERE WHAT IT READS IS OF BULK AT MOST 1048576: true; the input reads as it did. -/
def debounceIgnoresUptoRow : OpenClaim := { program := "ytdddafcogefceaa", sum := "923d2b68b08b5ffd8d80382515c9ba2c726aad417d8c640b9487be7ed7d1a2a8", func := "pinball/pinballlaw27.DebounceIgnores", spec := "debounceIgnores", apart := false, narrowed := true }
def DebounceIgnoresUptoSaid : Prop := debounceIgnoresUptoRow.holds Try.pinned (OpenSpec.upto debounceIgnoresSpec)

/-- 'pinballlaw27.DebounceFollows', WHERE WHAT IT READS IS OF BULK AT MOST 1048576: true; the input reads as it did. -/
def debounceFollowsUptoRow : OpenClaim := { program := "ytdddafcogefceaa", sum := "923d2b68b08b5ffd8d80382515c9ba2c726aad417d8c640b9487be7ed7d1a2a8", func := "pinball/pinballlaw27.DebounceFollows", spec := "debounceFollows", apart := false, narrowed := true }
def DebounceFollowsUptoSaid : Prop := debounceFollowsUptoRow.holds Try.pinned (OpenSpec.upto debounceFollowsSpec)

end Rows
end Go.Proofs.Ytdddafcogefceaa
