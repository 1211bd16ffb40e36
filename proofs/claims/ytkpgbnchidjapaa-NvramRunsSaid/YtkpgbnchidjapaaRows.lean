/-
  No cell of these rows narrows 'for every input' (looked for: loops, veiled, ifaces, maps, wideKeys, modest, calm, conditions, laid).
  DERIVED. THE GIVEN ROWS OF THIS SEAT. 8 by the template 'for every input the law returns true; each argument reads behind the call as it read before'; 0 by the template 'total and deterministic' (their statements: YtkpgbnchidjapaaTotals.lean).
  GIVEN WITH THE SEED: the statements are not yours to turn. If you find one false, say at which input.
  Laid BY PROGRAM, IN A SANDBOX (cutbox-rows.mjs): the forced cells as the released guide's own fill.sh prints them over the translation f82e68e99ca1d5c2… (all of the seat's roots in one cut). By AI agents, Wed Nov 11 2026. No macro, syntax, notation, axiom, sorry.
-/
import Derived.Test.YtkpgbnchidjapaaChecked
import GoSem.Claim
import GoSem.ClaimJoined
import GoSem.ClaimMapViews
import Derived.JoinedTies
import Derived.KernelRfl
namespace Go.Proofs.Ytkpgbnchidjapaa
/- THE CELL 'sum', in the pinned program and in every row, IS THE sha256 OF THE DUMP (.gsa) THAT YtkpgbnchidjapaaProg.lean LOADS. Nothing in Lean hashes anything: it is a label: what it is worth is what the hold of that sum in a sandbox is worth. -/
noncomputable def Try.pinned : Pinned := { name := "ytkpgbnchidjapaa", sum := "f82e68e99ca1d5c2986f467b9ccaf97a6c34710f0c9e40b32e0e330cd7861a56", checked := Try.checked }
namespace Rows
def none {H : Type} : Left H := { results := [], args := [] }

/-- 'pinballlaw40.NvramOpens': WHATEVER THE INPUT: true; the input reads as it did. -/
def nvramOpensSpec : ChangeSpec := { name := "nvramOpens", fn := fun _ => fun
  | [d1, d2, d3] => { results := [.lit (.bool true)], args := [d1, d2, d3] }
  | _ => none }
def nvramOpensRow : OpenClaim := { program := "ytkpgbnchidjapaa", sum := "f82e68e99ca1d5c2986f467b9ccaf97a6c34710f0c9e40b32e0e330cd7861a56", func := "pinball/pinballlaw40.NvramOpens", spec := "nvramOpens", unfollowed := true, recurses := true, apart := false }
def NvramOpensSaid : Prop := nvramOpensRow.holds Try.pinned (OpenSpec.ofChange nvramOpensSpec)

/-- ITS FALSE NEIGHBOUR: 'it returns false'. Refute it at one input. -/
def nvramOpensWrong : ChangeSpec := { name := "nvramOpens", fn := fun _ => fun
  | [d1, d2, d3] => { results := [.lit (.bool false)], args := [d1, d2, d3] }
  | _ => none }
def NvramOpensWrongFalsely : Prop := nvramOpensRow.holds Try.pinned (OpenSpec.ofChange nvramOpensWrong)

/-- 'pinballlaw40.NvramCommits': WHATEVER THE INPUT: true; the input reads as it did. -/
def nvramCommitsSpec : ChangeSpec := { name := "nvramCommits", fn := fun _ => fun
  | [d1, d2, d3] => { results := [.lit (.bool true)], args := [d1, d2, d3] }
  | _ => none }
def nvramCommitsRow : OpenClaim := { program := "ytkpgbnchidjapaa", sum := "f82e68e99ca1d5c2986f467b9ccaf97a6c34710f0c9e40b32e0e330cd7861a56", func := "pinball/pinballlaw40.NvramCommits", spec := "nvramCommits", unfollowed := true, recurses := true, apart := false }
def NvramCommitsSaid : Prop := nvramCommitsRow.holds Try.pinned (OpenSpec.ofChange nvramCommitsSpec)

/-- ITS FALSE NEIGHBOUR: 'it returns false'. Refute it at one input. -/
def nvramCommitsWrong : ChangeSpec := { name := "nvramCommits", fn := fun _ => fun
  | [d1, d2, d3] => { results := [.lit (.bool false)], args := [d1, d2, d3] }
  | _ => none }
def NvramCommitsWrongFalsely : Prop := nvramCommitsRow.holds Try.pinned (OpenSpec.ofChange nvramCommitsWrong)

/-- 'pinballlaw40.NvramFails': WHATEVER THE INPUT: true; the input reads as it did. -/
def nvramFailsSpec : ChangeSpec := { name := "nvramFails", fn := fun _ => fun
  | [d1, d2] => { results := [.lit (.bool true)], args := [d1, d2] }
  | _ => none }
def nvramFailsRow : OpenClaim := { program := "ytkpgbnchidjapaa", sum := "f82e68e99ca1d5c2986f467b9ccaf97a6c34710f0c9e40b32e0e330cd7861a56", func := "pinball/pinballlaw40.NvramFails", spec := "nvramFails", unfollowed := true, recurses := true, apart := false }
def NvramFailsSaid : Prop := nvramFailsRow.holds Try.pinned (OpenSpec.ofChange nvramFailsSpec)

/-- ITS FALSE NEIGHBOUR: 'it returns false'. Refute it at one input. -/
def nvramFailsWrong : ChangeSpec := { name := "nvramFails", fn := fun _ => fun
  | [d1, d2] => { results := [.lit (.bool false)], args := [d1, d2] }
  | _ => none }
def NvramFailsWrongFalsely : Prop := nvramFailsRow.holds Try.pinned (OpenSpec.ofChange nvramFailsWrong)

/-- 'pinballlaw40.NvramKeeps': WHATEVER THE INPUT: true; the input reads as it did. -/
def nvramKeepsSpec : ChangeSpec := { name := "nvramKeeps", fn := fun _ => fun
  | [d] => { results := [.lit (.bool true)], args := [d] }
  | _ => none }
def nvramKeepsRow : OpenClaim := { program := "ytkpgbnchidjapaa", sum := "f82e68e99ca1d5c2986f467b9ccaf97a6c34710f0c9e40b32e0e330cd7861a56", func := "pinball/pinballlaw40.NvramKeeps", spec := "nvramKeeps", unfollowed := true, recurses := true, apart := false }
def NvramKeepsSaid : Prop := nvramKeepsRow.holds Try.pinned (OpenSpec.ofChange nvramKeepsSpec)

/-- ITS FALSE NEIGHBOUR: 'it returns false'. Refute it at one input. -/
def nvramKeepsWrong : ChangeSpec := { name := "nvramKeeps", fn := fun _ => fun
  | [d] => { results := [.lit (.bool false)], args := [d] }
  | _ => none }
def NvramKeepsWrongFalsely : Prop := nvramKeepsRow.holds Try.pinned (OpenSpec.ofChange nvramKeepsWrong)

/-- 'pinballlaw40.NvramDetects': WHATEVER THE INPUT: true; the input reads as it did. -/
def nvramDetectsSpec : ChangeSpec := { name := "nvramDetects", fn := fun _ => fun
  | [d1, d2, d3] => { results := [.lit (.bool true)], args := [d1, d2, d3] }
  | _ => none }
def nvramDetectsRow : OpenClaim := { program := "ytkpgbnchidjapaa", sum := "f82e68e99ca1d5c2986f467b9ccaf97a6c34710f0c9e40b32e0e330cd7861a56", func := "pinball/pinballlaw40.NvramDetects", spec := "nvramDetects", unfollowed := true, recurses := true, apart := false }
def NvramDetectsSaid : Prop := nvramDetectsRow.holds Try.pinned (OpenSpec.ofChange nvramDetectsSpec)

/-- ITS FALSE NEIGHBOUR: 'it returns false'. Refute it at one input. -/
def nvramDetectsWrong : ChangeSpec := { name := "nvramDetects", fn := fun _ => fun
  | [d1, d2, d3] => { results := [.lit (.bool false)], args := [d1, d2, d3] }
  | _ => none }
def NvramDetectsWrongFalsely : Prop := nvramDetectsRow.holds Try.pinned (OpenSpec.ofChange nvramDetectsWrong)

/-- 'pinballlaw40.NvramFormats': WHATEVER THE INPUT: true; the input reads as it did. -/
def nvramFormatsSpec : ChangeSpec := { name := "nvramFormats", fn := fun _ => fun
  | [d1, d2] => { results := [.lit (.bool true)], args := [d1, d2] }
  | _ => none }
def nvramFormatsRow : OpenClaim := { program := "ytkpgbnchidjapaa", sum := "f82e68e99ca1d5c2986f467b9ccaf97a6c34710f0c9e40b32e0e330cd7861a56", func := "pinball/pinballlaw40.NvramFormats", spec := "nvramFormats", unfollowed := true, recurses := true, apart := false }
def NvramFormatsSaid : Prop := nvramFormatsRow.holds Try.pinned (OpenSpec.ofChange nvramFormatsSpec)

/-- ITS FALSE NEIGHBOUR: 'it returns false'. Refute it at one input. -/
def nvramFormatsWrong : ChangeSpec := { name := "nvramFormats", fn := fun _ => fun
  | [d1, d2] => { results := [.lit (.bool false)], args := [d1, d2] }
  | _ => none }
def NvramFormatsWrongFalsely : Prop := nvramFormatsRow.holds Try.pinned (OpenSpec.ofChange nvramFormatsWrong)

/-- 'pinballlaw40.NvramSurvives': WHATEVER THE INPUT: true; the input reads as it did. -/
def nvramSurvivesSpec : ChangeSpec := { name := "nvramSurvives", fn := fun _ => fun
  | [d1, d2] => { results := [.lit (.bool true)], args := [d1, d2] }
  | _ => none }
def nvramSurvivesRow : OpenClaim := { program := "ytkpgbnchidjapaa", sum := "f82e68e99ca1d5c2986f467b9ccaf97a6c34710f0c9e40b32e0e330cd7861a56", func := "pinball/pinballlaw40.NvramSurvives", spec := "nvramSurvives", unfollowed := true, recurses := true, apart := false }
def NvramSurvivesSaid : Prop := nvramSurvivesRow.holds Try.pinned (OpenSpec.ofChange nvramSurvivesSpec)

/-- ITS FALSE NEIGHBOUR: 'it returns false'. Refute it at one input. -/
def nvramSurvivesWrong : ChangeSpec := { name := "nvramSurvives", fn := fun _ => fun
  | [d1, d2] => { results := [.lit (.bool false)], args := [d1, d2] }
  | _ => none }
def NvramSurvivesWrongFalsely : Prop := nvramSurvivesRow.holds Try.pinned (OpenSpec.ofChange nvramSurvivesWrong)

/-- 'pinballlaw40.NvramRuns': WHATEVER THE INPUT: true; the input reads as it did. -/
def nvramRunsSpec : ChangeSpec := { name := "nvramRuns", fn := fun _ => fun
  | [d1, d2, d3] => { results := [.lit (.bool true)], args := [d1, d2, d3] }
  | _ => none }
def nvramRunsRow : OpenClaim := { program := "ytkpgbnchidjapaa", sum := "f82e68e99ca1d5c2986f467b9ccaf97a6c34710f0c9e40b32e0e330cd7861a56", func := "pinball/pinballlaw40.NvramRuns", spec := "nvramRuns", unfollowed := true, recurses := true, apart := false }
def NvramRunsSaid : Prop := nvramRunsRow.holds Try.pinned (OpenSpec.ofChange nvramRunsSpec)

/-- ITS FALSE NEIGHBOUR: 'it returns false'. Refute it at one input. -/
def nvramRunsWrong : ChangeSpec := { name := "nvramRuns", fn := fun _ => fun
  | [d1, d2, d3] => { results := [.lit (.bool false)], args := [d1, d2, d3] }
  | _ => none }
def NvramRunsWrongFalsely : Prop := nvramRunsRow.holds Try.pinned (OpenSpec.ofChange nvramRunsWrong)

/- THE SECOND FORM. 'bulk': how many values and letters a reading holds, each counted each time it is reached (what is shared counts as often as it is met; a slice's spare places count too). A statement '..UptoSaid' is the law's where the arguments, and the package variables that the reading takes, are together of bulk at most 1048576: NARROWER than '..Said'. Prove '..Said' where nothing that the law and all that it calls make is longer than what came in: it says more and counts as full. Else prove '..UptoSaid'. A law counts once. -/
mutual
def uptoBulk {H : Type} : DataW H → Nat
  | .lit (.string bytes) => bytes.length + 1
  | .lit _ => 1
  | .nil => 1
  | .ptr d => uptoBulk d + 1
  | .slice elems spare => uptoBulkAll elems + uptoBulkAll spare + 1
  | .agg parts => uptoBulkAll parts + 1
  | .iface _ d => uptoBulk d + 1
  | .map entries => uptoBulkEntries entries + 1
  | .held _ => 1
def uptoBulkAll {H : Type} : List (DataW H) → Nat
  | [] => 0
  | d :: r => uptoBulk d + uptoBulkAll r
def uptoBulkEntries {H : Type} : List (Lit × DataW H) → Nat
  | [] => 0
  | x :: r => uptoBulkEntry x + uptoBulkEntries r
def uptoBulkEntry {H : Type} : Lit × DataW H → Nat
  | (.string bytes, d) => bytes.length + uptoBulk d + 1
  | (_, d) => uptoBulk d + 1
 end
def uptoSmall : (H : Type) → List (DataW H) → Bool := fun _ ds => decide (uptoBulkAll ds ≤ 1048576)
def OpenSpec.upto (s : _root_.Go.ChangeSpec) : _root_.Go.OpenSpec := { _root_.Go.OpenSpec.ofChange s with cond := some uptoSmall }

/-- 'pinballlaw40.NvramOpens', WHERE WHAT IT READS IS OF BULK AT MOST 1048576: true; the input reads as it did. -/
def nvramOpensUptoRow : OpenClaim := { program := "ytkpgbnchidjapaa", sum := "f82e68e99ca1d5c2986f467b9ccaf97a6c34710f0c9e40b32e0e330cd7861a56", func := "pinball/pinballlaw40.NvramOpens", spec := "nvramOpens", unfollowed := true, recurses := true, apart := false, narrowed := true }
def NvramOpensUptoSaid : Prop := nvramOpensUptoRow.holds Try.pinned (OpenSpec.upto nvramOpensSpec)

/-- 'pinballlaw40.NvramCommits', WHERE WHAT IT READS IS OF BULK AT MOST 1048576: true; the input reads as it did. -/
def nvramCommitsUptoRow : OpenClaim := { program := "ytkpgbnchidjapaa", sum := "f82e68e99ca1d5c2986f467b9ccaf97a6c34710f0c9e40b32e0e330cd7861a56", func := "pinball/pinballlaw40.NvramCommits", spec := "nvramCommits", unfollowed := true, recurses := true, apart := false, narrowed := true }
def NvramCommitsUptoSaid : Prop := nvramCommitsUptoRow.holds Try.pinned (OpenSpec.upto nvramCommitsSpec)

/-- 'pinballlaw40.NvramFails', WHERE WHAT IT READS IS OF BULK AT MOST 1048576: true; the input reads as it did. -/
def nvramFailsUptoRow : OpenClaim := { program := "ytkpgbnchidjapaa", sum := "f82e68e99ca1d5c2986f467b9ccaf97a6c34710f0c9e40b32e0e330cd7861a56", func := "pinball/pinballlaw40.NvramFails", spec := "nvramFails", unfollowed := true, recurses := true, apart := false, narrowed := true }
def NvramFailsUptoSaid : Prop := nvramFailsUptoRow.holds Try.pinned (OpenSpec.upto nvramFailsSpec)

/-- 'pinballlaw40.NvramKeeps', WHERE WHAT IT READS IS OF BULK AT MOST 1048576: true; the input reads as it did. -/
def nvramKeepsUptoRow : OpenClaim := { program := "ytkpgbnchidjapaa", sum := "f82e68e99ca1d5c2986f467b9ccaf97a6c34710f0c9e40b32e0e330cd7861a56", func := "pinball/pinballlaw40.NvramKeeps", spec := "nvramKeeps", unfollowed := true, recurses := true, apart := false, narrowed := true }
def NvramKeepsUptoSaid : Prop := nvramKeepsUptoRow.holds Try.pinned (OpenSpec.upto nvramKeepsSpec)

/-- 'pinballlaw40.NvramDetects', WHERE WHAT IT READS IS OF BULK AT MOST 1048576: true; the input reads as it did. -/
def nvramDetectsUptoRow : OpenClaim := { program := "ytkpgbnchidjapaa", sum := "f82e68e99ca1d5c2986f467b9ccaf97a6c34710f0c9e40b32e0e330cd7861a56", func := "pinball/pinballlaw40.NvramDetects", spec := "nvramDetects", unfollowed := true, recurses := true, apart := false, narrowed := true }
def NvramDetectsUptoSaid : Prop := nvramDetectsUptoRow.holds Try.pinned (OpenSpec.upto nvramDetectsSpec)

/-- 'pinballlaw40.NvramFormats', WHERE WHAT IT READS IS OF BULK AT MOST 1048576: true; the input reads as it did. -/
def nvramFormatsUptoRow : OpenClaim := { program := "ytkpgbnchidjapaa", sum := "f82e68e99ca1d5c2986f467b9ccaf97a6c34710f0c9e40b32e0e330cd7861a56", func := "pinball/pinballlaw40.NvramFormats", spec := "nvramFormats", unfollowed := true, recurses := true, apart := false, narrowed := true }
def NvramFormatsUptoSaid : Prop := nvramFormatsUptoRow.holds Try.pinned (OpenSpec.upto nvramFormatsSpec)

/-- 'pinballlaw40.NvramSurvives', WHERE WHAT IT READS IS OF BULK AT MOST 1048576: true; the input reads as it did. -/
def nvramSurvivesUptoRow : OpenClaim := { program := "ytkpgbnchidjapaa", sum := "f82e68e99ca1d5c2986f467b9ccaf97a6c34710f0c9e40b32e0e330cd7861a56", func := "pinball/pinballlaw40.NvramSurvives", spec := "nvramSurvives", unfollowed := true, recurses := true, apart := false, narrowed := true }
def NvramSurvivesUptoSaid : Prop := nvramSurvivesUptoRow.holds Try.pinned (OpenSpec.upto nvramSurvivesSpec)

/-- 'pinballlaw40.NvramRuns', WHERE WHAT IT READS IS OF BULK AT MOST 1048576: true; the input reads as it did. -/
def nvramRunsUptoRow : OpenClaim := { program := "ytkpgbnchidjapaa", sum := "f82e68e99ca1d5c2986f467b9ccaf97a6c34710f0c9e40b32e0e330cd7861a56", func := "pinball/pinballlaw40.NvramRuns", spec := "nvramRuns", unfollowed := true, recurses := true, apart := false, narrowed := true }
def NvramRunsUptoSaid : Prop := nvramRunsUptoRow.holds Try.pinned (OpenSpec.upto nvramRunsSpec)

end Rows
end Go.Proofs.Ytkpgbnchidjapaa
