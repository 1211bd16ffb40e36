/-
  No cell of these rows narrows 'for every input' (looked for: loops, veiled, ifaces, maps, wideKeys, modest, calm, conditions, laid).
  DERIVED. THE GIVEN ROWS OF THIS SEAT. 4 by the template 'for every input the law returns true; each argument reads behind the call as it read before'; 0 by the template 'total and deterministic' (their statements: YteemgogalahhnaaTotals.lean).
  GIVEN WITH THE SEED: the statements are not yours to turn. If you find one false, say at which input.
  Laid BY PROGRAM, IN A SANDBOX (cutbox-rows.mjs): the forced cells as the released guide's own fill.sh prints them over the translation a1590486fe1a9e47… (all of the seat's roots in one cut). By AI agents, Wed Nov 11 2026. No macro, syntax, notation, axiom, sorry.
-/
import Derived.Test.YteemgogalahhnaaChecked
import GoSem.Claim
import GoSem.ClaimJoined
import GoSem.ClaimMapViews
import Derived.JoinedTies
import Derived.KernelRfl
namespace Go.Proofs.Yteemgogalahhnaa
/- THE CELL 'sum', in the pinned program and in every row, IS THE sha256 OF THE DUMP (.gsa) THAT YteemgogalahhnaaProg.lean LOADS. Nothing in Lean hashes anything: it is a label: what it is worth is what the hold of that sum in a sandbox is worth. -/
noncomputable def Try.pinned : Pinned := { name := "yteemgogalahhnaa", sum := "a1590486fe1a9e47a299d852d2faacd34297e7803ebb3d10c2efa1582740d7f5", checked := Try.checked }
namespace Rows
def none {H : Type} : Left H := { results := [], args := [] }

/-- 'pinballlaw18.FieldDrag': WHATEVER THE INPUT: true; the input reads as it did. -/
def fieldDragSpec : ChangeSpec := { name := "fieldDrag", fn := fun _ => fun
  | [d1, d2, d3] => { results := [.lit (.bool true)], args := [d1, d2, d3] }
  | _ => none }
def fieldDragRow : OpenClaim := { program := "yteemgogalahhnaa", sum := "a1590486fe1a9e47a299d852d2faacd34297e7803ebb3d10c2efa1582740d7f5", func := "pinball/pinballlaw18.FieldDrag", spec := "fieldDrag", unfollowed := true, recurses := true, apart := false }
def FieldDragSaid : Prop := fieldDragRow.holds Try.pinned (OpenSpec.ofChange fieldDragSpec)

/-- ITS FALSE NEIGHBOUR: 'it returns false'. Refute it at one input. -/
def fieldDragWrong : ChangeSpec := { name := "fieldDrag", fn := fun _ => fun
  | [d1, d2, d3] => { results := [.lit (.bool false)], args := [d1, d2, d3] }
  | _ => none }
def FieldDragWrongFalsely : Prop := fieldDragRow.holds Try.pinned (OpenSpec.ofChange fieldDragWrong)

/-- 'pinballlaw18.FieldSlows': WHATEVER THE INPUT: true; the input reads as it did. -/
def fieldSlowsSpec : ChangeSpec := { name := "fieldSlows", fn := fun _ => fun
  | [d1, d2, d3] => { results := [.lit (.bool true)], args := [d1, d2, d3] }
  | _ => none }
def fieldSlowsRow : OpenClaim := { program := "yteemgogalahhnaa", sum := "a1590486fe1a9e47a299d852d2faacd34297e7803ebb3d10c2efa1582740d7f5", func := "pinball/pinballlaw18.FieldSlows", spec := "fieldSlows", unfollowed := true, recurses := true, apart := false }
def FieldSlowsSaid : Prop := fieldSlowsRow.holds Try.pinned (OpenSpec.ofChange fieldSlowsSpec)

/-- ITS FALSE NEIGHBOUR: 'it returns false'. Refute it at one input. -/
def fieldSlowsWrong : ChangeSpec := { name := "fieldSlows", fn := fun _ => fun
  | [d1, d2, d3] => { results := [.lit (.bool false)], args := [d1, d2, d3] }
  | _ => none }
def FieldSlowsWrongFalsely : Prop := fieldSlowsRow.holds Try.pinned (OpenSpec.ofChange fieldSlowsWrong)

/-- 'pinballlaw18.FieldHalf': WHATEVER THE INPUT: true; the input reads as it did. -/
def fieldHalfSpec : ChangeSpec := { name := "fieldHalf", fn := fun _ => fun
  | [d1, d2, d3] => { results := [.lit (.bool true)], args := [d1, d2, d3] }
  | _ => none }
def fieldHalfRow : OpenClaim := { program := "yteemgogalahhnaa", sum := "a1590486fe1a9e47a299d852d2faacd34297e7803ebb3d10c2efa1582740d7f5", func := "pinball/pinballlaw18.FieldHalf", spec := "fieldHalf", unfollowed := true, recurses := true, apart := false }
def FieldHalfSaid : Prop := fieldHalfRow.holds Try.pinned (OpenSpec.ofChange fieldHalfSpec)

/-- ITS FALSE NEIGHBOUR: 'it returns false'. Refute it at one input. -/
def fieldHalfWrong : ChangeSpec := { name := "fieldHalf", fn := fun _ => fun
  | [d1, d2, d3] => { results := [.lit (.bool false)], args := [d1, d2, d3] }
  | _ => none }
def FieldHalfWrongFalsely : Prop := fieldHalfRow.holds Try.pinned (OpenSpec.ofChange fieldHalfWrong)

/-- 'pinballlaw18.FieldShift': WHATEVER THE INPUT: true; the input reads as it did. -/
def fieldShiftSpec : ChangeSpec := { name := "fieldShift", fn := fun _ => fun
  | [d1, d2, d3] => { results := [.lit (.bool true)], args := [d1, d2, d3] }
  | _ => none }
def fieldShiftRow : OpenClaim := { program := "yteemgogalahhnaa", sum := "a1590486fe1a9e47a299d852d2faacd34297e7803ebb3d10c2efa1582740d7f5", func := "pinball/pinballlaw18.FieldShift", spec := "fieldShift", unfollowed := true, recurses := true, apart := false }
def FieldShiftSaid : Prop := fieldShiftRow.holds Try.pinned (OpenSpec.ofChange fieldShiftSpec)

/-- ITS FALSE NEIGHBOUR: 'it returns false'. Refute it at one input. -/
def fieldShiftWrong : ChangeSpec := { name := "fieldShift", fn := fun _ => fun
  | [d1, d2, d3] => { results := [.lit (.bool false)], args := [d1, d2, d3] }
  | _ => none }
def FieldShiftWrongFalsely : Prop := fieldShiftRow.holds Try.pinned (OpenSpec.ofChange fieldShiftWrong)

/- THE SECOND FORM. 'bulk': how many values and letters a reading holds, each counted each time it is reached (what is shared counts as often as it is met; a slice's spare places count too). A statement '..UptoSaid' is the law's where the arguments, and the package variables that the reading takes, are together of bulk at most 1048576: NARROWER than '..Said'. Prove '..Said' where nothing that the law and all that it calls make is longer than what came in: it says more and counts as full. Else prove '..UptoSaid'. A law counts once. -/
mutual
def uptoBulk {H : Type} : DataW H → Nat
  | .lit (.string bytes) => bytes.length + 1
  | .lit _ => 1
  | .nil => 1
  | .ptr d => uptoBulk d + 1
  | .slice elems spare => uptoBulkAll elems + uptoBulkAll spare + 1
  | .agg parts => uptoBulkAll parts + 1
  | .iface _ d => uptoBulk d + 1
  | .map entries => uptoBulkEntries entries + 1
  | .held _ => 1
def uptoBulkAll {H : Type} : List (DataW H) → Nat
  | [] => 0
  | d :: r => uptoBulk d + uptoBulkAll r
def uptoBulkEntries {H : Type} : List (Lit × DataW H) → Nat
  | [] => 0
  | x :: r => uptoBulkEntry x + uptoBulkEntries r
def uptoBulkEntry {H : Type} : Lit × DataW H → Nat
  | (.string bytes, d) => bytes.length + uptoBulk d + 1
  | (_, d) => uptoBulk d + 1
 end
def uptoSmall : (H : Type) → List (DataW H) → Bool := fun _ ds => decide (uptoBulkAll ds ≤ 1048576)
def OpenSpec.upto (s : _root_.Go.ChangeSpec) : _root_.Go.OpenSpec := { _root_.Go.OpenSpec.ofChange s with cond := some uptoSmall }

/-- 'pinballlaw18.FieldDrag', WHERE WHAT IT READS IS OF BULK AT MOST 1048576: true; the input reads as it did. -/
def fieldDragUptoRow : OpenClaim := { program := "yteemgogalahhnaa", sum := "a1590486fe1a9e47a299d852d2faacd34297e7803ebb3d10c2efa1582740d7f5", func := "pinball/pinballlaw18.FieldDrag", spec := "fieldDrag", unfollowed := true, recurses := true, apart := false, narrowed := true }
def FieldDragUptoSaid : Prop := fieldDragUptoRow.holds Try.pinned (OpenSpec.upto fieldDragSpec)

/-- 'pinballlaw18.FieldSlows', WHERE WHAT IT READS IS OF BULK AT MOST 1048576: true; the input reads as it did. -/
def fieldSlowsUptoRow : OpenClaim := { program := "yteemgogalahhnaa", sum := "a1590486fe1a9e47a299d852d2faacd34297e7803ebb3d10c2efa1582740d7f5", func := "pinball/pinballlaw18.FieldSlows", spec := "fieldSlows", unfollowed := true, recurses := true, apart := false, narrowed := true }
def FieldSlowsUptoSaid : Prop := fieldSlowsUptoRow.holds Try.pinned (OpenSpec.upto fieldSlowsSpec)

/-- 'pinballlaw18.FieldHalf', WHERE WHAT IT READS IS OF BULK AT MOST 1048576: true; the input reads as it did. -/
def fieldHalfUptoRow : OpenClaim := { program := "yteemgogalahhnaa", sum := "a1590486fe1a9e47a299d852d2faacd34297e7803ebb3d10c2efa1582740d7f5", func := "pinball/pinballlaw18.FieldHalf", spec := "fieldHalf", unfollowed := true, recurses := true, apart := false, narrowed := true }
def FieldHalfUptoSaid : Prop := fieldHalfUptoRow.holds Try.pinned (OpenSpec.upto fieldHalfSpec)

/-- 'pinballlaw18.FieldShift', WHERE WHAT IT READS IS OF BULK AT MOST 1048576: true; the input reads as it did. -/
def fieldShiftUptoRow : OpenClaim := { program := "yteemgogalahhnaa", sum := "a1590486fe1a9e47a299d852d2faacd34297e7803ebb3d10c2efa1582740d7f5", func := "pinball/pinballlaw18.FieldShift", spec := "fieldShift", unfollowed := true, recurses := true, apart := false, narrowed := true }
def FieldShiftUptoSaid : Prop := fieldShiftUptoRow.holds Try.pinned (OpenSpec.upto fieldShiftSpec)

end Rows
end Go.Proofs.Yteemgogalahhnaa
