/-
  No cell of these rows narrows 'for every input' (looked for: loops, veiled, ifaces, maps, wideKeys, modest, calm, conditions, laid).
  DERIVED. THE GIVEN ROWS OF THIS SEAT. 11 by the template 'for every input the law returns true; each argument reads behind the call as it read before'; 0 by the template 'total and deterministic' (their statements: YtjmjndfdociiiaaTotals.lean).
  GIVEN WITH THE SEED: the statements are not yours to turn. If you find one false, say at which input.
  Laid BY PROGRAM, IN A SANDBOX (cutbox-rows.mjs): the forced cells as the released guide's own fill.sh prints them over the translation 2e16daff4be824c3… (all of the seat's roots in one cut). By AI agents, Wed Nov 11 2026. No macro, syntax, notation, axiom, sorry.
-/
import Derived.Test.YtjmjndfdociiiaaChecked
import GoSem.Claim
import GoSem.ClaimJoined
import GoSem.ClaimMapViews
import Derived.JoinedTies
import Derived.KernelRfl
namespace Go.Proofs.Ytjmjndfdociiiaa
/- THE CELL 'sum', in the pinned program and in every row, IS THE sha256 OF THE DUMP (.gsa) THAT YtjmjndfdociiiaaProg.lean LOADS. Nothing in Lean hashes anything: it is a label: what it is worth is what the hold of that sum in a sandbox is worth. -/
noncomputable def Try.pinned : Pinned := { name := "ytjmjndfdociiiaa", sum := "2e16daff4be824c390f43ef874690c6b0ade8836ff78878914667f1f63bbfdd0", checked := Try.checked }
namespace Rows
def none {H : Type} : Left H := { results := [], args := [] }

/-- 'pinballlaw38.DotsKeeps': WHATEVER THE INPUT: true; the input reads as it did. -/
def dotsKeepsSpec : ChangeSpec := { name := "dotsKeeps", fn := fun _ => fun
  | [d1, d2, d3] => { results := [.lit (.bool true)], args := [d1, d2, d3] }
  | _ => none }
def dotsKeepsRow : OpenClaim := { program := "ytjmjndfdociiiaa", sum := "2e16daff4be824c390f43ef874690c6b0ade8836ff78878914667f1f63bbfdd0", func := "pinball/pinballlaw38.DotsKeeps", spec := "dotsKeeps", apart := false }
def DotsKeepsSaid : Prop := dotsKeepsRow.holds Try.pinned (OpenSpec.ofChange dotsKeepsSpec)

/-- ITS FALSE NEIGHBOUR: 'it returns false'. Refute it at one input. -/
def dotsKeepsWrong : ChangeSpec := { name := "dotsKeeps", fn := fun _ => fun
  | [d1, d2, d3] => { results := [.lit (.bool false)], args := [d1, d2, d3] }
  | _ => none }
def DotsKeepsWrongFalsely : Prop := dotsKeepsRow.holds Try.pinned (OpenSpec.ofChange dotsKeepsWrong)

/-- 'pinballlaw38.DotsTexts': WHATEVER THE INPUT: true; the input reads as it did. -/
def dotsTextsSpec : ChangeSpec := { name := "dotsTexts", fn := fun _ => fun
  | [d1, d2, d3] => { results := [.lit (.bool true)], args := [d1, d2, d3] }
  | _ => none }
def dotsTextsRow : OpenClaim := { program := "ytjmjndfdociiiaa", sum := "2e16daff4be824c390f43ef874690c6b0ade8836ff78878914667f1f63bbfdd0", func := "pinball/pinballlaw38.DotsTexts", spec := "dotsTexts", apart := false }
def DotsTextsSaid : Prop := dotsTextsRow.holds Try.pinned (OpenSpec.ofChange dotsTextsSpec)

/-- ITS FALSE NEIGHBOUR: 'it returns false'. Refute it at one input. -/
def dotsTextsWrong : ChangeSpec := { name := "dotsTexts", fn := fun _ => fun
  | [d1, d2, d3] => { results := [.lit (.bool false)], args := [d1, d2, d3] }
  | _ => none }
def DotsTextsWrongFalsely : Prop := dotsTextsRow.holds Try.pinned (OpenSpec.ofChange dotsTextsWrong)

/-- 'pinballlaw38.DotsBlends': WHATEVER THE INPUT: true; the input reads as it did. -/
def dotsBlendsSpec : ChangeSpec := { name := "dotsBlends", fn := fun _ => fun
  | [d1, d2, d3] => { results := [.lit (.bool true)], args := [d1, d2, d3] }
  | _ => none }
def dotsBlendsRow : OpenClaim := { program := "ytjmjndfdociiiaa", sum := "2e16daff4be824c390f43ef874690c6b0ade8836ff78878914667f1f63bbfdd0", func := "pinball/pinballlaw38.DotsBlends", spec := "dotsBlends", apart := false }
def DotsBlendsSaid : Prop := dotsBlendsRow.holds Try.pinned (OpenSpec.ofChange dotsBlendsSpec)

/-- ITS FALSE NEIGHBOUR: 'it returns false'. Refute it at one input. -/
def dotsBlendsWrong : ChangeSpec := { name := "dotsBlends", fn := fun _ => fun
  | [d1, d2, d3] => { results := [.lit (.bool false)], args := [d1, d2, d3] }
  | _ => none }
def DotsBlendsWrongFalsely : Prop := dotsBlendsRow.holds Try.pinned (OpenSpec.ofChange dotsBlendsWrong)

/-- 'pinballlaw38.DotsTransitions': WHATEVER THE INPUT: true; the input reads as it did. -/
def dotsTransitionsSpec : ChangeSpec := { name := "dotsTransitions", fn := fun _ => fun
  | [d1, d2] => { results := [.lit (.bool true)], args := [d1, d2] }
  | _ => none }
def dotsTransitionsRow : OpenClaim := { program := "ytjmjndfdociiiaa", sum := "2e16daff4be824c390f43ef874690c6b0ade8836ff78878914667f1f63bbfdd0", func := "pinball/pinballlaw38.DotsTransitions", spec := "dotsTransitions", apart := false }
def DotsTransitionsSaid : Prop := dotsTransitionsRow.holds Try.pinned (OpenSpec.ofChange dotsTransitionsSpec)

/-- ITS FALSE NEIGHBOUR: 'it returns false'. Refute it at one input. -/
def dotsTransitionsWrong : ChangeSpec := { name := "dotsTransitions", fn := fun _ => fun
  | [d1, d2] => { results := [.lit (.bool false)], args := [d1, d2] }
  | _ => none }
def DotsTransitionsWrongFalsely : Prop := dotsTransitionsRow.holds Try.pinned (OpenSpec.ofChange dotsTransitionsWrong)

/-- 'pinballlaw38.DotsShares': WHATEVER THE INPUT: true; the input reads as it did. -/
def dotsSharesSpec : ChangeSpec := { name := "dotsShares", fn := fun _ => fun
  | [d1, d2, d3] => { results := [.lit (.bool true)], args := [d1, d2, d3] }
  | _ => none }
def dotsSharesRow : OpenClaim := { program := "ytjmjndfdociiiaa", sum := "2e16daff4be824c390f43ef874690c6b0ade8836ff78878914667f1f63bbfdd0", func := "pinball/pinballlaw38.DotsShares", spec := "dotsShares", apart := false }
def DotsSharesSaid : Prop := dotsSharesRow.holds Try.pinned (OpenSpec.ofChange dotsSharesSpec)

/-- ITS FALSE NEIGHBOUR: 'it returns false'. Refute it at one input. -/
def dotsSharesWrong : ChangeSpec := { name := "dotsShares", fn := fun _ => fun
  | [d1, d2, d3] => { results := [.lit (.bool false)], args := [d1, d2, d3] }
  | _ => none }
def DotsSharesWrongFalsely : Prop := dotsSharesRow.holds Try.pinned (OpenSpec.ofChange dotsSharesWrong)

/-- 'pinballlaw38.DotsRows': WHATEVER THE INPUT: true; the input reads as it did. -/
def dotsRowsSpec : ChangeSpec := { name := "dotsRows", fn := fun _ => fun
  | [d] => { results := [.lit (.bool true)], args := [d] }
  | _ => none }
def dotsRowsRow : OpenClaim := { program := "ytjmjndfdociiiaa", sum := "2e16daff4be824c390f43ef874690c6b0ade8836ff78878914667f1f63bbfdd0", func := "pinball/pinballlaw38.DotsRows", spec := "dotsRows", apart := false }
def DotsRowsSaid : Prop := dotsRowsRow.holds Try.pinned (OpenSpec.ofChange dotsRowsSpec)

/-- ITS FALSE NEIGHBOUR: 'it returns false'. Refute it at one input. -/
def dotsRowsWrong : ChangeSpec := { name := "dotsRows", fn := fun _ => fun
  | [d] => { results := [.lit (.bool false)], args := [d] }
  | _ => none }
def DotsRowsWrongFalsely : Prop := dotsRowsRow.holds Try.pinned (OpenSpec.ofChange dotsRowsWrong)

/-- 'pinballlaw38.DotsSets': WHATEVER THE INPUT: true; the input reads as it did. -/
def dotsSetsSpec : ChangeSpec := { name := "dotsSets", fn := fun _ => fun
  | [d1, d2] => { results := [.lit (.bool true)], args := [d1, d2] }
  | _ => none }
def dotsSetsRow : OpenClaim := { program := "ytjmjndfdociiiaa", sum := "2e16daff4be824c390f43ef874690c6b0ade8836ff78878914667f1f63bbfdd0", func := "pinball/pinballlaw38.DotsSets", spec := "dotsSets", apart := false }
def DotsSetsSaid : Prop := dotsSetsRow.holds Try.pinned (OpenSpec.ofChange dotsSetsSpec)

/-- ITS FALSE NEIGHBOUR: 'it returns false'. Refute it at one input. -/
def dotsSetsWrong : ChangeSpec := { name := "dotsSets", fn := fun _ => fun
  | [d1, d2] => { results := [.lit (.bool false)], args := [d1, d2] }
  | _ => none }
def DotsSetsWrongFalsely : Prop := dotsSetsRow.holds Try.pinned (OpenSpec.ofChange dotsSetsWrong)

/-- 'pinballlaw38.DotsOver': WHATEVER THE INPUT: true; the input reads as it did. -/
def dotsOverSpec : ChangeSpec := { name := "dotsOver", fn := fun _ => fun
  | [d1, d2, d3] => { results := [.lit (.bool true)], args := [d1, d2, d3] }
  | _ => none }
def dotsOverRow : OpenClaim := { program := "ytjmjndfdociiiaa", sum := "2e16daff4be824c390f43ef874690c6b0ade8836ff78878914667f1f63bbfdd0", func := "pinball/pinballlaw38.DotsOver", spec := "dotsOver", apart := false }
def DotsOverSaid : Prop := dotsOverRow.holds Try.pinned (OpenSpec.ofChange dotsOverSpec)

/-- ITS FALSE NEIGHBOUR: 'it returns false'. Refute it at one input. -/
def dotsOverWrong : ChangeSpec := { name := "dotsOver", fn := fun _ => fun
  | [d1, d2, d3] => { results := [.lit (.bool false)], args := [d1, d2, d3] }
  | _ => none }
def DotsOverWrongFalsely : Prop := dotsOverRow.holds Try.pinned (OpenSpec.ofChange dotsOverWrong)

/-- 'pinballlaw38.DotsWrites': WHATEVER THE INPUT: true; the input reads as it did. -/
def dotsWritesSpec : ChangeSpec := { name := "dotsWrites", fn := fun _ => fun
  | [d1, d2, d3] => { results := [.lit (.bool true)], args := [d1, d2, d3] }
  | _ => none }
def dotsWritesRow : OpenClaim := { program := "ytjmjndfdociiiaa", sum := "2e16daff4be824c390f43ef874690c6b0ade8836ff78878914667f1f63bbfdd0", func := "pinball/pinballlaw38.DotsWrites", spec := "dotsWrites", apart := false }
def DotsWritesSaid : Prop := dotsWritesRow.holds Try.pinned (OpenSpec.ofChange dotsWritesSpec)

/-- ITS FALSE NEIGHBOUR: 'it returns false'. Refute it at one input. -/
def dotsWritesWrong : ChangeSpec := { name := "dotsWrites", fn := fun _ => fun
  | [d1, d2, d3] => { results := [.lit (.bool false)], args := [d1, d2, d3] }
  | _ => none }
def DotsWritesWrongFalsely : Prop := dotsWritesRow.holds Try.pinned (OpenSpec.ofChange dotsWritesWrong)

/-- 'pinballlaw38.DotsBack': WHATEVER THE INPUT: true; the input reads as it did. -/
def dotsBackSpec : ChangeSpec := { name := "dotsBack", fn := fun _ => fun
  | [d1, d2] => { results := [.lit (.bool true)], args := [d1, d2] }
  | _ => none }
def dotsBackRow : OpenClaim := { program := "ytjmjndfdociiiaa", sum := "2e16daff4be824c390f43ef874690c6b0ade8836ff78878914667f1f63bbfdd0", func := "pinball/pinballlaw38.DotsBack", spec := "dotsBack", apart := false }
def DotsBackSaid : Prop := dotsBackRow.holds Try.pinned (OpenSpec.ofChange dotsBackSpec)

/-- ITS FALSE NEIGHBOUR: 'it returns false'. Refute it at one input. -/
def dotsBackWrong : ChangeSpec := { name := "dotsBack", fn := fun _ => fun
  | [d1, d2] => { results := [.lit (.bool false)], args := [d1, d2] }
  | _ => none }
def DotsBackWrongFalsely : Prop := dotsBackRow.holds Try.pinned (OpenSpec.ofChange dotsBackWrong)

/-- 'pinballlaw38.DotsShifts': WHATEVER THE INPUT: true; the input reads as it did. -/
def dotsShiftsSpec : ChangeSpec := { name := "dotsShifts", fn := fun _ => fun
  | [d1, d2, d3] => { results := [.lit (.bool true)], args := [d1, d2, d3] }
  | _ => none }
def dotsShiftsRow : OpenClaim := { program := "ytjmjndfdociiiaa", sum := "2e16daff4be824c390f43ef874690c6b0ade8836ff78878914667f1f63bbfdd0", func := "pinball/pinballlaw38.DotsShifts", spec := "dotsShifts", apart := false }
def DotsShiftsSaid : Prop := dotsShiftsRow.holds Try.pinned (OpenSpec.ofChange dotsShiftsSpec)

/-- ITS FALSE NEIGHBOUR: 'it returns false'. Refute it at one input. -/
def dotsShiftsWrong : ChangeSpec := { name := "dotsShifts", fn := fun _ => fun
  | [d1, d2, d3] => { results := [.lit (.bool false)], args := [d1, d2, d3] }
  | _ => none }
def DotsShiftsWrongFalsely : Prop := dotsShiftsRow.holds Try.pinned (OpenSpec.ofChange dotsShiftsWrong)

/- THE SECOND FORM. 'bulk': how many values and letters a reading holds, each counted each time it is reached (what is shared counts as often as it is met; a slice's spare places count too). A statement '..UptoSaid' is the law's where the arguments, and the package variables that the reading takes, are together of bulk at most 1048576: NARROWER than '..Said'. Prove '..Said' where nothing that the law and all that it calls make is longer than what came in: it says more and counts as full. Else prove '..UptoSaid'. A law counts once. -/
mutual
def uptoBulk {H : Type} : DataW H → Nat
  | .lit (.string bytes) => bytes.length + 1
  | .lit _ => 1
  | .nil => 1
  | .ptr d => uptoBulk d + 1
  | .slice elems spare => uptoBulkAll elems + uptoBulkAll spare + 1
  | .agg parts => uptoBulkAll parts + 1
  | .iface _ d => uptoBulk d + 1
  | .map entries => uptoBulkEntries entries + 1
  | .held _ => 1
def uptoBulkAll {H : Type} : List (DataW H) → Nat
  | [] => 0
  | d :: r => uptoBulk d + uptoBulkAll r
def uptoBulkEntries {H : Type} : List (Lit × DataW H) → Nat
  | [] => 0
  | x :: r => uptoBulkEntry x + uptoBulkEntries r
def uptoBulkEntry {H : Type} : Lit × DataW H → Nat
  | (.string bytes, d) => bytes.length + uptoBulk d + 1
  | (_, d) => uptoBulk d + 1
 end
def uptoSmall : (H : Type) → List (DataW H) → Bool := fun _ ds => decide (uptoBulkAll ds ≤ 1048576)
def OpenSpec.upto (s : _root_.Go.ChangeSpec) : _root_.Go.OpenSpec := { _root_.Go.OpenSpec.ofChange s with cond := some uptoSmall }

/-- 'pinballlaw38.DotsKeeps', WHERE WHAT IT READS IS OF BULK AT MOST 1048576: true; the input reads as it did. -/
def dotsKeepsUptoRow : OpenClaim := { program := "ytjmjndfdociiiaa", sum := "2e16daff4be824c390f43ef874690c6b0ade8836ff78878914667f1f63bbfdd0", func := "pinball/pinballlaw38.DotsKeeps", spec := "dotsKeeps", apart := false, narrowed := true }
def DotsKeepsUptoSaid : Prop := dotsKeepsUptoRow.holds Try.pinned (OpenSpec.upto dotsKeepsSpec)

/-- 'pinballlaw38.DotsTexts', WHERE WHAT IT READS IS OF BULK AT MOST 1048576: true; the input reads as it did. -/
def dotsTextsUptoRow : OpenClaim := { program := "ytjmjndfdociiiaa", sum := "2e16daff4be824c390f43ef874690c6b0ade8836ff78878914667f1f63bbfdd0", func := "pinball/pinballlaw38.DotsTexts", spec := "dotsTexts", apart := false, narrowed := true }
def DotsTextsUptoSaid : Prop := dotsTextsUptoRow.holds Try.pinned (OpenSpec.upto dotsTextsSpec)

/-- 'pinballlaw38.DotsBlends', WHERE WHAT IT READS IS OF BULK AT MOST 1048576: true; the input reads as it did. -/
def dotsBlendsUptoRow : OpenClaim := { program := "ytjmjndfdociiiaa", sum := "2e16daff4be824c390f43ef874690c6b0ade8836ff78878914667f1f63bbfdd0", func := "pinball/pinballlaw38.DotsBlends", spec := "dotsBlends", apart := false, narrowed := true }
def DotsBlendsUptoSaid : Prop := dotsBlendsUptoRow.holds Try.pinned (OpenSpec.upto dotsBlendsSpec)

/-- 'pinballlaw38.DotsTransitions', WHERE WHAT IT READS IS OF BULK AT MOST 1048576: true; the input reads as it did. -/
def dotsTransitionsUptoRow : OpenClaim := { program := "ytjmjndfdociiiaa", sum := "2e16daff4be824c390f43ef874690c6b0ade8836ff78878914667f1f63bbfdd0", func := "pinball/pinballlaw38.DotsTransitions", spec := "dotsTransitions", apart := false, narrowed := true }
def DotsTransitionsUptoSaid : Prop := dotsTransitionsUptoRow.holds Try.pinned (OpenSpec.upto dotsTransitionsSpec)

/-- 'pinballlaw38.DotsShares', WHERE WHAT IT READS IS OF BULK AT MOST 1048576: true; the input reads as it did. -/
def dotsSharesUptoRow : OpenClaim := { program := "ytjmjndfdociiiaa", sum := "2e16daff4be824c390f43ef874690c6b0ade8836ff78878914667f1f63bbfdd0", func := "pinball/pinballlaw38.DotsShares", spec := "dotsShares", apart := false, narrowed := true }
def DotsSharesUptoSaid : Prop := dotsSharesUptoRow.holds Try.pinned (OpenSpec.upto dotsSharesSpec)

/-- 'pinballlaw38.DotsRows', WHERE WHAT IT READS IS OF BULK AT MOST 1048576: true; the input reads as it did. -/
def dotsRowsUptoRow : OpenClaim := { program := "ytjmjndfdociiiaa", sum := "2e16daff4be824c390f43ef874690c6b0ade8836ff78878914667f1f63bbfdd0", func := "pinball/pinballlaw38.DotsRows", spec := "dotsRows", apart := false, narrowed := true }
def DotsRowsUptoSaid : Prop := dotsRowsUptoRow.holds Try.pinned (OpenSpec.upto dotsRowsSpec)

/-- 'pinballlaw38.DotsSets', WHERE WHAT IT READS IS OF BULK AT MOST 1048576: true; the input reads as it did. -/
def dotsSetsUptoRow : OpenClaim := { program := "ytjmjndfdociiiaa", sum := "2e16daff4be824c390f43ef874690c6b0ade8836ff78878914667f1f63bbfdd0", func := "pinball/pinballlaw38.DotsSets", spec := "dotsSets", apart := false, narrowed := true }
def DotsSetsUptoSaid : Prop := dotsSetsUptoRow.holds Try.pinned (OpenSpec.upto dotsSetsSpec)

/-- 'pinballlaw38.DotsOver', WHERE WHAT IT READS IS OF BULK AT MOST 1048576: true; the input reads as it did. -/
def dotsOverUptoRow : OpenClaim := { program := "ytjmjndfdociiiaa", sum := "2e16daff4be824c390f43ef874690c6b0ade8836ff78878914667f1f63bbfdd0", func := "pinball/pinballlaw38.DotsOver", spec := "dotsOver", apart := false, narrowed := true }
def DotsOverUptoSaid : Prop := dotsOverUptoRow.holds Try.pinned (OpenSpec.upto dotsOverSpec)

/-- 'pinballlaw38.DotsWrites', WHERE WHAT IT READS IS OF BULK AT MOST 1048576: true; the input reads as it did. -/
def dotsWritesUptoRow : OpenClaim := { program := "ytjmjndfdociiiaa", sum := "2e16daff4be824c390f43ef874690c6b0ade8836ff78878914667f1f63bbfdd0", func := "pinball/pinballlaw38.DotsWrites", spec := "dotsWrites", apart := false, narrowed := true }
def DotsWritesUptoSaid : Prop := dotsWritesUptoRow.holds Try.pinned (OpenSpec.upto dotsWritesSpec)

/-- 'pinballlaw38.DotsBack', WHERE WHAT IT READS IS OF BULK AT MOST 1048576: true; the input reads as it did. -/
def dotsBackUptoRow : OpenClaim := { program := "ytjmjndfdociiiaa", sum := "2e16daff4be824c390f43ef874690c6b0ade8836ff78878914667f1f63bbfdd0", func := "pinball/pinballlaw38.DotsBack", spec := "dotsBack", apart := false, narrowed := true }
def DotsBackUptoSaid : Prop := dotsBackUptoRow.holds Try.pinned (OpenSpec.upto dotsBackSpec)

/-- 'pinballlaw38.DotsShifts', WHERE WHAT IT READS IS OF BULK AT MOST 1048576: true; the input reads as it did. -/
def dotsShiftsUptoRow : OpenClaim := { program := "ytjmjndfdociiiaa", sum := "2e16daff4be824c390f43ef874690c6b0ade8836ff78878914667f1f63bbfdd0", func := "pinball/pinballlaw38.DotsShifts", spec := "dotsShifts", apart := false, narrowed := true }
def DotsShiftsUptoSaid : Prop := dotsShiftsUptoRow.holds Try.pinned (OpenSpec.upto dotsShiftsSpec)

end Rows
end Go.Proofs.Ytjmjndfdociiiaa
