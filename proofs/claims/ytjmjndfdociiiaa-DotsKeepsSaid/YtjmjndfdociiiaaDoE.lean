import Derived.Test.YtjmjndfdociiiaaDoD
import Derived.Test.YtjmjndfdociiiaaDoP
namespace Go.Proofs.Do
set_option linter.unusedVariables false
set_option linter.unusedSimpArgs false
open Go Go.Sx Go.Proofs
set_option maxRecDepth 100000
-- SAME: sm
-- ABBR: (∀ (i : Nat), i < (16 : Nat) → true = true) ==> t16
-- ABBR: IntKind.i64.wrap ==> W
-- ROWS: rowL (codI IntKind.u64) (16 : Nat) fun j => [SV.int IntKind.u64 ( ==> .getD j (0 : Int) ==> rr
def sU := Sig.one (argI .u64)
def popS (x : Int) : Int := cN (bit x) 64
/-- The dots of a level: in a row's beginning, and in the rows below y. -/
def cR (f : Fr) (k : Int) (y x : Nat) : Int := cN (fun j => decide (lv f y j = k)) x
def cA (f : Fr) (k : Int) : Nat → Int
  | 0 => 0
  | y + 1 => cA f k y + cR f k y 64
def cntS (f : Fr) : List Int := [cA f 0 16, cA f 1 16, cA f 2 16, cA f 3 16]
def encC (l : List Int) : SV := .agg [.a 4 1 fun j => [.int .i64 (l.getD j 0)]]
def CntI (f : Fr) (y x : Int) (l : List Int) : Prop := 0 ≤ y ∧ y ≤ 16 ∧ 0 ≤ x ∧ x ≤ 64 ∧ (x = 0 ∨ y < 16) ∧ l = [cA f 0 y.toNat + cR f 0 y.toNat x.toNat, cA f 1 y.toNat + cR f 1 y.toNat x.toNat, cA f 2 y.toNat + cR f 2 y.toNat x.toNat, cA f 3 y.toNat + cR f 3 y.toNat x.toNat]
attribute [irreducible] popS cR cA cntS CntI
def T44 : List (Nat × Ctr) := (44, ctr sU.dec (fun a => isU a) (fun a => iS (popS a))) :: T36
def vc44 (x : Int) : Prop := cva T36 Try.f44 [] [.int .u64 x] (iS (popS x))
def cCnt : Ctr := ctr sF.dec (fun a => okF a) (fun a => encC (cntS a))
def T24 : List (Nat × Ctr) := (24, cCnt) :: T44
abbrev X2 := Int × List Int
def A24 (f : Fr) : List Ann := [⟨.unit, .list [.int .i64 (.tm 7), .arrL (codI .i64) 4 2 0], fun _ (x : X2) => CntI f x.1 0 x.2, fun _ (x : X2) => (16 - x.1).toNat⟩]
def vc24 (f : Fr) : Prop := cva T44 Try.f24 (A24 f) [encF f] (encC (cntS f))
def T32 : List (Nat × Ctr) := (32, cCnt) :: T24
def A32 (f : Fr) : List Ann := [⟨.unit, .list [.int .i64 (.tm 4), .arrL (codI .i64) 4 2 0], fun _ (x : X2) => CntI f x.1 0 x.2, fun _ (x : X2) => (16 - x.1).toNat⟩,
  ⟨.int .i64 (.tm 4), .list [.int .i64 (.tm 5), .arrL (codI .i64) 4 2 0], fun (y : Int) (x : X2) => CntI f y x.1 x.2, fun _ (x : X2) => (64 - x.1).toNat⟩]
def vc32 (f : Fr) : Prop := cva T24 Try.f32 (A32 f) [encF f] (encC (cntS f))
theorem vc44_eq (x : Int) : (True ∧ (0 : Int) ≤ (1 : Int) ∧ True ∧ (0 : Int) ≤ (2 : Int) ∧ True ∧ (0 : Int) ≤ (4 : Int) ∧ True ∧ (0 : Int) ≤ (8 : Int) ∧ True ∧ (0 : Int) ≤ (16 : Int) ∧ True
    ∧ (0 : Int) ≤ (32 : Int) ∧ True ∧ True ∧ True ∧ bits BinOp.and IntKind.i64 (W (IntKind.u64.wrap (IntKind.u64.wrap (IntKind.u64.wrap (bits BinOp.and IntKind.u64 (IntKind.u64.wrap
    (IntKind.u64.wrap (bits BinOp.and IntKind.u64 (IntKind.u64.wrap (bits BinOp.and IntKind.u64 (x / (2 : Int) ^ min (1 : Nat) (64 : Nat)) (6148914691236517205 : Int)
    + bits BinOp.and IntKind.u64 x (6148914691236517205 : Int)) / (2 : Int) ^ min (2 : Nat) (64 : Nat)) (3689348814741910323 : Int) + bits BinOp.and IntKind.u64 (IntKind.u64.wrap
    (bits BinOp.and IntKind.u64 (x / (2 : Int) ^ min (1 : Nat) (64 : Nat)) (6148914691236517205 : Int) + bits BinOp.and IntKind.u64 x (6148914691236517205 : Int))) (3689348814741910323
    : Int)) / (2 : Int) ^ min (4 : Nat) (64 : Nat) + IntKind.u64.wrap (bits BinOp.and IntKind.u64 (IntKind.u64.wrap (bits BinOp.and IntKind.u64 (x / (2 : Int) ^ min
    (1 : Nat) (64 : Nat)) (6148914691236517205 : Int) + bits BinOp.and IntKind.u64 x (6148914691236517205 : Int)) / (2 : Int) ^ min (2 : Nat) (64 : Nat)) (3689348814741910323
    : Int) + bits BinOp.and IntKind.u64 (IntKind.u64.wrap (bits BinOp.and IntKind.u64 (x / (2 : Int) ^ min (1 : Nat) (64 : Nat)) (6148914691236517205 : Int) + bits BinOp.and
    IntKind.u64 x (6148914691236517205 : Int))) (3689348814741910323 : Int)))) (1085102592571150095 : Int) + bits BinOp.and IntKind.u64 (IntKind.u64.wrap (IntKind.u64.wrap
    (bits BinOp.and IntKind.u64 (IntKind.u64.wrap (bits BinOp.and IntKind.u64 (x / (2 : Int) ^ min (1 : Nat) (64 : Nat)) (6148914691236517205 : Int) + bits BinOp.and
    IntKind.u64 x (6148914691236517205 : Int)) / (2 : Int) ^ min (2 : Nat) (64 : Nat)) (3689348814741910323 : Int) + bits BinOp.and IntKind.u64 (IntKind.u64.wrap (bits
    BinOp.and IntKind.u64 (x / (2 : Int) ^ min (1 : Nat) (64 : Nat)) (6148914691236517205 : Int) + bits BinOp.and IntKind.u64 x (6148914691236517205 : Int))) (3689348814741910323
    : Int)) / (2 : Int) ^ min (4 : Nat) (64 : Nat) + IntKind.u64.wrap (bits BinOp.and IntKind.u64 (IntKind.u64.wrap (bits BinOp.and IntKind.u64 (x / (2 : Int) ^ min
    (1 : Nat) (64 : Nat)) (6148914691236517205 : Int) + bits BinOp.and IntKind.u64 x (6148914691236517205 : Int)) / (2 : Int) ^ min (2 : Nat) (64 : Nat)) (3689348814741910323
    : Int) + bits BinOp.and IntKind.u64 (IntKind.u64.wrap (bits BinOp.and IntKind.u64 (x / (2 : Int) ^ min (1 : Nat) (64 : Nat)) (6148914691236517205 : Int) + bits BinOp.and
    IntKind.u64 x (6148914691236517205 : Int))) (3689348814741910323 : Int)))) (1085102592571150095 : Int) / (2 : Int) ^ min (8 : Nat) (64 : Nat)) + IntKind.u64.wrap
    (bits BinOp.and IntKind.u64 (IntKind.u64.wrap (IntKind.u64.wrap (bits BinOp.and IntKind.u64 (IntKind.u64.wrap (bits BinOp.and IntKind.u64 (x / (2 : Int) ^ min (1
    : Nat) (64 : Nat)) (6148914691236517205 : Int) + bits BinOp.and IntKind.u64 x (6148914691236517205 : Int)) / (2 : Int) ^ min (2 : Nat) (64 : Nat)) (3689348814741910323
    : Int) + bits BinOp.and IntKind.u64 (IntKind.u64.wrap (bits BinOp.and IntKind.u64 (x / (2 : Int) ^ min (1 : Nat) (64 : Nat)) (6148914691236517205 : Int) + bits BinOp.and
    IntKind.u64 x (6148914691236517205 : Int))) (3689348814741910323 : Int)) / (2 : Int) ^ min (4 : Nat) (64 : Nat) + IntKind.u64.wrap (bits BinOp.and IntKind.u64 (IntKind.u64.wrap
    (bits BinOp.and IntKind.u64 (x / (2 : Int) ^ min (1 : Nat) (64 : Nat)) (6148914691236517205 : Int) + bits BinOp.and IntKind.u64 x (6148914691236517205 : Int)) /
    (2 : Int) ^ min (2 : Nat) (64 : Nat)) (3689348814741910323 : Int) + bits BinOp.and IntKind.u64 (IntKind.u64.wrap (bits BinOp.and IntKind.u64 (x / (2 : Int) ^ min
    (1 : Nat) (64 : Nat)) (6148914691236517205 : Int) + bits BinOp.and IntKind.u64 x (6148914691236517205 : Int))) (3689348814741910323 : Int)))) (1085102592571150095
    : Int) + bits BinOp.and IntKind.u64 (IntKind.u64.wrap (IntKind.u64.wrap (bits BinOp.and IntKind.u64 (IntKind.u64.wrap (bits BinOp.and IntKind.u64 (x / (2 : Int)
    ^ min (1 : Nat) (64 : Nat)) (6148914691236517205 : Int) + bits BinOp.and IntKind.u64 x (6148914691236517205 : Int)) / (2 : Int) ^ min (2 : Nat) (64 : Nat)) (3689348814741910323
    : Int) + bits BinOp.and IntKind.u64 (IntKind.u64.wrap (bits BinOp.and IntKind.u64 (x / (2 : Int) ^ min (1 : Nat) (64 : Nat)) (6148914691236517205 : Int) + bits BinOp.and
    IntKind.u64 x (6148914691236517205 : Int))) (3689348814741910323 : Int)) / (2 : Int) ^ min (4 : Nat) (64 : Nat) + IntKind.u64.wrap (bits BinOp.and IntKind.u64 (IntKind.u64.wrap
    (bits BinOp.and IntKind.u64 (x / (2 : Int) ^ min (1 : Nat) (64 : Nat)) (6148914691236517205 : Int) + bits BinOp.and IntKind.u64 x (6148914691236517205 : Int)) /
    (2 : Int) ^ min (2 : Nat) (64 : Nat)) (3689348814741910323 : Int) + bits BinOp.and IntKind.u64 (IntKind.u64.wrap (bits BinOp.and IntKind.u64 (x / (2 : Int) ^ min
    (1 : Nat) (64 : Nat)) (6148914691236517205 : Int) + bits BinOp.and IntKind.u64 x (6148914691236517205 : Int))) (3689348814741910323 : Int)))) (1085102592571150095
    : Int) / (2 : Int) ^ min (8 : Nat) (64 : Nat)) / (2 : Int) ^ min (16 : Nat) (64 : Nat)) + IntKind.u64.wrap (IntKind.u64.wrap (bits BinOp.and IntKind.u64 (IntKind.u64.wrap
    (IntKind.u64.wrap (bits BinOp.and IntKind.u64 (IntKind.u64.wrap (bits BinOp.and IntKind.u64 (x / (2 : Int) ^ min (1 : Nat) (64 : Nat)) (6148914691236517205 : Int)
    + bits BinOp.and IntKind.u64 x (6148914691236517205 : Int)) / (2 : Int) ^ min (2 : Nat) (64 : Nat)) (3689348814741910323 : Int) + bits BinOp.and IntKind.u64 (IntKind.u64.wrap
    (bits BinOp.and IntKind.u64 (x / (2 : Int) ^ min (1 : Nat) (64 : Nat)) (6148914691236517205 : Int) + bits BinOp.and IntKind.u64 x (6148914691236517205 : Int))) (3689348814741910323
    : Int)) / (2 : Int) ^ min (4 : Nat) (64 : Nat) + IntKind.u64.wrap (bits BinOp.and IntKind.u64 (IntKind.u64.wrap (bits BinOp.and IntKind.u64 (x / (2 : Int) ^ min
    (1 : Nat) (64 : Nat)) (6148914691236517205 : Int) + bits BinOp.and IntKind.u64 x (6148914691236517205 : Int)) / (2 : Int) ^ min (2 : Nat) (64 : Nat)) (3689348814741910323
    : Int) + bits BinOp.and IntKind.u64 (IntKind.u64.wrap (bits BinOp.and IntKind.u64 (x / (2 : Int) ^ min (1 : Nat) (64 : Nat)) (6148914691236517205 : Int) + bits BinOp.and
    IntKind.u64 x (6148914691236517205 : Int))) (3689348814741910323 : Int)))) (1085102592571150095 : Int) + bits BinOp.and IntKind.u64 (IntKind.u64.wrap (IntKind.u64.wrap
    (bits BinOp.and IntKind.u64 (IntKind.u64.wrap (bits BinOp.and IntKind.u64 (x / (2 : Int) ^ min (1 : Nat) (64 : Nat)) (6148914691236517205 : Int) + bits BinOp.and
    IntKind.u64 x (6148914691236517205 : Int)) / (2 : Int) ^ min (2 : Nat) (64 : Nat)) (3689348814741910323 : Int) + bits BinOp.and IntKind.u64 (IntKind.u64.wrap (bits
    BinOp.and IntKind.u64 (x / (2 : Int) ^ min (1 : Nat) (64 : Nat)) (6148914691236517205 : Int) + bits BinOp.and IntKind.u64 x (6148914691236517205 : Int))) (3689348814741910323
    : Int)) / (2 : Int) ^ min (4 : Nat) (64 : Nat) + IntKind.u64.wrap (bits BinOp.and IntKind.u64 (IntKind.u64.wrap (bits BinOp.and IntKind.u64 (x / (2 : Int) ^ min
    (1 : Nat) (64 : Nat)) (6148914691236517205 : Int) + bits BinOp.and IntKind.u64 x (6148914691236517205 : Int)) / (2 : Int) ^ min (2 : Nat) (64 : Nat)) (3689348814741910323
    : Int) + bits BinOp.and IntKind.u64 (IntKind.u64.wrap (bits BinOp.and IntKind.u64 (x / (2 : Int) ^ min (1 : Nat) (64 : Nat)) (6148914691236517205 : Int) + bits BinOp.and
    IntKind.u64 x (6148914691236517205 : Int))) (3689348814741910323 : Int)))) (1085102592571150095 : Int) / (2 : Int) ^ min (8 : Nat) (64 : Nat)) + IntKind.u64.wrap
    (bits BinOp.and IntKind.u64 (IntKind.u64.wrap (IntKind.u64.wrap (bits BinOp.and IntKind.u64 (IntKind.u64.wrap (bits BinOp.and IntKind.u64 (x / (2 : Int) ^ min (1
    : Nat) (64 : Nat)) (6148914691236517205 : Int) + bits BinOp.and IntKind.u64 x (6148914691236517205 : Int)) / (2 : Int) ^ min (2 : Nat) (64 : Nat)) (3689348814741910323
    : Int) + bits BinOp.and IntKind.u64 (IntKind.u64.wrap (bits BinOp.and IntKind.u64 (x / (2 : Int) ^ min (1 : Nat) (64 : Nat)) (6148914691236517205 : Int) + bits BinOp.and
    IntKind.u64 x (6148914691236517205 : Int))) (3689348814741910323 : Int)) / (2 : Int) ^ min (4 : Nat) (64 : Nat) + IntKind.u64.wrap (bits BinOp.and IntKind.u64 (IntKind.u64.wrap
    (bits BinOp.and IntKind.u64 (x / (2 : Int) ^ min (1 : Nat) (64 : Nat)) (6148914691236517205 : Int) + bits BinOp.and IntKind.u64 x (6148914691236517205 : Int)) /
    (2 : Int) ^ min (2 : Nat) (64 : Nat)) (3689348814741910323 : Int) + bits BinOp.and IntKind.u64 (IntKind.u64.wrap (bits BinOp.and IntKind.u64 (x / (2 : Int) ^ min
    (1 : Nat) (64 : Nat)) (6148914691236517205 : Int) + bits BinOp.and IntKind.u64 x (6148914691236517205 : Int))) (3689348814741910323 : Int)))) (1085102592571150095
    : Int) + bits BinOp.and IntKind.u64 (IntKind.u64.wrap (IntKind.u64.wrap (bits BinOp.and IntKind.u64 (IntKind.u64.wrap (bits BinOp.and IntKind.u64 (x / (2 : Int)
    ^ min (1 : Nat) (64 : Nat)) (6148914691236517205 : Int) + bits BinOp.and IntKind.u64 x (6148914691236517205 : Int)) / (2 : Int) ^ min (2 : Nat) (64 : Nat)) (3689348814741910323
    : Int) + bits BinOp.and IntKind.u64 (IntKind.u64.wrap (bits BinOp.and IntKind.u64 (x / (2 : Int) ^ min (1 : Nat) (64 : Nat)) (6148914691236517205 : Int) + bits BinOp.and
    IntKind.u64 x (6148914691236517205 : Int))) (3689348814741910323 : Int)) / (2 : Int) ^ min (4 : Nat) (64 : Nat) + IntKind.u64.wrap (bits BinOp.and IntKind.u64 (IntKind.u64.wrap
    (bits BinOp.and IntKind.u64 (x / (2 : Int) ^ min (1 : Nat) (64 : Nat)) (6148914691236517205 : Int) + bits BinOp.and IntKind.u64 x (6148914691236517205 : Int)) /
    (2 : Int) ^ min (2 : Nat) (64 : Nat)) (3689348814741910323 : Int) + bits BinOp.and IntKind.u64 (IntKind.u64.wrap (bits BinOp.and IntKind.u64 (x / (2 : Int) ^ min
    (1 : Nat) (64 : Nat)) (6148914691236517205 : Int) + bits BinOp.and IntKind.u64 x (6148914691236517205 : Int))) (3689348814741910323 : Int)))) (1085102592571150095
    : Int) / (2 : Int) ^ min (8 : Nat) (64 : Nat)) / (2 : Int) ^ min (16 : Nat) (64 : Nat)) / (2 : Int) ^ min (32 : Nat) (64 : Nat)))) (127 : Int) = popS x ∧ True) = vc44 x := by kernel_rfl
theorem vc24_eq (f : Fr) : (True ∧ True ∧ True ∧ (CntI f (0 : Int) (0 : Int) [(0 : Int), (0 : Int), (0 : Int), (0 : Int)] ∧ (((sm ((16 : Nat)) ∧ sm ((1 : Nat)) ∧ ∀ (i : Nat), i < (16 : Nat)
    → sm (f.low.getD i (0 : Int)) ∧ True) ∧ (sm ((16 : Nat)) ∧ sm ((1 : Nat)) ∧ ∀ (i : Nat), i < (16 : Nat) → sm (f.high.getD i (0 : Int)) ∧ True) ∧ True) ∧ True ∧ True
    ∧ True ∧ True ∧ True ∧ True ∧ sm ((0 : Int)) ∧ True ∧ True ∧ True ∧ True ∧ True ∧ True ∧ True ∧ True ∧ True ∧ True ∧ True ∧ True ∧ True ∧ True ∧ True ∧ True ∧ True
    ∧ True ∧ True ∧ True ∧ True ∧ True ∧ True ∧ True ∧ True ∧ True ∧ True ∧ True ∧ True ∧ True ∧ True ∧ True ∧ True ∧ True ∧ True ∧ True ∧ True ∧ True ∧ True ∧ True
    ∧ True ∧ True ∧ True ∧ True ∧ True ∧ True ∧ True) ∧ ((if false = true then [] else List.map Seg.shape [Seg.a (16 : Nat) (1 : Nat) fun j => [SV.int IntKind.u64 (f.low.getD
    j (0 : Int))], Seg.a (16 : Nat) (1 : Nat) fun j => [SV.int IntKind.u64 (f.high.getD j (0 : Int))]]) = if false = true then [] else List.map Seg.shape [Seg.a (16
    : Nat) (1 : Nat) fun j => [SV.int IntKind.u64 (f.low.getD j (0 : Int))], Seg.a (16 : Nat) (1 : Nat) fun j => [SV.int IntKind.u64 (f.high.getD j (0 : Int))]]) ∧ ((sm
    ((16 : Nat)) ∧ sm ((1 : Nat)) ∧ ∀ (i : Nat), i < (16 : Nat) → sm (f.low.getD i (0 : Int)) ∧ True) ∧ (sm ((16 : Nat)) ∧ sm ((1 : Nat)) ∧ ∀ (i : Nat), i < (16 : Nat)
    → sm (f.high.getD i (0 : Int)) ∧ True) ∧ True) ∧ ((if false = true then [] else List.map Seg.shape [Seg.a (4 : Nat) (1 : Nat) fun x => [SV.int IntKind.i64 (0 : Int)]])
    = if false = true then [] else List.map Seg.shape [Seg.a (4 : Nat) (1 : Nat) fun x => [SV.int IntKind.i64 (0 : Int)]]) ∧ ((sm ((4 : Nat)) ∧ sm ((1 : Nat)) ∧ ∀ (i
    : Nat), i < (4 : Nat) → sm ((0 : Int)) ∧ True) ∧ True) ∧ ((if false = true then [] else List.map Seg.shape [Seg.a (4 : Nat) (1 : Nat) fun x => [SV.int IntKind.i64
    (0 : Int)]]) = if false = true then [] else List.map Seg.shape [Seg.a (4 : Nat) (1 : Nat) fun x => [SV.int IntKind.i64 (0 : Int)]]) ∧ ((sm ((4 : Nat)) ∧ (1 : Nat)
    = (codI IntKind.i64).n ∧ ∀ (i : Nat), i < (4 : Nat) → (0 : Int) = [(0 : Int), (0 : Int), (0 : Int), (0 : Int)].getD i (codI IntKind.i64).dft ∧ True) ∧ True) ∧ True)
    ∧ ∀ (n : Int) (l : List Int), CntI f n (0 : Int) l → True ∧ (decide (n < (16 : Int)) = true → True ∧ ((0 : Int) ≤ n ∧ n < (16 : Int)) ∧ n.toNat < (16 : Nat) ∧ ((0
    : Int) ≤ n ∧ n < (16 : Int)) ∧ n.toNat < (16 : Nat) ∧ IsT true ∧ ((0 : Int) ≤ (0 : Int) ∧ (0 : Int) < (4 : Int)) ∧ (0 : Nat) < (4 : Nat) ∧ True ∧ (True ∧ (0 : Int)
    ≤ bits BinOp.and IntKind.u64 (bits BinOp.xor IntKind.u64 (18446744073709551615 : Int) (f.low.getD n.toNat (0 : Int))) (bits BinOp.xor IntKind.u64 (18446744073709551615
    : Int) (f.high.getD n.toNat (0 : Int))) ∧ bits BinOp.and IntKind.u64 (bits BinOp.xor IntKind.u64 (18446744073709551615 : Int) (f.low.getD n.toNat (0 : Int))) (bits
    BinOp.xor IntKind.u64 (18446744073709551615 : Int) (f.high.getD n.toNat (0 : Int))) < (18446744073709551616 : Int)) ∧ ((0 : Int) ≤ (0 : Int) ∧ (0 : Int) < (4 : Int))
    ∧ (0 : Nat) < (4 : Nat) ∧ IsT true ∧ ((0 : Int) ≤ (1 : Int) ∧ (1 : Int) < (4 : Int)) ∧ (1 : Nat) < (4 : Nat) ∧ True ∧ (True ∧ (0 : Int) ≤ bits BinOp.andNot IntKind.u64
    (f.low.getD n.toNat (0 : Int)) (f.high.getD n.toNat (0 : Int)) ∧ bits BinOp.andNot IntKind.u64 (f.low.getD n.toNat (0 : Int)) (f.high.getD n.toNat (0 : Int)) < (18446744073709551616
    : Int)) ∧ ((0 : Int) ≤ (1 : Int) ∧ (1 : Int) < (4 : Int)) ∧ (1 : Nat) < (4 : Nat) ∧ IsT true ∧ ((0 : Int) ≤ (2 : Int) ∧ (2 : Int) < (4 : Int)) ∧ (2 : Nat) < (4 :
    Nat) ∧ True ∧ (True ∧ (0 : Int) ≤ bits BinOp.andNot IntKind.u64 (f.high.getD n.toNat (0 : Int)) (f.low.getD n.toNat (0 : Int)) ∧ bits BinOp.andNot IntKind.u64 (f.high.getD
    n.toNat (0 : Int)) (f.low.getD n.toNat (0 : Int)) < (18446744073709551616 : Int)) ∧ ((0 : Int) ≤ (2 : Int) ∧ (2 : Int) < (4 : Int)) ∧ (2 : Nat) < (4 : Nat) ∧ IsT
    true ∧ ((0 : Int) ≤ (3 : Int) ∧ (3 : Int) < (4 : Int)) ∧ (3 : Nat) < (4 : Nat) ∧ True ∧ (True ∧ (0 : Int) ≤ bits BinOp.and IntKind.u64 (f.low.getD n.toNat (0 : Int))
    (f.high.getD n.toNat (0 : Int)) ∧ bits BinOp.and IntKind.u64 (f.low.getD n.toNat (0 : Int)) (f.high.getD n.toNat (0 : Int)) < (18446744073709551616 : Int)) ∧ ((0
    : Int) ≤ (3 : Int) ∧ (3 : Int) < (4 : Int)) ∧ (3 : Nat) < (4 : Nat) ∧ IsT true ∧ True ∧ CntI f (W (n + (1 : Int))) (0 : Int) (rowL (codI IntKind.i64) (4 : Nat) fun
    i' => mergeL (decide (i' = (3 : Nat))) (setL (mergeL false (setL (mergeL false (setL (mergeL false (setL ((codI IntKind.i64).enc (l.getD (0 : Nat) (codI IntKind.i64).dft))
    (0 : Nat) [SV.int IntKind.i64 (W (l.getD (0 : Nat) (codI IntKind.i64).dft + popS (bits BinOp.and IntKind.u64 (bits BinOp.xor IntKind.u64 (18446744073709551615 :
    Int) (f.low.getD n.toNat (0 : Int))) (bits BinOp.xor IntKind.u64 (18446744073709551615 : Int) (f.high.getD n.toNat (0 : Int))))))]) ((codI IntKind.i64).enc (l.getD
    (1 : Nat) (codI IntKind.i64).dft))) (0 : Nat) [SV.int IntKind.i64 (W ((if false = true then W (l.getD (0 : Nat) (codI IntKind.i64).dft + popS (bits BinOp.and IntKind.u64
    (bits BinOp.xor IntKind.u64 (18446744073709551615 : Int) (f.low.getD n.toNat (0 : Int))) (bits BinOp.xor IntKind.u64 (18446744073709551615 : Int) (f.high.getD n.toNat
    (0 : Int))))) else l.getD (1 : Nat) (codI IntKind.i64).dft) + popS (bits BinOp.andNot IntKind.u64 (f.low.getD n.toNat (0 : Int)) (f.high.getD n.toNat (0 : Int)))))])
    (mergeL false (setL ((codI IntKind.i64).enc (l.getD (0 : Nat) (codI IntKind.i64).dft)) (0 : Nat) [SV.int IntKind.i64 (W (l.getD (0 : Nat) (codI IntKind.i64).dft
    + popS (bits BinOp.and IntKind.u64 (bits BinOp.xor IntKind.u64 (18446744073709551615 : Int) (f.low.getD n.toNat (0 : Int))) (bits BinOp.xor IntKind.u64 (18446744073709551615
    : Int) (f.high.getD n.toNat (0 : Int))))))]) ((codI IntKind.i64).enc (l.getD (2 : Nat) (codI IntKind.i64).dft)))) (0 : Nat) [SV.int IntKind.i64 (W ((if false = true
    then W ((if false = true then W (l.getD (0 : Nat) (codI IntKind.i64).dft + popS (bits BinOp.and IntKind.u64 (bits BinOp.xor IntKind.u64 (18446744073709551615 : Int)
    (f.low.getD n.toNat (0 : Int))) (bits BinOp.xor IntKind.u64 (18446744073709551615 : Int) (f.high.getD n.toNat (0 : Int))))) else l.getD (1 : Nat) (codI IntKind.i64).dft)
    + popS (bits BinOp.andNot IntKind.u64 (f.low.getD n.toNat (0 : Int)) (f.high.getD n.toNat (0 : Int)))) else if false = true then W (l.getD (0 : Nat) (codI IntKind.i64).dft
    + popS (bits BinOp.and IntKind.u64 (bits BinOp.xor IntKind.u64 (18446744073709551615 : Int) (f.low.getD n.toNat (0 : Int))) (bits BinOp.xor IntKind.u64 (18446744073709551615
    : Int) (f.high.getD n.toNat (0 : Int))))) else l.getD (2 : Nat) (codI IntKind.i64).dft) + popS (bits BinOp.andNot IntKind.u64 (f.high.getD n.toNat (0 : Int)) (f.low.getD
    n.toNat (0 : Int)))))]) (mergeL false (setL (mergeL false (setL ((codI IntKind.i64).enc (l.getD (0 : Nat) (codI IntKind.i64).dft)) (0 : Nat) [SV.int IntKind.i64
    (W (l.getD (0 : Nat) (codI IntKind.i64).dft + popS (bits BinOp.and IntKind.u64 (bits BinOp.xor IntKind.u64 (18446744073709551615 : Int) (f.low.getD n.toNat (0 :
    Int))) (bits BinOp.xor IntKind.u64 (18446744073709551615 : Int) (f.high.getD n.toNat (0 : Int))))))]) ((codI IntKind.i64).enc (l.getD (1 : Nat) (codI IntKind.i64).dft)))
    (0 : Nat) [SV.int IntKind.i64 (W ((if false = true then W (l.getD (0 : Nat) (codI IntKind.i64).dft + popS (bits BinOp.and IntKind.u64 (bits BinOp.xor IntKind.u64
    (18446744073709551615 : Int) (f.low.getD n.toNat (0 : Int))) (bits BinOp.xor IntKind.u64 (18446744073709551615 : Int) (f.high.getD n.toNat (0 : Int))))) else l.getD
    (1 : Nat) (codI IntKind.i64).dft) + popS (bits BinOp.andNot IntKind.u64 (f.low.getD n.toNat (0 : Int)) (f.high.getD n.toNat (0 : Int)))))]) (mergeL false (setL ((codI
    IntKind.i64).enc (l.getD (0 : Nat) (codI IntKind.i64).dft)) (0 : Nat) [SV.int IntKind.i64 (W (l.getD (0 : Nat) (codI IntKind.i64).dft + popS (bits BinOp.and IntKind.u64
    (bits BinOp.xor IntKind.u64 (18446744073709551615 : Int) (f.low.getD n.toNat (0 : Int))) (bits BinOp.xor IntKind.u64 (18446744073709551615 : Int) (f.high.getD n.toNat
    (0 : Int))))))]) ((codI IntKind.i64).enc (l.getD (3 : Nat) (codI IntKind.i64).dft))))) (0 : Nat) [SV.int IntKind.i64 (W ((if false = true then W ((if false = true
    then W ((if false = true then W (l.getD (0 : Nat) (codI IntKind.i64).dft + popS (bits BinOp.and IntKind.u64 (bits BinOp.xor IntKind.u64 (18446744073709551615 : Int)
    (f.low.getD n.toNat (0 : Int))) (bits BinOp.xor IntKind.u64 (18446744073709551615 : Int) (f.high.getD n.toNat (0 : Int))))) else l.getD (1 : Nat) (codI IntKind.i64).dft)
    + popS (bits BinOp.andNot IntKind.u64 (f.low.getD n.toNat (0 : Int)) (f.high.getD n.toNat (0 : Int)))) else if false = true then W (l.getD (0 : Nat) (codI IntKind.i64).dft
    + popS (bits BinOp.and IntKind.u64 (bits BinOp.xor IntKind.u64 (18446744073709551615 : Int) (f.low.getD n.toNat (0 : Int))) (bits BinOp.xor IntKind.u64 (18446744073709551615
    : Int) (f.high.getD n.toNat (0 : Int))))) else l.getD (2 : Nat) (codI IntKind.i64).dft) + popS (bits BinOp.andNot IntKind.u64 (f.high.getD n.toNat (0 : Int)) (f.low.getD
    n.toNat (0 : Int)))) else if false = true then W ((if false = true then W (l.getD (0 : Nat) (codI IntKind.i64).dft + popS (bits BinOp.and IntKind.u64 (bits BinOp.xor
    IntKind.u64 (18446744073709551615 : Int) (f.low.getD n.toNat (0 : Int))) (bits BinOp.xor IntKind.u64 (18446744073709551615 : Int) (f.high.getD n.toNat (0 : Int)))))
    else l.getD (1 : Nat) (codI IntKind.i64).dft) + popS (bits BinOp.andNot IntKind.u64 (f.low.getD n.toNat (0 : Int)) (f.high.getD n.toNat (0 : Int)))) else if false
    = true then W (l.getD (0 : Nat) (codI IntKind.i64).dft + popS (bits BinOp.and IntKind.u64 (bits BinOp.xor IntKind.u64 (18446744073709551615 : Int) (f.low.getD n.toNat
    (0 : Int))) (bits BinOp.xor IntKind.u64 (18446744073709551615 : Int) (f.high.getD n.toNat (0 : Int))))) else l.getD (3 : Nat) (codI IntKind.i64).dft) + popS (bits
    BinOp.and IntKind.u64 (f.low.getD n.toNat (0 : Int)) (f.high.getD n.toNat (0 : Int)))))]) (mergeL (decide (i' = (2 : Nat))) (setL (mergeL false (setL (mergeL false
    (setL ((codI IntKind.i64).enc (l.getD (0 : Nat) (codI IntKind.i64).dft)) (0 : Nat) [SV.int IntKind.i64 (W (l.getD (0 : Nat) (codI IntKind.i64).dft + popS (bits BinOp.and
    IntKind.u64 (bits BinOp.xor IntKind.u64 (18446744073709551615 : Int) (f.low.getD n.toNat (0 : Int))) (bits BinOp.xor IntKind.u64 (18446744073709551615 : Int) (f.high.getD
    n.toNat (0 : Int))))))]) ((codI IntKind.i64).enc (l.getD (1 : Nat) (codI IntKind.i64).dft))) (0 : Nat) [SV.int IntKind.i64 (W ((if false = true then W (l.getD (0
    : Nat) (codI IntKind.i64).dft + popS (bits BinOp.and IntKind.u64 (bits BinOp.xor IntKind.u64 (18446744073709551615 : Int) (f.low.getD n.toNat (0 : Int))) (bits BinOp.xor
    IntKind.u64 (18446744073709551615 : Int) (f.high.getD n.toNat (0 : Int))))) else l.getD (1 : Nat) (codI IntKind.i64).dft) + popS (bits BinOp.andNot IntKind.u64 (f.low.getD
    n.toNat (0 : Int)) (f.high.getD n.toNat (0 : Int)))))]) (mergeL false (setL ((codI IntKind.i64).enc (l.getD (0 : Nat) (codI IntKind.i64).dft)) (0 : Nat) [SV.int
    IntKind.i64 (W (l.getD (0 : Nat) (codI IntKind.i64).dft + popS (bits BinOp.and IntKind.u64 (bits BinOp.xor IntKind.u64 (18446744073709551615 : Int) (f.low.getD n.toNat
    (0 : Int))) (bits BinOp.xor IntKind.u64 (18446744073709551615 : Int) (f.high.getD n.toNat (0 : Int))))))]) ((codI IntKind.i64).enc (l.getD (2 : Nat) (codI IntKind.i64).dft))))
    (0 : Nat) [SV.int IntKind.i64 (W ((if false = true then W ((if false = true then W (l.getD (0 : Nat) (codI IntKind.i64).dft + popS (bits BinOp.and IntKind.u64 (bits
    BinOp.xor IntKind.u64 (18446744073709551615 : Int) (f.low.getD n.toNat (0 : Int))) (bits BinOp.xor IntKind.u64 (18446744073709551615 : Int) (f.high.getD n.toNat
    (0 : Int))))) else l.getD (1 : Nat) (codI IntKind.i64).dft) + popS (bits BinOp.andNot IntKind.u64 (f.low.getD n.toNat (0 : Int)) (f.high.getD n.toNat (0 : Int))))
    else if false = true then W (l.getD (0 : Nat) (codI IntKind.i64).dft + popS (bits BinOp.and IntKind.u64 (bits BinOp.xor IntKind.u64 (18446744073709551615 : Int)
    (f.low.getD n.toNat (0 : Int))) (bits BinOp.xor IntKind.u64 (18446744073709551615 : Int) (f.high.getD n.toNat (0 : Int))))) else l.getD (2 : Nat) (codI IntKind.i64).dft)
    + popS (bits BinOp.andNot IntKind.u64 (f.high.getD n.toNat (0 : Int)) (f.low.getD n.toNat (0 : Int)))))]) (mergeL (decide (i' = (1 : Nat))) (setL (mergeL false (setL
    ((codI IntKind.i64).enc (l.getD (0 : Nat) (codI IntKind.i64).dft)) (0 : Nat) [SV.int IntKind.i64 (W (l.getD (0 : Nat) (codI IntKind.i64).dft + popS (bits BinOp.and
    IntKind.u64 (bits BinOp.xor IntKind.u64 (18446744073709551615 : Int) (f.low.getD n.toNat (0 : Int))) (bits BinOp.xor IntKind.u64 (18446744073709551615 : Int) (f.high.getD
    n.toNat (0 : Int))))))]) ((codI IntKind.i64).enc (l.getD (1 : Nat) (codI IntKind.i64).dft))) (0 : Nat) [SV.int IntKind.i64 (W ((if false = true then W (l.getD (0
    : Nat) (codI IntKind.i64).dft + popS (bits BinOp.and IntKind.u64 (bits BinOp.xor IntKind.u64 (18446744073709551615 : Int) (f.low.getD n.toNat (0 : Int))) (bits BinOp.xor
    IntKind.u64 (18446744073709551615 : Int) (f.high.getD n.toNat (0 : Int))))) else l.getD (1 : Nat) (codI IntKind.i64).dft) + popS (bits BinOp.andNot IntKind.u64 (f.low.getD
    n.toNat (0 : Int)) (f.high.getD n.toNat (0 : Int)))))]) (mergeL (decide (i' = (0 : Nat))) (setL ((codI IntKind.i64).enc (l.getD (0 : Nat) (codI IntKind.i64).dft))
    (0 : Nat) [SV.int IntKind.i64 (W (l.getD (0 : Nat) (codI IntKind.i64).dft + popS (bits BinOp.and IntKind.u64 (bits BinOp.xor IntKind.u64 (18446744073709551615 :
    Int) (f.low.getD n.toNat (0 : Int))) (bits BinOp.xor IntKind.u64 (18446744073709551615 : Int) (f.high.getD n.toNat (0 : Int))))))]) ((codI IntKind.i64).enc (l.getD
    i' (codI IntKind.i64).dft)))))) ∧ ((16 : Int) - W (n + (1 : Int))).toNat < ((16 : Int) - n).toNat ∧ (((sm ((16 : Nat)) ∧ sm ((1 : Nat)) ∧ ∀ (i : Nat), i < (16 :
    Nat) → sm (f.low.getD i (0 : Int)) ∧ True) ∧ (sm ((16 : Nat)) ∧ sm ((1 : Nat)) ∧ ∀ (i : Nat), i < (16 : Nat) → sm (f.high.getD i (0 : Int)) ∧ True) ∧ True) ∧ True
    ∧ True ∧ True ∧ True ∧ True ∧ True ∧ sm (W (n + (1 : Int))) ∧ True ∧ True ∧ True ∧ True ∧ True ∧ True ∧ True ∧ True ∧ True ∧ True ∧ True ∧ True ∧ True ∧ True ∧ True
    ∧ True ∧ True ∧ True ∧ True ∧ True ∧ True ∧ True ∧ True ∧ True ∧ True ∧ True ∧ True ∧ True ∧ True ∧ True ∧ True ∧ True ∧ True ∧ True ∧ True ∧ True ∧ True ∧ True
    ∧ True ∧ True ∧ True ∧ True ∧ True ∧ True ∧ True ∧ True ∧ True) ∧ ((if false = true then [] else List.map Seg.shape [Seg.a (16 : Nat) (1 : Nat) fun j => [SV.int
    IntKind.u64 (f.low.getD j (0 : Int))], Seg.a (16 : Nat) (1 : Nat) fun j => [SV.int IntKind.u64 (f.high.getD j (0 : Int))]]) = if false = true then [] else List.map
    Seg.shape [Seg.a (16 : Nat) (1 : Nat) fun j => [SV.int IntKind.u64 (f.low.getD j (0 : Int))], Seg.a (16 : Nat) (1 : Nat) fun j => [SV.int IntKind.u64 (f.high.getD
    j (0 : Int))]]) ∧ ((sm ((16 : Nat)) ∧ sm ((1 : Nat)) ∧ ∀ (i : Nat), i < (16 : Nat) → sm (f.low.getD i (0 : Int)) ∧ True) ∧ (sm ((16 : Nat)) ∧ sm ((1 : Nat)) ∧ ∀
    (i : Nat), i < (16 : Nat) → sm (f.high.getD i (0 : Int)) ∧ True) ∧ True) ∧ ((if false = true then [] else List.map Seg.shape [Seg.a (4 : Nat) (1 : Nat) fun x =>
    [SV.int IntKind.i64 (0 : Int)]]) = if false = true then [] else List.map Seg.shape [Seg.a (4 : Nat) (1 : Nat) fun x => [SV.int IntKind.i64 (0 : Int)]]) ∧ ((sm ((4
    : Nat)) ∧ sm ((1 : Nat)) ∧ ∀ (i : Nat), i < (4 : Nat) → sm ((0 : Int)) ∧ True) ∧ True) ∧ ((if false = true then [] else List.map Seg.shape [Seg.a (4 : Nat) (1 :
    Nat) fun x => [SV.int IntKind.i64 (0 : Int)]]) = if false = true then [] else List.map Seg.shape [Seg.a (4 : Nat) (1 : Nat) fun x => [SV.int IntKind.i64 (0 : Int)]])
    ∧ ((sm ((4 : Nat)) ∧ (0 : Nat) + (1 : Nat) = (codI IntKind.i64).n ∧ ∀ (i : Nat), i < (4 : Nat) → (if decide (i = (3 : Nat)) = true then W ((if false = true then
    W ((if false = true then W ((if false = true then W (l.getD (0 : Nat) (codI IntKind.i64).dft + popS (bits BinOp.and IntKind.u64 (bits BinOp.xor IntKind.u64 (18446744073709551615
    : Int) (f.low.getD n.toNat (0 : Int))) (bits BinOp.xor IntKind.u64 (18446744073709551615 : Int) (f.high.getD n.toNat (0 : Int))))) else l.getD (1 : Nat) (codI IntKind.i64).dft)
    + popS (bits BinOp.andNot IntKind.u64 (f.low.getD n.toNat (0 : Int)) (f.high.getD n.toNat (0 : Int)))) else if false = true then W (l.getD (0 : Nat) (codI IntKind.i64).dft
    + popS (bits BinOp.and IntKind.u64 (bits BinOp.xor IntKind.u64 (18446744073709551615 : Int) (f.low.getD n.toNat (0 : Int))) (bits BinOp.xor IntKind.u64 (18446744073709551615
    : Int) (f.high.getD n.toNat (0 : Int))))) else l.getD (2 : Nat) (codI IntKind.i64).dft) + popS (bits BinOp.andNot IntKind.u64 (f.high.getD n.toNat (0 : Int)) (f.low.getD
    n.toNat (0 : Int)))) else if false = true then W ((if false = true then W (l.getD (0 : Nat) (codI IntKind.i64).dft + popS (bits BinOp.and IntKind.u64 (bits BinOp.xor
    IntKind.u64 (18446744073709551615 : Int) (f.low.getD n.toNat (0 : Int))) (bits BinOp.xor IntKind.u64 (18446744073709551615 : Int) (f.high.getD n.toNat (0 : Int)))))
    else l.getD (1 : Nat) (codI IntKind.i64).dft) + popS (bits BinOp.andNot IntKind.u64 (f.low.getD n.toNat (0 : Int)) (f.high.getD n.toNat (0 : Int)))) else if false
    = true then W (l.getD (0 : Nat) (codI IntKind.i64).dft + popS (bits BinOp.and IntKind.u64 (bits BinOp.xor IntKind.u64 (18446744073709551615 : Int) (f.low.getD n.toNat
    (0 : Int))) (bits BinOp.xor IntKind.u64 (18446744073709551615 : Int) (f.high.getD n.toNat (0 : Int))))) else l.getD (3 : Nat) (codI IntKind.i64).dft) + popS (bits
    BinOp.and IntKind.u64 (f.low.getD n.toNat (0 : Int)) (f.high.getD n.toNat (0 : Int)))) else if decide (i = (2 : Nat)) = true then W ((if false = true then W ((if
    false = true then W (l.getD (0 : Nat) (codI IntKind.i64).dft + popS (bits BinOp.and IntKind.u64 (bits BinOp.xor IntKind.u64 (18446744073709551615 : Int) (f.low.getD
    n.toNat (0 : Int))) (bits BinOp.xor IntKind.u64 (18446744073709551615 : Int) (f.high.getD n.toNat (0 : Int))))) else l.getD (1 : Nat) (codI IntKind.i64).dft) + popS
    (bits BinOp.andNot IntKind.u64 (f.low.getD n.toNat (0 : Int)) (f.high.getD n.toNat (0 : Int)))) else if false = true then W (l.getD (0 : Nat) (codI IntKind.i64).dft
    + popS (bits BinOp.and IntKind.u64 (bits BinOp.xor IntKind.u64 (18446744073709551615 : Int) (f.low.getD n.toNat (0 : Int))) (bits BinOp.xor IntKind.u64 (18446744073709551615
    : Int) (f.high.getD n.toNat (0 : Int))))) else l.getD (2 : Nat) (codI IntKind.i64).dft) + popS (bits BinOp.andNot IntKind.u64 (f.high.getD n.toNat (0 : Int)) (f.low.getD
    n.toNat (0 : Int)))) else if decide (i = (1 : Nat)) = true then W ((if false = true then W (l.getD (0 : Nat) (codI IntKind.i64).dft + popS (bits BinOp.and IntKind.u64
    (bits BinOp.xor IntKind.u64 (18446744073709551615 : Int) (f.low.getD n.toNat (0 : Int))) (bits BinOp.xor IntKind.u64 (18446744073709551615 : Int) (f.high.getD n.toNat
    (0 : Int))))) else l.getD (1 : Nat) (codI IntKind.i64).dft) + popS (bits BinOp.andNot IntKind.u64 (f.low.getD n.toNat (0 : Int)) (f.high.getD n.toNat (0 : Int))))
    else if decide (i = (0 : Nat)) = true then W (l.getD (0 : Nat) (codI IntKind.i64).dft + popS (bits BinOp.and IntKind.u64 (bits BinOp.xor IntKind.u64 (18446744073709551615
    : Int) (f.low.getD n.toNat (0 : Int))) (bits BinOp.xor IntKind.u64 (18446744073709551615 : Int) (f.high.getD n.toNat (0 : Int))))) else l.getD i (codI IntKind.i64).dft)
    = (rowL (codI IntKind.i64) (4 : Nat) fun i' => mergeL (decide (i' = (3 : Nat))) (setL (mergeL false (setL (mergeL false (setL (mergeL false (setL ((codI IntKind.i64).enc
    (l.getD (0 : Nat) (codI IntKind.i64).dft)) (0 : Nat) [SV.int IntKind.i64 (W (l.getD (0 : Nat) (codI IntKind.i64).dft + popS (bits BinOp.and IntKind.u64 (bits BinOp.xor
    IntKind.u64 (18446744073709551615 : Int) (f.low.getD n.toNat (0 : Int))) (bits BinOp.xor IntKind.u64 (18446744073709551615 : Int) (f.high.getD n.toNat (0 : Int))))))])
    ((codI IntKind.i64).enc (l.getD (1 : Nat) (codI IntKind.i64).dft))) (0 : Nat) [SV.int IntKind.i64 (W ((if false = true then W (l.getD (0 : Nat) (codI IntKind.i64).dft
    + popS (bits BinOp.and IntKind.u64 (bits BinOp.xor IntKind.u64 (18446744073709551615 : Int) (f.low.getD n.toNat (0 : Int))) (bits BinOp.xor IntKind.u64 (18446744073709551615
    : Int) (f.high.getD n.toNat (0 : Int))))) else l.getD (1 : Nat) (codI IntKind.i64).dft) + popS (bits BinOp.andNot IntKind.u64 (f.low.getD n.toNat (0 : Int)) (f.high.getD
    n.toNat (0 : Int)))))]) (mergeL false (setL ((codI IntKind.i64).enc (l.getD (0 : Nat) (codI IntKind.i64).dft)) (0 : Nat) [SV.int IntKind.i64 (W (l.getD (0 : Nat)
    (codI IntKind.i64).dft + popS (bits BinOp.and IntKind.u64 (bits BinOp.xor IntKind.u64 (18446744073709551615 : Int) (f.low.getD n.toNat (0 : Int))) (bits BinOp.xor
    IntKind.u64 (18446744073709551615 : Int) (f.high.getD n.toNat (0 : Int))))))]) ((codI IntKind.i64).enc (l.getD (2 : Nat) (codI IntKind.i64).dft)))) (0 : Nat) [SV.int
    IntKind.i64 (W ((if false = true then W ((if false = true then W (l.getD (0 : Nat) (codI IntKind.i64).dft + popS (bits BinOp.and IntKind.u64 (bits BinOp.xor IntKind.u64
    (18446744073709551615 : Int) (f.low.getD n.toNat (0 : Int))) (bits BinOp.xor IntKind.u64 (18446744073709551615 : Int) (f.high.getD n.toNat (0 : Int))))) else l.getD
    (1 : Nat) (codI IntKind.i64).dft) + popS (bits BinOp.andNot IntKind.u64 (f.low.getD n.toNat (0 : Int)) (f.high.getD n.toNat (0 : Int)))) else if false = true then
    W (l.getD (0 : Nat) (codI IntKind.i64).dft + popS (bits BinOp.and IntKind.u64 (bits BinOp.xor IntKind.u64 (18446744073709551615 : Int) (f.low.getD n.toNat (0 : Int)))
    (bits BinOp.xor IntKind.u64 (18446744073709551615 : Int) (f.high.getD n.toNat (0 : Int))))) else l.getD (2 : Nat) (codI IntKind.i64).dft) + popS (bits BinOp.andNot
    IntKind.u64 (f.high.getD n.toNat (0 : Int)) (f.low.getD n.toNat (0 : Int)))))]) (mergeL false (setL (mergeL false (setL ((codI IntKind.i64).enc (l.getD (0 : Nat)
    (codI IntKind.i64).dft)) (0 : Nat) [SV.int IntKind.i64 (W (l.getD (0 : Nat) (codI IntKind.i64).dft + popS (bits BinOp.and IntKind.u64 (bits BinOp.xor IntKind.u64
    (18446744073709551615 : Int) (f.low.getD n.toNat (0 : Int))) (bits BinOp.xor IntKind.u64 (18446744073709551615 : Int) (f.high.getD n.toNat (0 : Int))))))]) ((codI
    IntKind.i64).enc (l.getD (1 : Nat) (codI IntKind.i64).dft))) (0 : Nat) [SV.int IntKind.i64 (W ((if false = true then W (l.getD (0 : Nat) (codI IntKind.i64).dft +
    popS (bits BinOp.and IntKind.u64 (bits BinOp.xor IntKind.u64 (18446744073709551615 : Int) (f.low.getD n.toNat (0 : Int))) (bits BinOp.xor IntKind.u64 (18446744073709551615
    : Int) (f.high.getD n.toNat (0 : Int))))) else l.getD (1 : Nat) (codI IntKind.i64).dft) + popS (bits BinOp.andNot IntKind.u64 (f.low.getD n.toNat (0 : Int)) (f.high.getD
    n.toNat (0 : Int)))))]) (mergeL false (setL ((codI IntKind.i64).enc (l.getD (0 : Nat) (codI IntKind.i64).dft)) (0 : Nat) [SV.int IntKind.i64 (W (l.getD (0 : Nat)
    (codI IntKind.i64).dft + popS (bits BinOp.and IntKind.u64 (bits BinOp.xor IntKind.u64 (18446744073709551615 : Int) (f.low.getD n.toNat (0 : Int))) (bits BinOp.xor
    IntKind.u64 (18446744073709551615 : Int) (f.high.getD n.toNat (0 : Int))))))]) ((codI IntKind.i64).enc (l.getD (3 : Nat) (codI IntKind.i64).dft))))) (0 : Nat) [SV.int
    IntKind.i64 (W ((if false = true then W ((if false = true then W ((if false = true then W (l.getD (0 : Nat) (codI IntKind.i64).dft + popS (bits BinOp.and IntKind.u64
    (bits BinOp.xor IntKind.u64 (18446744073709551615 : Int) (f.low.getD n.toNat (0 : Int))) (bits BinOp.xor IntKind.u64 (18446744073709551615 : Int) (f.high.getD n.toNat
    (0 : Int))))) else l.getD (1 : Nat) (codI IntKind.i64).dft) + popS (bits BinOp.andNot IntKind.u64 (f.low.getD n.toNat (0 : Int)) (f.high.getD n.toNat (0 : Int))))
    else if false = true then W (l.getD (0 : Nat) (codI IntKind.i64).dft + popS (bits BinOp.and IntKind.u64 (bits BinOp.xor IntKind.u64 (18446744073709551615 : Int)
    (f.low.getD n.toNat (0 : Int))) (bits BinOp.xor IntKind.u64 (18446744073709551615 : Int) (f.high.getD n.toNat (0 : Int))))) else l.getD (2 : Nat) (codI IntKind.i64).dft)
    + popS (bits BinOp.andNot IntKind.u64 (f.high.getD n.toNat (0 : Int)) (f.low.getD n.toNat (0 : Int)))) else if false = true then W ((if false = true then W (l.getD
    (0 : Nat) (codI IntKind.i64).dft + popS (bits BinOp.and IntKind.u64 (bits BinOp.xor IntKind.u64 (18446744073709551615 : Int) (f.low.getD n.toNat (0 : Int))) (bits
    BinOp.xor IntKind.u64 (18446744073709551615 : Int) (f.high.getD n.toNat (0 : Int))))) else l.getD (1 : Nat) (codI IntKind.i64).dft) + popS (bits BinOp.andNot IntKind.u64
    (f.low.getD n.toNat (0 : Int)) (f.high.getD n.toNat (0 : Int)))) else if false = true then W (l.getD (0 : Nat) (codI IntKind.i64).dft + popS (bits BinOp.and IntKind.u64
    (bits BinOp.xor IntKind.u64 (18446744073709551615 : Int) (f.low.getD n.toNat (0 : Int))) (bits BinOp.xor IntKind.u64 (18446744073709551615 : Int) (f.high.getD n.toNat
    (0 : Int))))) else l.getD (3 : Nat) (codI IntKind.i64).dft) + popS (bits BinOp.and IntKind.u64 (f.low.getD n.toNat (0 : Int)) (f.high.getD n.toNat (0 : Int)))))])
    (mergeL (decide (i' = (2 : Nat))) (setL (mergeL false (setL (mergeL false (setL ((codI IntKind.i64).enc (l.getD (0 : Nat) (codI IntKind.i64).dft)) (0 : Nat) [SV.int
    IntKind.i64 (W (l.getD (0 : Nat) (codI IntKind.i64).dft + popS (bits BinOp.and IntKind.u64 (bits BinOp.xor IntKind.u64 (18446744073709551615 : Int) (f.low.getD n.toNat
    (0 : Int))) (bits BinOp.xor IntKind.u64 (18446744073709551615 : Int) (f.high.getD n.toNat (0 : Int))))))]) ((codI IntKind.i64).enc (l.getD (1 : Nat) (codI IntKind.i64).dft)))
    (0 : Nat) [SV.int IntKind.i64 (W ((if false = true then W (l.getD (0 : Nat) (codI IntKind.i64).dft + popS (bits BinOp.and IntKind.u64 (bits BinOp.xor IntKind.u64
    (18446744073709551615 : Int) (f.low.getD n.toNat (0 : Int))) (bits BinOp.xor IntKind.u64 (18446744073709551615 : Int) (f.high.getD n.toNat (0 : Int))))) else l.getD
    (1 : Nat) (codI IntKind.i64).dft) + popS (bits BinOp.andNot IntKind.u64 (f.low.getD n.toNat (0 : Int)) (f.high.getD n.toNat (0 : Int)))))]) (mergeL false (setL ((codI
    IntKind.i64).enc (l.getD (0 : Nat) (codI IntKind.i64).dft)) (0 : Nat) [SV.int IntKind.i64 (W (l.getD (0 : Nat) (codI IntKind.i64).dft + popS (bits BinOp.and IntKind.u64
    (bits BinOp.xor IntKind.u64 (18446744073709551615 : Int) (f.low.getD n.toNat (0 : Int))) (bits BinOp.xor IntKind.u64 (18446744073709551615 : Int) (f.high.getD n.toNat
    (0 : Int))))))]) ((codI IntKind.i64).enc (l.getD (2 : Nat) (codI IntKind.i64).dft)))) (0 : Nat) [SV.int IntKind.i64 (W ((if false = true then W ((if false = true
    then W (l.getD (0 : Nat) (codI IntKind.i64).dft + popS (bits BinOp.and IntKind.u64 (bits BinOp.xor IntKind.u64 (18446744073709551615 : Int) (f.low.getD n.toNat (0
    : Int))) (bits BinOp.xor IntKind.u64 (18446744073709551615 : Int) (f.high.getD n.toNat (0 : Int))))) else l.getD (1 : Nat) (codI IntKind.i64).dft) + popS (bits BinOp.andNot
    IntKind.u64 (f.low.getD n.toNat (0 : Int)) (f.high.getD n.toNat (0 : Int)))) else if false = true then W (l.getD (0 : Nat) (codI IntKind.i64).dft + popS (bits BinOp.and
    IntKind.u64 (bits BinOp.xor IntKind.u64 (18446744073709551615 : Int) (f.low.getD n.toNat (0 : Int))) (bits BinOp.xor IntKind.u64 (18446744073709551615 : Int) (f.high.getD
    n.toNat (0 : Int))))) else l.getD (2 : Nat) (codI IntKind.i64).dft) + popS (bits BinOp.andNot IntKind.u64 (f.high.getD n.toNat (0 : Int)) (f.low.getD n.toNat (0
    : Int)))))]) (mergeL (decide (i' = (1 : Nat))) (setL (mergeL false (setL ((codI IntKind.i64).enc (l.getD (0 : Nat) (codI IntKind.i64).dft)) (0 : Nat) [SV.int IntKind.i64
    (W (l.getD (0 : Nat) (codI IntKind.i64).dft + popS (bits BinOp.and IntKind.u64 (bits BinOp.xor IntKind.u64 (18446744073709551615 : Int) (f.low.getD n.toNat (0 :
    Int))) (bits BinOp.xor IntKind.u64 (18446744073709551615 : Int) (f.high.getD n.toNat (0 : Int))))))]) ((codI IntKind.i64).enc (l.getD (1 : Nat) (codI IntKind.i64).dft)))
    (0 : Nat) [SV.int IntKind.i64 (W ((if false = true then W (l.getD (0 : Nat) (codI IntKind.i64).dft + popS (bits BinOp.and IntKind.u64 (bits BinOp.xor IntKind.u64
    (18446744073709551615 : Int) (f.low.getD n.toNat (0 : Int))) (bits BinOp.xor IntKind.u64 (18446744073709551615 : Int) (f.high.getD n.toNat (0 : Int))))) else l.getD
    (1 : Nat) (codI IntKind.i64).dft) + popS (bits BinOp.andNot IntKind.u64 (f.low.getD n.toNat (0 : Int)) (f.high.getD n.toNat (0 : Int)))))]) (mergeL (decide (i' =
    (0 : Nat))) (setL ((codI IntKind.i64).enc (l.getD (0 : Nat) (codI IntKind.i64).dft)) (0 : Nat) [SV.int IntKind.i64 (W (l.getD (0 : Nat) (codI IntKind.i64).dft +
    popS (bits BinOp.and IntKind.u64 (bits BinOp.xor IntKind.u64 (18446744073709551615 : Int) (f.low.getD n.toNat (0 : Int))) (bits BinOp.xor IntKind.u64 (18446744073709551615
    : Int) (f.high.getD n.toNat (0 : Int))))))]) ((codI IntKind.i64).enc (l.getD i' (codI IntKind.i64).dft)))))).getD i (codI IntKind.i64).dft ∧ True) ∧ True) ∧ True)
    ∧ (decide (n < (16 : Int)) = false → (∀ (i : Nat), i < (4 : Nat) → true = true) ∧ True ∧ ((∀ (i : Nat), i < (4 : Nat) → true = true) ∧ True) ∧ ((sm ((4 : Nat)) ∧
    (0 : Nat) + (1 : Nat) = (1 : Nat) ∧ ∀ (i : Nat), i < (4 : Nat) → l.getD i (codI IntKind.i64).dft = (cntS f).getD i (0 : Int) ∧ True) ∧ True) ∧ True)) = vc24 f := by kernel_rfl
theorem vc32_eq (f : Fr) : (True ∧ True ∧ True ∧ (CntI f (0 : Int) (0 : Int) [(0 : Int), (0 : Int), (0 : Int), (0 : Int)] ∧ (((sm ((16 : Nat)) ∧ sm ((1 : Nat)) ∧ ∀ (i : Nat), i < (16 : Nat)
    → sm (f.low.getD i (0 : Int)) ∧ True) ∧ (sm ((16 : Nat)) ∧ sm ((1 : Nat)) ∧ ∀ (i : Nat), i < (16 : Nat) → sm (f.high.getD i (0 : Int)) ∧ True) ∧ True) ∧ True ∧ True
    ∧ True ∧ sm ((0 : Int)) ∧ True ∧ True ∧ True ∧ True ∧ True ∧ True ∧ True ∧ True ∧ True ∧ True ∧ True ∧ True ∧ True ∧ True ∧ True ∧ True ∧ True ∧ True ∧ True) ∧ ((if
    false = true then [] else List.map Seg.shape [Seg.a (16 : Nat) (1 : Nat) fun j => [SV.int IntKind.u64 (f.low.getD j (0 : Int))], Seg.a (16 : Nat) (1 : Nat) fun j
    => [SV.int IntKind.u64 (f.high.getD j (0 : Int))]]) = if false = true then [] else List.map Seg.shape [Seg.a (16 : Nat) (1 : Nat) fun j => [SV.int IntKind.u64 (f.low.getD
    j (0 : Int))], Seg.a (16 : Nat) (1 : Nat) fun j => [SV.int IntKind.u64 (f.high.getD j (0 : Int))]]) ∧ ((sm ((16 : Nat)) ∧ sm ((1 : Nat)) ∧ ∀ (i : Nat), i < (16 :
    Nat) → sm (f.low.getD i (0 : Int)) ∧ True) ∧ (sm ((16 : Nat)) ∧ sm ((1 : Nat)) ∧ ∀ (i : Nat), i < (16 : Nat) → sm (f.high.getD i (0 : Int)) ∧ True) ∧ True) ∧ ((if
    false = true then [] else List.map Seg.shape [Seg.a (4 : Nat) (1 : Nat) fun x => [SV.int IntKind.i64 (0 : Int)]]) = if false = true then [] else List.map Seg.shape
    [Seg.a (4 : Nat) (1 : Nat) fun x => [SV.int IntKind.i64 (0 : Int)]]) ∧ ((sm ((4 : Nat)) ∧ sm ((1 : Nat)) ∧ ∀ (i : Nat), i < (4 : Nat) → sm ((0 : Int)) ∧ True) ∧
    True) ∧ ((if false = true then [] else List.map Seg.shape [Seg.a (4 : Nat) (1 : Nat) fun x => [SV.int IntKind.i64 (0 : Int)]]) = if false = true then [] else List.map
    Seg.shape [Seg.a (4 : Nat) (1 : Nat) fun x => [SV.int IntKind.i64 (0 : Int)]]) ∧ ((sm ((4 : Nat)) ∧ (1 : Nat) = (codI IntKind.i64).n ∧ ∀ (i : Nat), i < (4 : Nat)
    → (0 : Int) = [(0 : Int), (0 : Int), (0 : Int), (0 : Int)].getD i (codI IntKind.i64).dft ∧ True) ∧ True) ∧ True) ∧ ∀ (n : Int) (l : List Int), CntI f n (0 : Int)
    l → True ∧ (decide (n < (16 : Int)) = true → True ∧ (CntI f n (0 : Int) (rowL (codI IntKind.i64) (4 : Nat) fun j => (codI IntKind.i64).enc (l.getD j (codI IntKind.i64).dft))
    ∧ (((sm ((16 : Nat)) ∧ sm ((1 : Nat)) ∧ ∀ (i : Nat), i < (16 : Nat) → sm (f.low.getD i (0 : Int)) ∧ True) ∧ (sm ((16 : Nat)) ∧ sm ((1 : Nat)) ∧ ∀ (i : Nat), i <
    (16 : Nat) → sm (f.high.getD i (0 : Int)) ∧ True) ∧ True) ∧ True ∧ True ∧ True ∧ n = n ∧ sm ((0 : Int)) ∧ n = n ∧ True ∧ True ∧ True ∧ True ∧ True ∧ True ∧ True
    ∧ True ∧ True ∧ True ∧ True ∧ True ∧ True ∧ True ∧ True ∧ True ∧ True) ∧ ((if false = true then [] else List.map Seg.shape [Seg.a (16 : Nat) (1 : Nat) fun j => [SV.int
    IntKind.u64 (f.low.getD j (0 : Int))], Seg.a (16 : Nat) (1 : Nat) fun j => [SV.int IntKind.u64 (f.high.getD j (0 : Int))]]) = if false = true then [] else List.map
    Seg.shape [Seg.a (16 : Nat) (1 : Nat) fun j => [SV.int IntKind.u64 (f.low.getD j (0 : Int))], Seg.a (16 : Nat) (1 : Nat) fun j => [SV.int IntKind.u64 (f.high.getD
    j (0 : Int))]]) ∧ ((sm ((16 : Nat)) ∧ sm ((1 : Nat)) ∧ ∀ (i : Nat), i < (16 : Nat) → sm (f.low.getD i (0 : Int)) ∧ True) ∧ (sm ((16 : Nat)) ∧ sm ((1 : Nat)) ∧ ∀
    (i : Nat), i < (16 : Nat) → sm (f.high.getD i (0 : Int)) ∧ True) ∧ True) ∧ ((if false = true then [] else List.map Seg.shape [Seg.a (4 : Nat) (1 : Nat) fun x =>
    [SV.int IntKind.i64 (0 : Int)]]) = if false = true then [] else List.map Seg.shape [Seg.a (4 : Nat) (1 : Nat) fun x => [SV.int IntKind.i64 (0 : Int)]]) ∧ ((sm ((4
    : Nat)) ∧ sm ((1 : Nat)) ∧ ∀ (i : Nat), i < (4 : Nat) → sm ((0 : Int)) ∧ True) ∧ True) ∧ ((if false = true then [] else List.map Seg.shape [Seg.a (4 : Nat) (1 :
    Nat) fun x => [SV.int IntKind.i64 (0 : Int)]]) = if false = true then [] else List.map Seg.shape [Seg.a (4 : Nat) (1 : Nat) fun x => [SV.int IntKind.i64 (0 : Int)]])
    ∧ ((sm ((4 : Nat)) ∧ sm ((codI IntKind.i64).n) ∧ ∀ (i : Nat), i < (4 : Nat) → l.getD i (codI IntKind.i64).dft = (rowL (codI IntKind.i64) (4 : Nat) fun j => (codI
    IntKind.i64).enc (l.getD j (codI IntKind.i64).dft)).getD i (codI IntKind.i64).dft ∧ True) ∧ True) ∧ True) ∧ ∀ (n_1 : Int) (l : List Int), CntI f n n_1 l → True ∧
    (decide (n_1 < (64 : Int)) = true → (t16 ∧ t16 ∧ True) ∧ True ∧ True ∧ ((((∀ (i : Nat), i < (16 : Nat) → true = true ∧ True) ∧ ∀ (i : Nat), i < (16 : Nat) → true
    = true ∧ True) ∧ True ∧ True) ∧ okF { low := rr f.low, high := rr f.high : Fr }) ∧ ((0 : Int) ≤ getS { low := rr f.low, high := rr f.high : Fr } n_1 n ∧ getS { low := rr f.low, high := rr f.high : Fr }
    n_1 n < (4 : Int)) ∧ (getS { low := rr f.low, high := rr f.high : Fr } n_1 n).toNat < (4 : Nat) ∧ ((0 : Int) ≤ getS { low := rr f.low, high := rr f.high : Fr } n_1
    n ∧ getS { low := rr f.low, high := rr f.high : Fr } n_1 n < (4 : Int)) ∧ (getS { low := rr f.low, high := rr f.high : Fr } n_1 n).toNat < (4 : Nat) ∧ True ∧ True
    ∧ CntI f n (W (n_1 + (1 : Int))) (rowL (codI IntKind.i64) (4 : Nat) fun i' => mergeL (decide (i' = (getS { low := rr f.low, high := rr f.high : Fr } n_1 n).toNat))
    (setL ((codI IntKind.i64).enc (l.getD (getS { low := rr f.low, high := rr f.high : Fr } n_1 n).toNat (codI IntKind.i64).dft)) (0 : Nat) [SV.int IntKind.i64 (W (l.getD
    (getS { low := rr f.low, high := rr f.high : Fr } n_1 n).toNat (codI IntKind.i64).dft + (1 : Int)))]) ((codI IntKind.i64).enc (l.getD i' (codI IntKind.i64).dft)))
    ∧ ((64 : Int) - W (n_1 + (1 : Int))).toNat < ((64 : Int) - n_1).toNat ∧ (((sm ((16 : Nat)) ∧ sm ((1 : Nat)) ∧ ∀ (i : Nat), i < (16 : Nat) → sm (f.low.getD i (0 :
    Int)) ∧ True) ∧ (sm ((16 : Nat)) ∧ sm ((1 : Nat)) ∧ ∀ (i : Nat), i < (16 : Nat) → sm (f.high.getD i (0 : Int)) ∧ True) ∧ True) ∧ True ∧ True ∧ True ∧ n = n ∧ sm
    (W (n_1 + (1 : Int))) ∧ n = n ∧ True ∧ True ∧ True ∧ True ∧ True ∧ True ∧ True ∧ True ∧ True ∧ True ∧ True ∧ True ∧ True ∧ True ∧ True ∧ True ∧ True) ∧ ((if false
    = true then [] else List.map Seg.shape [Seg.a (16 : Nat) (1 : Nat) fun j => [SV.int IntKind.u64 (f.low.getD j (0 : Int))], Seg.a (16 : Nat) (1 : Nat) fun j => [SV.int
    IntKind.u64 (f.high.getD j (0 : Int))]]) = if false = true then [] else List.map Seg.shape [Seg.a (16 : Nat) (1 : Nat) fun j => [SV.int IntKind.u64 (f.low.getD j
    (0 : Int))], Seg.a (16 : Nat) (1 : Nat) fun j => [SV.int IntKind.u64 (f.high.getD j (0 : Int))]]) ∧ ((sm ((16 : Nat)) ∧ sm ((1 : Nat)) ∧ ∀ (i : Nat), i < (16 : Nat)
    → sm (f.low.getD i (0 : Int)) ∧ True) ∧ (sm ((16 : Nat)) ∧ sm ((1 : Nat)) ∧ ∀ (i : Nat), i < (16 : Nat) → sm (f.high.getD i (0 : Int)) ∧ True) ∧ True) ∧ ((if false
    = true then [] else List.map Seg.shape [Seg.a (4 : Nat) (1 : Nat) fun x => [SV.int IntKind.i64 (0 : Int)]]) = if false = true then [] else List.map Seg.shape [Seg.a
    (4 : Nat) (1 : Nat) fun x => [SV.int IntKind.i64 (0 : Int)]]) ∧ ((sm ((4 : Nat)) ∧ sm ((1 : Nat)) ∧ ∀ (i : Nat), i < (4 : Nat) → sm ((0 : Int)) ∧ True) ∧ True) ∧
    ((if false = true then [] else List.map Seg.shape [Seg.a (4 : Nat) (1 : Nat) fun x => [SV.int IntKind.i64 (0 : Int)]]) = if false = true then [] else List.map Seg.shape
    [Seg.a (4 : Nat) (1 : Nat) fun x => [SV.int IntKind.i64 (0 : Int)]]) ∧ ((sm ((4 : Nat)) ∧ (0 : Nat) + (1 : Nat) = (codI IntKind.i64).n ∧ ∀ (i : Nat), i < (4 : Nat)
    → (if decide (i = (getS { low := rr f.low, high := rr f.high : Fr } n_1 n).toNat) = true then W (l.getD (getS { low := rr f.low, high := rr f.high : Fr } n_1 n).toNat
    (codI IntKind.i64).dft + (1 : Int)) else l.getD i (codI IntKind.i64).dft) = (rowL (codI IntKind.i64) (4 : Nat) fun i' => mergeL (decide (i' = (getS { low := rr f.low, high := rr f.high : Fr }
    n_1 n).toNat)) (setL ((codI IntKind.i64).enc (l.getD (getS { low := rr f.low, high := rr f.high : Fr } n_1 n).toNat (codI IntKind.i64).dft)) (0 : Nat) [SV.int IntKind.i64
    (W (l.getD (getS { low := rr f.low, high := rr f.high : Fr } n_1 n).toNat (codI IntKind.i64).dft + (1 : Int)))]) ((codI IntKind.i64).enc (l.getD i' (codI IntKind.i64).dft))).getD
    i (codI IntKind.i64).dft ∧ True) ∧ True) ∧ True) ∧ (decide (n_1 < (64 : Int)) = false → True ∧ CntI f (W (n + (1 : Int))) (0 : Int) (rowL (codI IntKind.i64) (4 :
    Nat) fun j => (codI IntKind.i64).enc (l.getD j (codI IntKind.i64).dft)) ∧ ((16 : Int) - W (n + (1 : Int))).toNat < ((16 : Int) - n).toNat ∧ (((sm ((16 : Nat)) ∧
    sm ((1 : Nat)) ∧ ∀ (i : Nat), i < (16 : Nat) → sm (f.low.getD i (0 : Int)) ∧ True) ∧ (sm ((16 : Nat)) ∧ sm ((1 : Nat)) ∧ ∀ (i : Nat), i < (16 : Nat) → sm (f.high.getD
    i (0 : Int)) ∧ True) ∧ True) ∧ True ∧ True ∧ True ∧ sm (W (n + (1 : Int))) ∧ True ∧ True ∧ True ∧ True ∧ True ∧ True ∧ True ∧ True ∧ True ∧ True ∧ True ∧ True ∧
    True ∧ True ∧ True ∧ True ∧ True ∧ True ∧ True) ∧ ((if false = true then [] else List.map Seg.shape [Seg.a (16 : Nat) (1 : Nat) fun j => [SV.int IntKind.u64 (f.low.getD
    j (0 : Int))], Seg.a (16 : Nat) (1 : Nat) fun j => [SV.int IntKind.u64 (f.high.getD j (0 : Int))]]) = if false = true then [] else List.map Seg.shape [Seg.a (16
    : Nat) (1 : Nat) fun j => [SV.int IntKind.u64 (f.low.getD j (0 : Int))], Seg.a (16 : Nat) (1 : Nat) fun j => [SV.int IntKind.u64 (f.high.getD j (0 : Int))]]) ∧ ((sm
    ((16 : Nat)) ∧ sm ((1 : Nat)) ∧ ∀ (i : Nat), i < (16 : Nat) → sm (f.low.getD i (0 : Int)) ∧ True) ∧ (sm ((16 : Nat)) ∧ sm ((1 : Nat)) ∧ ∀ (i : Nat), i < (16 : Nat)
    → sm (f.high.getD i (0 : Int)) ∧ True) ∧ True) ∧ ((if false = true then [] else List.map Seg.shape [Seg.a (4 : Nat) (1 : Nat) fun x => [SV.int IntKind.i64 (0 : Int)]])
    = if false = true then [] else List.map Seg.shape [Seg.a (4 : Nat) (1 : Nat) fun x => [SV.int IntKind.i64 (0 : Int)]]) ∧ ((sm ((4 : Nat)) ∧ sm ((1 : Nat)) ∧ ∀ (i
    : Nat), i < (4 : Nat) → sm ((0 : Int)) ∧ True) ∧ True) ∧ ((if false = true then [] else List.map Seg.shape [Seg.a (4 : Nat) (1 : Nat) fun x => [SV.int IntKind.i64
    (0 : Int)]]) = if false = true then [] else List.map Seg.shape [Seg.a (4 : Nat) (1 : Nat) fun x => [SV.int IntKind.i64 (0 : Int)]]) ∧ ((sm ((4 : Nat)) ∧ sm ((codI
    IntKind.i64).n) ∧ ∀ (i : Nat), i < (4 : Nat) → l.getD i (codI IntKind.i64).dft = (rowL (codI IntKind.i64) (4 : Nat) fun j => (codI IntKind.i64).enc (l.getD j (codI
    IntKind.i64).dft)).getD i (codI IntKind.i64).dft ∧ True) ∧ True) ∧ True)) ∧ (decide (n < (16 : Int)) = false → (∀ (i : Nat), i < (4 : Nat) → true = true) ∧ True
    ∧ ((∀ (i : Nat), i < (4 : Nat) → true = true) ∧ True) ∧ ((sm ((4 : Nat)) ∧ (0 : Nat) + (1 : Nat) = (1 : Nat) ∧ ∀ (i : Nat), i < (4 : Nat) → l.getD i (codI IntKind.i64).dft
    = (cntS f).getD i (0 : Int) ∧ True) ∧ True) ∧ True)) = vc32 f := by kernel_rfl
theorem u_nat (n : Nat) (h : n < 18446744073709551616) : IntKind.u64.wrap (n : Int) = n := wrap_u64 ⟨by omega, by omega⟩
theorem i64_mod {n : Nat} (h : n < 18446744073709551616) : (W (n : Int) % 18446744073709551616).toNat = n := by
  unfold W
  simp [IntKind.wrap, IntKind.bits, IntKind.signed]
  omega
theorem bitsand_i64 (x y : Int) : bits BinOp.and IntKind.i64 x y = IntKind.i64.wrap ((BitVec.ofInt 64 x &&& BitVec.ofInt 64 y).toNat : Int) := rfl
theorem and127 {n : Nat} (h : n < 18446744073709551616) : bits BinOp.and IntKind.i64 (W (n : Int)) 127 = ((n % 128 : Nat) : Int) := by
  rw [bitsand_i64, BitVec.toNat_and, BitVec.toNat_ofInt, BitVec.toNat_ofInt]
  have q3 : (W (n : Int) % (2 ^ 64 : Nat)).toNat = n := i64_mod h
  have q4 : ((127 : Int) % (2 ^ 64 : Nat)).toNat = 2 ^ 7 - 1 := by decide
  rw [q3, q4, Nat.and_two_pow_sub_one_eq_mod, W_def]
  exact W_id (by omega) (by omega)
theorem k44 : TabOK Try.prog T44 := fn_tabA k36 hm Try.func44 (by kernel_rfl) (by kernel_rfl) sU.ok (by kernel_rfl) (fun _ => []) fun a hp => by
  have h : vc44 a := by
    rw [← vc44_eq]
    simp [-List.getD_eq_getElem?_getD, W_def]
    have ex : a = ((ofN 64 (bit a) : Nat) : Int) := (ofB_bit hp).symm.trans (by simp only [ofB])
    obtain ⟨r1, r2, r3, r4, r5, r6⟩ := pop_all (bit a) _ _ _ _ _ _ rfl rfl rfl rfl rfl rfl
    generalize ofN 64 (bit a) = x at *
    have e1 : IntKind.u64.wrap (bits BinOp.and IntKind.u64 (a / 2) 6148914691236517205 + bits BinOp.and IntKind.u64 a 6148914691236517205) = ((pop1 x : Nat) : Int) := by
      have hx : x < 18446744073709551616 := by have := hp.2; omega
      have q1 := and_nat (a := x / 2) (b := 6148914691236517205) (by omega) (by omega)
      have q2 := and_nat (a := x) (b := 6148914691236517205) hx (by omega)
      have q0 : a / 2 = ((x / 2 : Nat) : Int) := by omega
      rw [q0, ex]
      refine Eq.trans ?_ (u_nat _ r1)
      exact congrArg _ ((congr (congrArg _ q1) q2).trans (by simp only [pop1]; exact (Int.natCast_add _ _).symm))
    rw [e1]
    have e2 : IntKind.u64.wrap (bits BinOp.and IntKind.u64 (((pop1 x : Nat) : Int) / 4) 3689348814741910323 + bits BinOp.and IntKind.u64 ((pop1 x : Nat) : Int) 3689348814741910323) = ((pop2 (pop1 x) : Nat) : Int) := by
      have q1 := and_nat (a := pop1 x / 4) (b := 3689348814741910323) (by omega) (by omega)
      have q2 := and_nat (a := pop1 x) (b := 3689348814741910323) r1 (by omega)
      have q0 : ((pop1 x : Nat) : Int) / 4 = ((pop1 x / 4 : Nat) : Int) := by omega
      rw [q0]
      refine Eq.trans ?_ (u_nat _ r2)
      exact congrArg _ ((congr (congrArg _ q1) q2).trans (by simp only [pop2]; exact (Int.natCast_add _ _).symm))
    rw [e2]
    generalize hy : pop2 (pop1 x) = y at *
    have e3 : bits BinOp.and IntKind.u64 (IntKind.u64.wrap ((y : Int) / 16 + (y : Int))) 1085102592571150095 = ((pop3 y : Nat) : Int) := by
      have q0 : (y : Int) / 16 + (y : Int) = ((y / 16 + y : Nat) : Int) := by omega
      have q1 := and_nat (a := y / 16 + y) (b := 1085102592571150095) r3 (by omega)
      rw [q0, u_nat _ r3]
      exact q1
    rw [e3]
    generalize hz : pop3 y = z at *
    have e4 : IntKind.u64.wrap ((z : Int) + (z : Int) / 256) = ((z + z / 256 : Nat) : Int) := by
      rw [← u_nat (z + z / 256) (by omega)]; congr 1
    rw [e4]
    generalize hw1 : z + z / 256 = w1 at *
    have e5 : IntKind.u64.wrap ((w1 : Int) + (w1 : Int) / 65536) = ((w1 + w1 / 65536 : Nat) : Int) := by
      rw [← u_nat (w1 + w1 / 65536) (by omega)]; congr 1
    rw [e5]
    generalize hw2 : w1 + w1 / 65536 = w2 at *
    have e6 : IntKind.u64.wrap ((w2 : Int) + (w2 : Int) / 4294967296) = ((w2 + w2 / 4294967296 : Nat) : Int) := by
      rw [← u_nat (w2 + w2 / 4294967296) (by omega)]; congr 1
    rw [e6]
    generalize hw3 : w2 + w2 / 4294967296 = w3 at *
    have e7 : bits BinOp.and IntKind.i64 (W (w3 : Int)) 127 = ((w3 % 128 : Nat) : Int) := and127 r5
    rw [e7, r6]
    simp only [popS]
  exact h
theorem cR_next (f : Fr) (k : Int) (y x : Nat) : cR f k y (x + 1) = cR f k y x + if lv f y x = k then 1 else 0 := by
  simp only [cR, cN, decide_eq_true_eq]
theorem cR_zero (f : Fr) (k : Int) (y : Nat) : cR f k y 0 = 0 := by simp only [cR, cN]
theorem cA_next (f : Fr) (k : Int) (y : Nat) : cA f k (y + 1) = cA f k y + cR f k y 64 := by simp only [cA]
theorem cR_bd (f : Fr) (k : Int) (y x : Nat) : 0 ≤ cR f k y x ∧ cR f k y x ≤ x := by simp only [cR]; exact cN_bd _ _
theorem cA_bd (f : Fr) (k : Int) : ∀ y : Nat, 0 ≤ cA f k y ∧ cA f k y ≤ 64 * y
  | 0 => by simp [cA]
  | y + 1 => by have := cA_bd f k y; have := cR_bd f k y 64; rw [cA_next]; omega
theorem pop_mask {f : Fr} {k m : Int} {y : Nat} (h : ∀ j, j < 64 → bit m j = decide (lv f y j = k)) : popS m = cR f k y 64 := by
  simp only [popS, cR]; exact cN_congr h
theorem lv_masks : ∀ a b : Bool, ((!a && !b) = decide (lvOf a b = 0)) ∧ ((a && !b) = decide (lvOf a b = 1)) ∧ ((b && !a) = decide (lvOf a b = 2)) ∧ ((a && b) = decide (lvOf a b = 3)) := by decide
theorem pop_masks (f : Fr) (y : Nat) : popS (bits .and .u64 (bits .xor .u64 18446744073709551615 (f.low.getD y 0)) (bits .xor .u64 18446744073709551615 (f.high.getD y 0))) = cR f 0 y 64 ∧ popS (bits .andNot .u64 (f.low.getD y 0) (f.high.getD y 0)) = cR f 1 y 64 ∧
    popS (bits .andNot .u64 (f.high.getD y 0) (f.low.getD y 0)) = cR f 2 y 64 ∧ popS (bits .and .u64 (f.low.getD y 0) (f.high.getD y 0)) = cR f 3 y 64 := by
  refine ⟨pop_mask fun j hj => ?_, pop_mask fun j hj => ?_, pop_mask fun j hj => ?_, pop_mask fun j hj => ?_⟩
  · rw [bit_and, bit_not _ hj, bit_not _ hj, lb_def, hb_def]; simp only [lv]; exact (lv_masks _ _).1
  · rw [bit_andNot _ _ hj, lb_def, hb_def]; simp only [lv]; exact (lv_masks _ _).2.1
  · rw [bit_andNot _ _ hj, lb_def, hb_def]; simp only [lv]; exact (lv_masks _ _).2.2.1
  · rw [bit_and, lb_def, hb_def]; simp only [lv]; exact (lv_masks _ _).2.2.2
theorem CntI_zero (f : Fr) : CntI f 0 0 [0, 0, 0, 0] := by
  simp only [CntI, Int.toNat_zero, cR_zero, cA]
  exact ⟨by omega, by omega, by omega, by omega, .inl (by trivial), rfl⟩
theorem CntI_end {f : Fr} {n : Int} {l : List Int} (h : CntI f n 0 l) (h1 : 16 ≤ n) : l = cntS f := by
  simp only [CntI, Int.toNat_zero, cR_zero] at h
  obtain ⟨a1, a2, -, -, -, rfl⟩ := h
  have : n.toNat = 16 := by omega
  simp only [cntS, this, Int.add_zero]
theorem CntI_facts {f : Fr} {y x : Int} {l : List Int} (h : CntI f y x l) : 0 ≤ y ∧ y ≤ 16 ∧ 0 ≤ x ∧ x ≤ 64 ∧ l.length = 4 := by
  simp only [CntI] at h
  obtain ⟨a1, a2, a3, a4, -, rfl⟩ := h
  exact ⟨a1, a2, a3, a4, rfl⟩
theorem CntI_row {f : Fr} {y x : Int} {l : List Int} (h : CntI f y x l) (h1 : y < 16) (h2 : 64 ≤ x) : CntI f (y + 1) 0 l := by
  simp only [CntI] at h ⊢
  obtain ⟨a1, a2, a3, a4, -, rfl⟩ := h
  have e1 : x.toNat = 64 := by omega
  have e2 : (y + 1).toNat = y.toNat + 1 := by omega
  refine ⟨by omega, by omega, by omega, by omega, .inl (by trivial), ?_⟩
  simp only [e1, e2, cA_next, Int.toNat_zero, cR_zero, Int.add_zero]
theorem CntI_dot {f : Fr} {y x : Int} {l : List Int} (h : CntI f y x l) (h1 : y < 16) (h2 : x < 64) : CntI f y (x + 1) (l.set (lv f y.toNat x.toNat).toNat (W (l.getD (lv f y.toNat x.toNat).toNat 0 + 1))) := by
  simp only [CntI] at h ⊢
  obtain ⟨a1, a2, a3, a4, -, rfl⟩ := h
  have e2 : (x + 1).toNat = x.toNat + 1 := by omega
  refine ⟨by omega, by omega, by omega, by omega, .inr h1, ?_⟩
  simp only [e2, cR_next]
  have b := fun k => cA_bd f k y.toNat
  have c := fun k => cR_bd f k y.toNat x.toNat
  have w : ∀ k, W (cA f k y.toNat + cR f k y.toNat x.toNat + 1) = cA f k y.toNat + cR f k y.toNat x.toNat + 1 := fun k => by
    have := b k; have := c k
    exact W_id (by omega) (by omega)
  have hv := lv_bd f y.toNat x.toNat
  rcases (show lv f y.toNat x.toNat = 0 ∨ lv f y.toNat x.toNat = 1 ∨ lv f y.toNat x.toNat = 2 ∨ lv f y.toNat x.toNat = 3 by omega) with e | e | e | e <;> rw [e]
  · show [W (cA f 0 y.toNat + cR f 0 y.toNat x.toNat + 1), _, _, _] = _
    rw [w]; simp; omega
  · show [_, W (cA f 1 y.toNat + cR f 1 y.toNat x.toNat + 1), _, _] = _
    rw [w]; simp; omega
  · show [_, _, W (cA f 2 y.toNat + cR f 2 y.toNat x.toNat + 1), _] = _
    rw [w]; simp; omega
  · show [_, _, _, W (cA f 3 y.toNat + cR f 3 y.toNat x.toNat + 1)] = _
    rw [w]; simp; omega
theorem k24 : TabOK Try.prog T24 := fn_tabA k44 hm Try.func24 (by kernel_rfl) (by kernel_rfl) sF.ok (by kernel_rfl) (fun a => A24 a) fun f hp => by
  have h : vc24 f := by
    rw [← vc24_eq]
    obtain ⟨l1, l2⟩ := okF_len hp
    simp [-List.getD_eq_getElem?_getD, W_def, rr_eq l1, rr_eq l2, rr_def]
    refine ⟨⟨CntI_zero f, fun i hi => ?_⟩, fun n l hI => ⟨fun h1 => ?_, fun h1 => ?_⟩⟩
    · rcases (show i = 0 ∨ i = 1 ∨ i = 2 ∨ i = 3 by omega) with rfl | rfl | rfl | rfl <;> rfl
    · have hI' := hI
      obtain ⟨i0, -, -, -, hl⟩ := CntI_facts hI
      obtain ⟨p0, p1, p2, p3⟩ := pop_masks f n.toNat
      refine ⟨⟨i0, h1⟩, h1, ⟨i0, h1⟩, h1, bits_isU _ _ _, bits_isU _ _ _, bits_isU _ _ _, bits_isU _ _ _, ?_⟩
      rw [p0, p1, p2, p3, W_id (n := n + 1) (by omega) (by omega)]
      match l, hl with
      | [c0, c1, c2, c3], _ =>
        have hN : CntI f (n + 1) 0 [W (c0 + cR f 0 n.toNat 64), W (c1 + cR f 1 n.toNat 64), W (c2 + cR f 2 n.toNat 64), W (c3 + cR f 3 n.toNat 64)] := by
          simp only [CntI] at hI ⊢
          obtain ⟨a1, a2, a3, a4, -, a6⟩ := hI
          simp only [Int.toNat_zero, cR_zero, Int.add_zero, List.cons.injEq, and_true] at a6
          obtain ⟨rfl, rfl, rfl, rfl⟩ := a6
          have e2 : (n + 1).toNat = n.toNat + 1 := by omega
          have w : ∀ k, W (cA f k n.toNat + cR f k n.toNat 64) = cA f k n.toNat + cR f k n.toNat 64 := fun k => by
            have := cA_bd f k n.toNat; have := cR_bd f k n.toNat 64
            exact W_id (by omega) (by omega)
          refine ⟨by omega, by omega, by omega, by omega, .inl (by trivial), ?_⟩
          simp only [e2, cA_next, Int.toNat_zero, cR_zero, Int.add_zero, w]
        refine ⟨hN, by omega, fun i hi => ?_⟩
        rcases (show i = 0 ∨ i = 1 ∨ i = 2 ∨ i = 3 by omega) with rfl | rfl | rfl | rfl <;> rfl
    · rw [CntI_end hI h1]; exact fun _ _ => rfl
  exact h
theorem selfW {l : List Int} (h : l.length = 4) : (rowL (codI IntKind.i64) (4 : Nat) fun j => [SV.int IntKind.i64 (l.getD j 0)]) = l := by rw [← h]; exact selfI
theorem setW {l : List Int} {i : Nat} {v : Int} (h : l.length = 4) : rowL (codI IntKind.i64) 4 (fun i' => mergeL (decide (i' = i)) [SV.int IntKind.i64 v] [SV.int IntKind.i64 (l.getD i' 0)]) = l.set i v := setI h.symm
theorem k32 : TabOK Try.prog T32 := fn_tabA k24 hm Try.func32 (by kernel_rfl) (by kernel_rfl) sF.ok (by kernel_rfl) (fun a => A32 a) fun f hp => by
  have h : vc32 f := by
    rw [← vc32_eq]
    obtain ⟨l1, l2⟩ := okF_len hp
    simp [-List.getD_eq_getElem?_getD, W_def, rr_eq l1, rr_eq l2, rr_def]
    refine ⟨⟨CntI_zero f, fun i hi => ?_⟩, fun y l hI => ⟨fun h1 => ?_, fun h1 => ?_⟩⟩
    · rcases (show i = 0 ∨ i = 1 ∨ i = 2 ∨ i = 3 by omega) with rfl | rfl | rfl | rfl <;> rfl
    · obtain ⟨i0, -, -, -, hl⟩ := CntI_facts hI
      rw [selfW hl]
      refine ⟨⟨hI, fun _ _ => rfl⟩, fun x l hI => ⟨fun h2 => ?_, fun h2 => ?_⟩⟩
      · obtain ⟨i0, -, j0, -, hl⟩ := CntI_facts hI
        have hd : isD x y = true := isD_iff.2 ⟨j0, h2, i0, h1⟩
        have eg : getS f x y = lv f y.toNat x.toNat := by simp [getS, hd]
        have hv := lv_bd f y.toNat x.toNat
        have hW : W (x + 1) = x + 1 := W_id (by omega) (by omega)
        show okF f ∧ (0 ≤ getS f x y ∧ getS f x y < 4) ∧ getS f x y < 4 ∧ (0 ≤ getS f x y ∧ getS f x y < 4) ∧ getS f x y < 4 ∧ _
        rw [eg, setW hl, hW]
        exact ⟨hp, ⟨hv.1, by omega⟩, by omega, ⟨hv.1, by omega⟩, by omega, CntI_dot hI h1 h2, by omega, fun i hi => (getU_set (by omega)).symm⟩
      · obtain ⟨i0, -, j0, -, hl⟩ := CntI_facts hI
        have hW : W (y + 1) = y + 1 := W_id (by omega) (by omega)
        rw [selfW hl, hW]
        exact ⟨CntI_row hI h1 h2, by omega, fun _ _ => rfl⟩
    · rw [CntI_end hI h1]; exact fun _ _ => rfl
  exact h
end Go.Proofs.Do
