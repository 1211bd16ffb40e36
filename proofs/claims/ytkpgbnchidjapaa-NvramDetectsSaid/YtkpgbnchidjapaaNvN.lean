import Derived.Test.YtkpgbnchidjapaaNvO
namespace Go.Proofs.Nv
set_option linter.unusedVariables false
set_option linter.unusedSimpArgs false
open Go Go.Sx Go.Proofs
set_option maxRecDepth 100000
set_option maxHeartbeats 4000000
-- ABBR: IntKind.i64.wrap ==> W
noncomputable def vc7 (l : List Bs) (a b : Int) : Prop := cva T14 Try.f7 [] [encR codS l, .int .u16 a, .int .u8 b] (.bool true)
theorem vc7_eq (l : List Bs) (a b : Int) : (True ∧ True ∧ ((∀ (i : Nat), i < l.length → true = true ∧ True) ∧ (rowL codS l.length fun i => codS.enc (l.getD i codS.dft)).length ≤ (9223372036854775807 : Nat)
    ∧ ∀ (c : List UInt8), (c ∈ rowL codS l.length fun i => codS.enc (l.getD i codS.dft)) → c.length ≤ (9223372036854775807 : Nat)) ∧ True ∧ True ∧ ((∀ (i : Nat), i <
    (comF (rowL codS l.length fun i => codS.enc (l.getD i codS.dft))).length → true = true ∧ True) ∧ (rowL codS (comF (rowL codS l.length fun i => codS.enc (l.getD i
    codS.dft))).length fun i => codS.enc ((comF (rowL codS l.length fun i => codS.enc (l.getD i codS.dft))).getD i codS.dft)).length ≤ (1000000 : Nat) ∧ ∀ (c : List
    UInt8), (c ∈ rowL codS (comF (rowL codS l.length fun i => codS.enc (l.getD i codS.dft))).length fun i => codS.enc ((comF (rowL codS l.length fun i => codS.enc (l.getD
    i codS.dft))).getD i codS.dft)) → c.length ≤ (1024 : Nat)) ∧ True ∧ True ∧ (false = true → True ∧ True ∧ true = false ∧ True) ∧ (false = false → True ∧ ↑(List.length
    (madM (rowL codS (comF (rowL codS l.length fun i => codS.enc (l.getD i codS.dft))).length fun i => codS.enc ((comF (rowL codS l.length fun i => codS.enc (l.getD
    i codS.dft))).getD i codS.dft)))) ≠ (0 : Int) ∧ True ∧ (2 : Int) ≠ (0 : Int) ∧ True ∧ ((a.tmod (2 : Int) == (0 : Int)) = true → (2 : Int) ≠ (0 : Int) ∧ (2 : Int)
    ≠ (0 : Int) ∧ (4 : Int) ≠ (0 : Int) ∧ (20 : Int) ≠ (0 : Int) ∧ True ∧ ((0 : Int) ≤ W (W ((W ((W a).tdiv (2 : Int))).tmod (2 : Int) * (1031 : Int)) + (W ((W a).tdiv
    (4 : Int))).tmod (20 : Int)) ∧ W (W ((W ((W a).tdiv (2 : Int))).tmod (2 : Int) * (1031 : Int)) + (W ((W a).tdiv (4 : Int))).tmod (20 : Int)) < ↑(List.length (madM
    (rowL codS (comF (rowL codS l.length fun i => codS.enc (l.getD i codS.dft))).length fun i => codS.enc ((comF (rowL codS l.length fun i => codS.enc (l.getD i codS.dft))).getD
    i codS.dft))))) ∧ (0 : Nat) + (W (W ((W ((W a).tdiv (2 : Int))).tmod (2 : Int) * (1031 : Int)) + (W ((W a).tdiv (4 : Int))).tmod (20 : Int))).toNat < List.length
    (madM (rowL codS (comF (rowL codS l.length fun i => codS.enc (l.getD i codS.dft))).length fun i => codS.enc ((comF (rowL codS l.length fun i => codS.enc (l.getD
    i codS.dft))).getD i codS.dft))) ∧ ((0 : Int) ≤ W (W ((W ((W a).tdiv (2 : Int))).tmod (2 : Int) * (1031 : Int)) + (W ((W a).tdiv (4 : Int))).tmod (20 : Int)) ∧ W
    (W ((W ((W a).tdiv (2 : Int))).tmod (2 : Int) * (1031 : Int)) + (W ((W a).tdiv (4 : Int))).tmod (20 : Int)) < ↑(List.length (madM (rowL codS (comF (rowL codS l.length
    fun i => codS.enc (l.getD i codS.dft))).length fun i => codS.enc ((comF (rowL codS l.length fun i => codS.enc (l.getD i codS.dft))).getD i codS.dft))))) ∧ (0 : Nat)
    + (W (W ((W ((W a).tdiv (2 : Int))).tmod (2 : Int) * (1031 : Int)) + (W ((W a).tdiv (4 : Int))).tmod (20 : Int))).toNat < List.length (madM (rowL codS (comF (rowL
    codS l.length fun i => codS.enc (l.getD i codS.dft))).length fun i => codS.enc ((comF (rowL codS l.length fun i => codS.enc (l.getD i codS.dft))).getD i codS.dft)))
    ∧ True ∧ True ∧ True ∧ (decide (↑(comF (rowL codS l.length fun i => codS.enc (l.getD i codS.dft))).length > (0 : Int)) = true → ((0 : Int) ≤ W (↑(comF (rowL codS
    l.length fun i => codS.enc (l.getD i codS.dft))).length - (1 : Int)) ∧ W (↑(comF (rowL codS l.length fun i => codS.enc (l.getD i codS.dft))).length - (1 : Int))
    < ↑(comF (rowL codS l.length fun i => codS.enc (l.getD i codS.dft))).length) ∧ True ∧ True ∧ (decide (↑(comF (rowL codS l.length fun i => codS.enc (l.getD i codS.dft))).length
    > (1 : Int)) = true → ((0 : Int) ≤ W (↑(comF (rowL codS l.length fun i => codS.enc (l.getD i codS.dft))).length - (2 : Int)) ∧ W (↑(comF (rowL codS l.length fun
    i => codS.enc (l.getD i codS.dft))).length - (2 : Int)) < ↑(comF (rowL codS l.length fun i => codS.enc (l.getD i codS.dft))).length) ∧ True ∧ (0 : Nat) + List.length
    (madM (rowL codS (comF (rowL codS l.length fun i => codS.enc (l.getD i codS.dft))).length fun i => codS.enc ((comF (rowL codS l.length fun i => codS.enc (l.getD
    i codS.dft))).getD i codS.dft))) ≤ List.length (madM (rowL codS (comF (rowL codS l.length fun i => codS.enc (l.getD i codS.dft))).length fun i => codS.enc ((comF
    (rowL codS l.length fun i => codS.enc (l.getD i codS.dft))).getD i codS.dft))) ∧ (∀ (j : Nat), j < List.length (madM (rowL codS (comF (rowL codS l.length fun i =>
    codS.enc (l.getD i codS.dft))).length fun i => codS.enc ((comF (rowL codS l.length fun i => codS.enc (l.getD i codS.dft))).getD i codS.dft))) → isByte ((fun (i'
    : Nat) => mergeL (decide (i' = (0 : Nat) + (W (W ((W ((W a).tdiv (2 : Int))).tmod (2 : Int) * (1031 : Int)) + (W ((W a).tdiv (4 : Int))).tmod (20 : Int))).toNat))
    (setL (byteSV (madM (rowL codS (comF (rowL codS l.length fun i => codS.enc (l.getD i codS.dft))).length fun i => codS.enc ((comF (rowL codS l.length fun i => codS.enc
    (l.getD i codS.dft))).getD i codS.dft))) ((0 : Nat) + (W (W ((W ((W a).tdiv (2 : Int))).tmod (2 : Int) * (1031 : Int)) + (W ((W a).tdiv (4 : Int))).tmod (20 : Int))).toNat))
    (0 : Nat) [SV.int IntKind.u8 (bits BinOp.xor IntKind.u8 (↑(List.getD (madM (rowL codS (comF (rowL codS l.length fun i => codS.enc (l.getD i codS.dft))).length fun
    i => codS.enc ((comF (rowL codS l.length fun i => codS.enc (l.getD i codS.dft))).getD i codS.dft))) ((0 : Nat) + (W (W ((W ((W a).tdiv (2 : Int))).tmod (2 : Int)
    * (1031 : Int)) + (W ((W a).tdiv (4 : Int))).tmod (20 : Int))).toNat) (0 : UInt8)).toNat) b)]) (byteSV (madM (rowL codS (comF (rowL codS l.length fun i => codS.enc
    (l.getD i codS.dft))).length fun i => codS.enc ((comF (rowL codS l.length fun i => codS.enc (l.getD i codS.dft))).getD i codS.dft))) i')) ((0 : Nat) + j)) = true)
    ∧ True ∧ (True ∧ True) ∧ True ∧ True ∧ ((curE (bytesOf (List.length (madM (rowL codS (comF (rowL codS l.length fun i => codS.enc (l.getD i codS.dft))).length fun
    i => codS.enc ((comF (rowL codS l.length fun i => codS.enc (l.getD i codS.dft))).getD i codS.dft)))) fun i => mergeL (decide ((0 : Nat) + i = (0 : Nat) + (W (W ((W
    ((W a).tdiv (2 : Int))).tmod (2 : Int) * (1031 : Int)) + (W ((W a).tdiv (4 : Int))).tmod (20 : Int))).toNat)) (setL (byteSV (madM (rowL codS (comF (rowL codS l.length
    fun i => codS.enc (l.getD i codS.dft))).length fun i => codS.enc ((comF (rowL codS l.length fun i => codS.enc (l.getD i codS.dft))).getD i codS.dft))) ((0 : Nat)
    + (W (W ((W ((W a).tdiv (2 : Int))).tmod (2 : Int) * (1031 : Int)) + (W ((W a).tdiv (4 : Int))).tmod (20 : Int))).toNat)) (0 : Nat) [SV.int IntKind.u8 (bits BinOp.xor
    IntKind.u8 (↑(List.getD (madM (rowL codS (comF (rowL codS l.length fun i => codS.enc (l.getD i codS.dft))).length fun i => codS.enc ((comF (rowL codS l.length fun
    i => codS.enc (l.getD i codS.dft))).getD i codS.dft))) ((0 : Nat) + (W (W ((W ((W a).tdiv (2 : Int))).tmod (2 : Int) * (1031 : Int)) + (W ((W a).tdiv (4 : Int))).tmod
    (20 : Int))).toNat) (0 : UInt8)).toNat) b)]) (byteSV (madM (rowL codS (comF (rowL codS l.length fun i => codS.enc (l.getD i codS.dft))).length fun i => codS.enc
    ((comF (rowL codS l.length fun i => codS.enc (l.getD i codS.dft))).getD i codS.dft))) ((0 : Nat) + i))) == (62 : Int)) = true → ((b != (0 : Int)) = true → (True
    ∧ True) ∧ True ∧ True ∧ true = true ∧ True) ∧ ((b != (0 : Int)) = false → True ∧ True ∧ true = false ∧ True)) ∧ ((curE (bytesOf (List.length (madM (rowL codS (comF
    (rowL codS l.length fun i => codS.enc (l.getD i codS.dft))).length fun i => codS.enc ((comF (rowL codS l.length fun i => codS.enc (l.getD i codS.dft))).getD i codS.dft))))
    fun i => mergeL (decide ((0 : Nat) + i = (0 : Nat) + (W (W ((W ((W a).tdiv (2 : Int))).tmod (2 : Int) * (1031 : Int)) + (W ((W a).tdiv (4 : Int))).tmod (20 : Int))).toNat))
    (setL (byteSV (madM (rowL codS (comF (rowL codS l.length fun i => codS.enc (l.getD i codS.dft))).length fun i => codS.enc ((comF (rowL codS l.length fun i => codS.enc
    (l.getD i codS.dft))).getD i codS.dft))) ((0 : Nat) + (W (W ((W ((W a).tdiv (2 : Int))).tmod (2 : Int) * (1031 : Int)) + (W ((W a).tdiv (4 : Int))).tmod (20 : Int))).toNat))
    (0 : Nat) [SV.int IntKind.u8 (bits BinOp.xor IntKind.u8 (↑(List.getD (madM (rowL codS (comF (rowL codS l.length fun i => codS.enc (l.getD i codS.dft))).length fun
    i => codS.enc ((comF (rowL codS l.length fun i => codS.enc (l.getD i codS.dft))).getD i codS.dft))) ((0 : Nat) + (W (W ((W ((W a).tdiv (2 : Int))).tmod (2 : Int)
    * (1031 : Int)) + (W ((W a).tdiv (4 : Int))).tmod (20 : Int))).toNat) (0 : UInt8)).toNat) b)]) (byteSV (madM (rowL codS (comF (rowL codS l.length fun i => codS.enc
    (l.getD i codS.dft))).length fun i => codS.enc ((comF (rowL codS l.length fun i => codS.enc (l.getD i codS.dft))).getD i codS.dft))) ((0 : Nat) + i))) == (62 : Int))
    = false → ((curE (bytesOf (List.length (madM (rowL codS (comF (rowL codS l.length fun i => codS.enc (l.getD i codS.dft))).length fun i => codS.enc ((comF (rowL codS
    l.length fun i => codS.enc (l.getD i codS.dft))).getD i codS.dft)))) fun i => mergeL (decide ((0 : Nat) + i = (0 : Nat) + (W (W ((W ((W a).tdiv (2 : Int))).tmod
    (2 : Int) * (1031 : Int)) + (W ((W a).tdiv (4 : Int))).tmod (20 : Int))).toNat)) (setL (byteSV (madM (rowL codS (comF (rowL codS l.length fun i => codS.enc (l.getD
    i codS.dft))).length fun i => codS.enc ((comF (rowL codS l.length fun i => codS.enc (l.getD i codS.dft))).getD i codS.dft))) ((0 : Nat) + (W (W ((W ((W a).tdiv (2
    : Int))).tmod (2 : Int) * (1031 : Int)) + (W ((W a).tdiv (4 : Int))).tmod (20 : Int))).toNat)) (0 : Nat) [SV.int IntKind.u8 (bits BinOp.xor IntKind.u8 (↑(List.getD
    (madM (rowL codS (comF (rowL codS l.length fun i => codS.enc (l.getD i codS.dft))).length fun i => codS.enc ((comF (rowL codS l.length fun i => codS.enc (l.getD
    i codS.dft))).getD i codS.dft))) ((0 : Nat) + (W (W ((W ((W a).tdiv (2 : Int))).tmod (2 : Int) * (1031 : Int)) + (W ((W a).tdiv (4 : Int))).tmod (20 : Int))).toNat)
    (0 : UInt8)).toNat) b)]) (byteSV (madM (rowL codS (comF (rowL codS l.length fun i => codS.enc (l.getD i codS.dft))).length fun i => codS.enc ((comF (rowL codS l.length
    fun i => codS.enc (l.getD i codS.dft))).getD i codS.dft))) ((0 : Nat) + i))) == (0 : Int)) = true → ((curD (bytesOf (List.length (madM (rowL codS (comF (rowL codS
    l.length fun i => codS.enc (l.getD i codS.dft))).length fun i => codS.enc ((comF (rowL codS l.length fun i => codS.enc (l.getD i codS.dft))).getD i codS.dft))))
    fun i => mergeL (decide ((0 : Nat) + i = (0 : Nat) + (W (W ((W ((W a).tdiv (2 : Int))).tmod (2 : Int) * (1031 : Int)) + (W ((W a).tdiv (4 : Int))).tmod (20 : Int))).toNat))
    (setL (byteSV (madM (rowL codS (comF (rowL codS l.length fun i => codS.enc (l.getD i codS.dft))).length fun i => codS.enc ((comF (rowL codS l.length fun i => codS.enc
    (l.getD i codS.dft))).getD i codS.dft))) ((0 : Nat) + (W (W ((W ((W a).tdiv (2 : Int))).tmod (2 : Int) * (1031 : Int)) + (W ((W a).tdiv (4 : Int))).tmod (20 : Int))).toNat))
    (0 : Nat) [SV.int IntKind.u8 (bits BinOp.xor IntKind.u8 (↑(List.getD (madM (rowL codS (comF (rowL codS l.length fun i => codS.enc (l.getD i codS.dft))).length fun
    i => codS.enc ((comF (rowL codS l.length fun i => codS.enc (l.getD i codS.dft))).getD i codS.dft))) ((0 : Nat) + (W (W ((W ((W a).tdiv (2 : Int))).tmod (2 : Int)
    * (1031 : Int)) + (W ((W a).tdiv (4 : Int))).tmod (20 : Int))).toNat) (0 : UInt8)).toNat) b)]) (byteSV (madM (rowL codS (comF (rowL codS l.length fun i => codS.enc
    (l.getD i codS.dft))).length fun i => codS.enc ((comF (rowL codS l.length fun i => codS.enc (l.getD i codS.dft))).getD i codS.dft))) ((0 : Nat) + i))) == (comF (rowL
    codS l.length fun i => codS.enc (l.getD i codS.dft))).getD (W (↑(comF (rowL codS l.length fun i => codS.enc (l.getD i codS.dft))).length - (1 : Int))).toNat codS.dft)
    = true → (True ∧ True) ∧ True ∧ True ∧ true = true ∧ True) ∧ ((curD (bytesOf (List.length (madM (rowL codS (comF (rowL codS l.length fun i => codS.enc (l.getD i
    codS.dft))).length fun i => codS.enc ((comF (rowL codS l.length fun i => codS.enc (l.getD i codS.dft))).getD i codS.dft)))) fun i => mergeL (decide ((0 : Nat) +
    i = (0 : Nat) + (W (W ((W ((W a).tdiv (2 : Int))).tmod (2 : Int) * (1031 : Int)) + (W ((W a).tdiv (4 : Int))).tmod (20 : Int))).toNat)) (setL (byteSV (madM (rowL
    codS (comF (rowL codS l.length fun i => codS.enc (l.getD i codS.dft))).length fun i => codS.enc ((comF (rowL codS l.length fun i => codS.enc (l.getD i codS.dft))).getD
    i codS.dft))) ((0 : Nat) + (W (W ((W ((W a).tdiv (2 : Int))).tmod (2 : Int) * (1031 : Int)) + (W ((W a).tdiv (4 : Int))).tmod (20 : Int))).toNat)) (0 : Nat) [SV.int
    IntKind.u8 (bits BinOp.xor IntKind.u8 (↑(List.getD (madM (rowL codS (comF (rowL codS l.length fun i => codS.enc (l.getD i codS.dft))).length fun i => codS.enc ((comF
    (rowL codS l.length fun i => codS.enc (l.getD i codS.dft))).getD i codS.dft))) ((0 : Nat) + (W (W ((W ((W a).tdiv (2 : Int))).tmod (2 : Int) * (1031 : Int)) + (W
    ((W a).tdiv (4 : Int))).tmod (20 : Int))).toNat) (0 : UInt8)).toNat) b)]) (byteSV (madM (rowL codS (comF (rowL codS l.length fun i => codS.enc (l.getD i codS.dft))).length
    fun i => codS.enc ((comF (rowL codS l.length fun i => codS.enc (l.getD i codS.dft))).getD i codS.dft))) ((0 : Nat) + i))) == (comF (rowL codS l.length fun i => codS.enc
    (l.getD i codS.dft))).getD (W (↑(comF (rowL codS l.length fun i => codS.enc (l.getD i codS.dft))).length - (1 : Int))).toNat codS.dft) = false → ((b != (0 : Int))
    = true → (decide (↑(comF (rowL codS l.length fun i => codS.enc (l.getD i codS.dft))).length > (0 : Int)) = true → ((curD (bytesOf (List.length (madM (rowL codS (comF
    (rowL codS l.length fun i => codS.enc (l.getD i codS.dft))).length fun i => codS.enc ((comF (rowL codS l.length fun i => codS.enc (l.getD i codS.dft))).getD i codS.dft))))
    fun i => mergeL (decide ((0 : Nat) + i = (0 : Nat) + (W (W ((W ((W a).tdiv (2 : Int))).tmod (2 : Int) * (1031 : Int)) + (W ((W a).tdiv (4 : Int))).tmod (20 : Int))).toNat))
    (setL (byteSV (madM (rowL codS (comF (rowL codS l.length fun i => codS.enc (l.getD i codS.dft))).length fun i => codS.enc ((comF (rowL codS l.length fun i => codS.enc
    (l.getD i codS.dft))).getD i codS.dft))) ((0 : Nat) + (W (W ((W ((W a).tdiv (2 : Int))).tmod (2 : Int) * (1031 : Int)) + (W ((W a).tdiv (4 : Int))).tmod (20 : Int))).toNat))
    (0 : Nat) [SV.int IntKind.u8 (bits BinOp.xor IntKind.u8 (↑(List.getD (madM (rowL codS (comF (rowL codS l.length fun i => codS.enc (l.getD i codS.dft))).length fun
    i => codS.enc ((comF (rowL codS l.length fun i => codS.enc (l.getD i codS.dft))).getD i codS.dft))) ((0 : Nat) + (W (W ((W ((W a).tdiv (2 : Int))).tmod (2 : Int)
    * (1031 : Int)) + (W ((W a).tdiv (4 : Int))).tmod (20 : Int))).toNat) (0 : UInt8)).toNat) b)]) (byteSV (madM (rowL codS (comF (rowL codS l.length fun i => codS.enc
    (l.getD i codS.dft))).length fun i => codS.enc ((comF (rowL codS l.length fun i => codS.enc (l.getD i codS.dft))).getD i codS.dft))) ((0 : Nat) + i))) == (comF (rowL
    codS l.length fun i => codS.enc (l.getD i codS.dft))).getD (W (↑(comF (rowL codS l.length fun i => codS.enc (l.getD i codS.dft))).length - (2 : Int))).toNat codS.dft)
    = true → (True ∧ True) ∧ True ∧ True ∧ true = true ∧ True) ∧ ((curD (bytesOf (List.length (madM (rowL codS (comF (rowL codS l.length fun i => codS.enc (l.getD i
    codS.dft))).length fun i => codS.enc ((comF (rowL codS l.length fun i => codS.enc (l.getD i codS.dft))).getD i codS.dft)))) fun i => mergeL (decide ((0 : Nat) +
    i = (0 : Nat) + (W (W ((W ((W a).tdiv (2 : Int))).tmod (2 : Int) * (1031 : Int)) + (W ((W a).tdiv (4 : Int))).tmod (20 : Int))).toNat)) (setL (byteSV (madM (rowL
    codS (comF (rowL codS l.length fun i => codS.enc (l.getD i codS.dft))).length fun i => codS.enc ((comF (rowL codS l.length fun i => codS.enc (l.getD i codS.dft))).getD
    i codS.dft))) ((0 : Nat) + (W (W ((W ((W a).tdiv (2 : Int))).tmod (2 : Int) * (1031 : Int)) + (W ((W a).tdiv (4 : Int))).tmod (20 : Int))).toNat)) (0 : Nat) [SV.int
    IntKind.u8 (bits BinOp.xor IntKind.u8 (↑(List.getD (madM (rowL codS (comF (rowL codS l.length fun i => codS.enc (l.getD i codS.dft))).length fun i => codS.enc ((comF
    (rowL codS l.length fun i => codS.enc (l.getD i codS.dft))).getD i codS.dft))) ((0 : Nat) + (W (W ((W ((W a).tdiv (2 : Int))).tmod (2 : Int) * (1031 : Int)) + (W
    ((W a).tdiv (4 : Int))).tmod (20 : Int))).toNat) (0 : UInt8)).toNat) b)]) (byteSV (madM (rowL codS (comF (rowL codS l.length fun i => codS.enc (l.getD i codS.dft))).length
    fun i => codS.enc ((comF (rowL codS l.length fun i => codS.enc (l.getD i codS.dft))).getD i codS.dft))) ((0 : Nat) + i))) == (comF (rowL codS l.length fun i => codS.enc
    (l.getD i codS.dft))).getD (W (↑(comF (rowL codS l.length fun i => codS.enc (l.getD i codS.dft))).length - (2 : Int))).toNat codS.dft) = false → True ∧ True ∧ true
    = false ∧ True)) ∧ (decide (↑(comF (rowL codS l.length fun i => codS.enc (l.getD i codS.dft))).length > (0 : Int)) = false → True ∧ True ∧ true = false ∧ True))
    ∧ ((b != (0 : Int)) = false → True ∧ True ∧ true = false ∧ True))) ∧ ((curE (bytesOf (List.length (madM (rowL codS (comF (rowL codS l.length fun i => codS.enc (l.getD
    i codS.dft))).length fun i => codS.enc ((comF (rowL codS l.length fun i => codS.enc (l.getD i codS.dft))).getD i codS.dft)))) fun i => mergeL (decide ((0 : Nat)
    + i = (0 : Nat) + (W (W ((W ((W a).tdiv (2 : Int))).tmod (2 : Int) * (1031 : Int)) + (W ((W a).tdiv (4 : Int))).tmod (20 : Int))).toNat)) (setL (byteSV (madM (rowL
    codS (comF (rowL codS l.length fun i => codS.enc (l.getD i codS.dft))).length fun i => codS.enc ((comF (rowL codS l.length fun i => codS.enc (l.getD i codS.dft))).getD
    i codS.dft))) ((0 : Nat) + (W (W ((W ((W a).tdiv (2 : Int))).tmod (2 : Int) * (1031 : Int)) + (W ((W a).tdiv (4 : Int))).tmod (20 : Int))).toNat)) (0 : Nat) [SV.int
    IntKind.u8 (bits BinOp.xor IntKind.u8 (↑(List.getD (madM (rowL codS (comF (rowL codS l.length fun i => codS.enc (l.getD i codS.dft))).length fun i => codS.enc ((comF
    (rowL codS l.length fun i => codS.enc (l.getD i codS.dft))).getD i codS.dft))) ((0 : Nat) + (W (W ((W ((W a).tdiv (2 : Int))).tmod (2 : Int) * (1031 : Int)) + (W
    ((W a).tdiv (4 : Int))).tmod (20 : Int))).toNat) (0 : UInt8)).toNat) b)]) (byteSV (madM (rowL codS (comF (rowL codS l.length fun i => codS.enc (l.getD i codS.dft))).length
    fun i => codS.enc ((comF (rowL codS l.length fun i => codS.enc (l.getD i codS.dft))).getD i codS.dft))) ((0 : Nat) + i))) == (0 : Int)) = false → True ∧ True ∧ true
    = false ∧ True))) ∧ (decide (↑(comF (rowL codS l.length fun i => codS.enc (l.getD i codS.dft))).length > (1 : Int)) = false → (0 : Nat) + List.length (madM (rowL
    codS (comF (rowL codS l.length fun i => codS.enc (l.getD i codS.dft))).length fun i => codS.enc ((comF (rowL codS l.length fun i => codS.enc (l.getD i codS.dft))).getD
    i codS.dft))) ≤ List.length (madM (rowL codS (comF (rowL codS l.length fun i => codS.enc (l.getD i codS.dft))).length fun i => codS.enc ((comF (rowL codS l.length
    fun i => codS.enc (l.getD i codS.dft))).getD i codS.dft))) ∧ (∀ (j : Nat), j < List.length (madM (rowL codS (comF (rowL codS l.length fun i => codS.enc (l.getD i
    codS.dft))).length fun i => codS.enc ((comF (rowL codS l.length fun i => codS.enc (l.getD i codS.dft))).getD i codS.dft))) → isByte ((fun (i' : Nat) => mergeL (decide
    (i' = (0 : Nat) + (W (W ((W ((W a).tdiv (2 : Int))).tmod (2 : Int) * (1031 : Int)) + (W ((W a).tdiv (4 : Int))).tmod (20 : Int))).toNat)) (setL (byteSV (madM (rowL
    codS (comF (rowL codS l.length fun i => codS.enc (l.getD i codS.dft))).length fun i => codS.enc ((comF (rowL codS l.length fun i => codS.enc (l.getD i codS.dft))).getD
    i codS.dft))) ((0 : Nat) + (W (W ((W ((W a).tdiv (2 : Int))).tmod (2 : Int) * (1031 : Int)) + (W ((W a).tdiv (4 : Int))).tmod (20 : Int))).toNat)) (0 : Nat) [SV.int
    IntKind.u8 (bits BinOp.xor IntKind.u8 (↑(List.getD (madM (rowL codS (comF (rowL codS l.length fun i => codS.enc (l.getD i codS.dft))).length fun i => codS.enc ((comF
    (rowL codS l.length fun i => codS.enc (l.getD i codS.dft))).getD i codS.dft))) ((0 : Nat) + (W (W ((W ((W a).tdiv (2 : Int))).tmod (2 : Int) * (1031 : Int)) + (W
    ((W a).tdiv (4 : Int))).tmod (20 : Int))).toNat) (0 : UInt8)).toNat) b)]) (byteSV (madM (rowL codS (comF (rowL codS l.length fun i => codS.enc (l.getD i codS.dft))).length
    fun i => codS.enc ((comF (rowL codS l.length fun i => codS.enc (l.getD i codS.dft))).getD i codS.dft))) i')) ((0 : Nat) + j)) = true) ∧ True ∧ (True ∧ True) ∧ True
    ∧ True ∧ ((curE (bytesOf (List.length (madM (rowL codS (comF (rowL codS l.length fun i => codS.enc (l.getD i codS.dft))).length fun i => codS.enc ((comF (rowL codS
    l.length fun i => codS.enc (l.getD i codS.dft))).getD i codS.dft)))) fun i => mergeL (decide ((0 : Nat) + i = (0 : Nat) + (W (W ((W ((W a).tdiv (2 : Int))).tmod
    (2 : Int) * (1031 : Int)) + (W ((W a).tdiv (4 : Int))).tmod (20 : Int))).toNat)) (setL (byteSV (madM (rowL codS (comF (rowL codS l.length fun i => codS.enc (l.getD
    i codS.dft))).length fun i => codS.enc ((comF (rowL codS l.length fun i => codS.enc (l.getD i codS.dft))).getD i codS.dft))) ((0 : Nat) + (W (W ((W ((W a).tdiv (2
    : Int))).tmod (2 : Int) * (1031 : Int)) + (W ((W a).tdiv (4 : Int))).tmod (20 : Int))).toNat)) (0 : Nat) [SV.int IntKind.u8 (bits BinOp.xor IntKind.u8 (↑(List.getD
    (madM (rowL codS (comF (rowL codS l.length fun i => codS.enc (l.getD i codS.dft))).length fun i => codS.enc ((comF (rowL codS l.length fun i => codS.enc (l.getD
    i codS.dft))).getD i codS.dft))) ((0 : Nat) + (W (W ((W ((W a).tdiv (2 : Int))).tmod (2 : Int) * (1031 : Int)) + (W ((W a).tdiv (4 : Int))).tmod (20 : Int))).toNat)
    (0 : UInt8)).toNat) b)]) (byteSV (madM (rowL codS (comF (rowL codS l.length fun i => codS.enc (l.getD i codS.dft))).length fun i => codS.enc ((comF (rowL codS l.length
    fun i => codS.enc (l.getD i codS.dft))).getD i codS.dft))) ((0 : Nat) + i))) == (62 : Int)) = true → ((b != (0 : Int)) = true → (True ∧ True) ∧ True ∧ True ∧ true
    = true ∧ True) ∧ ((b != (0 : Int)) = false → True ∧ True ∧ true = false ∧ True)) ∧ ((curE (bytesOf (List.length (madM (rowL codS (comF (rowL codS l.length fun i
    => codS.enc (l.getD i codS.dft))).length fun i => codS.enc ((comF (rowL codS l.length fun i => codS.enc (l.getD i codS.dft))).getD i codS.dft)))) fun i => mergeL
    (decide ((0 : Nat) + i = (0 : Nat) + (W (W ((W ((W a).tdiv (2 : Int))).tmod (2 : Int) * (1031 : Int)) + (W ((W a).tdiv (4 : Int))).tmod (20 : Int))).toNat)) (setL
    (byteSV (madM (rowL codS (comF (rowL codS l.length fun i => codS.enc (l.getD i codS.dft))).length fun i => codS.enc ((comF (rowL codS l.length fun i => codS.enc
    (l.getD i codS.dft))).getD i codS.dft))) ((0 : Nat) + (W (W ((W ((W a).tdiv (2 : Int))).tmod (2 : Int) * (1031 : Int)) + (W ((W a).tdiv (4 : Int))).tmod (20 : Int))).toNat))
    (0 : Nat) [SV.int IntKind.u8 (bits BinOp.xor IntKind.u8 (↑(List.getD (madM (rowL codS (comF (rowL codS l.length fun i => codS.enc (l.getD i codS.dft))).length fun
    i => codS.enc ((comF (rowL codS l.length fun i => codS.enc (l.getD i codS.dft))).getD i codS.dft))) ((0 : Nat) + (W (W ((W ((W a).tdiv (2 : Int))).tmod (2 : Int)
    * (1031 : Int)) + (W ((W a).tdiv (4 : Int))).tmod (20 : Int))).toNat) (0 : UInt8)).toNat) b)]) (byteSV (madM (rowL codS (comF (rowL codS l.length fun i => codS.enc
    (l.getD i codS.dft))).length fun i => codS.enc ((comF (rowL codS l.length fun i => codS.enc (l.getD i codS.dft))).getD i codS.dft))) ((0 : Nat) + i))) == (62 : Int))
    = false → ((curE (bytesOf (List.length (madM (rowL codS (comF (rowL codS l.length fun i => codS.enc (l.getD i codS.dft))).length fun i => codS.enc ((comF (rowL codS
    l.length fun i => codS.enc (l.getD i codS.dft))).getD i codS.dft)))) fun i => mergeL (decide ((0 : Nat) + i = (0 : Nat) + (W (W ((W ((W a).tdiv (2 : Int))).tmod
    (2 : Int) * (1031 : Int)) + (W ((W a).tdiv (4 : Int))).tmod (20 : Int))).toNat)) (setL (byteSV (madM (rowL codS (comF (rowL codS l.length fun i => codS.enc (l.getD
    i codS.dft))).length fun i => codS.enc ((comF (rowL codS l.length fun i => codS.enc (l.getD i codS.dft))).getD i codS.dft))) ((0 : Nat) + (W (W ((W ((W a).tdiv (2
    : Int))).tmod (2 : Int) * (1031 : Int)) + (W ((W a).tdiv (4 : Int))).tmod (20 : Int))).toNat)) (0 : Nat) [SV.int IntKind.u8 (bits BinOp.xor IntKind.u8 (↑(List.getD
    (madM (rowL codS (comF (rowL codS l.length fun i => codS.enc (l.getD i codS.dft))).length fun i => codS.enc ((comF (rowL codS l.length fun i => codS.enc (l.getD
    i codS.dft))).getD i codS.dft))) ((0 : Nat) + (W (W ((W ((W a).tdiv (2 : Int))).tmod (2 : Int) * (1031 : Int)) + (W ((W a).tdiv (4 : Int))).tmod (20 : Int))).toNat)
    (0 : UInt8)).toNat) b)]) (byteSV (madM (rowL codS (comF (rowL codS l.length fun i => codS.enc (l.getD i codS.dft))).length fun i => codS.enc ((comF (rowL codS l.length
    fun i => codS.enc (l.getD i codS.dft))).getD i codS.dft))) ((0 : Nat) + i))) == (0 : Int)) = true → ((curD (bytesOf (List.length (madM (rowL codS (comF (rowL codS
    l.length fun i => codS.enc (l.getD i codS.dft))).length fun i => codS.enc ((comF (rowL codS l.length fun i => codS.enc (l.getD i codS.dft))).getD i codS.dft))))
    fun i => mergeL (decide ((0 : Nat) + i = (0 : Nat) + (W (W ((W ((W a).tdiv (2 : Int))).tmod (2 : Int) * (1031 : Int)) + (W ((W a).tdiv (4 : Int))).tmod (20 : Int))).toNat))
    (setL (byteSV (madM (rowL codS (comF (rowL codS l.length fun i => codS.enc (l.getD i codS.dft))).length fun i => codS.enc ((comF (rowL codS l.length fun i => codS.enc
    (l.getD i codS.dft))).getD i codS.dft))) ((0 : Nat) + (W (W ((W ((W a).tdiv (2 : Int))).tmod (2 : Int) * (1031 : Int)) + (W ((W a).tdiv (4 : Int))).tmod (20 : Int))).toNat))
    (0 : Nat) [SV.int IntKind.u8 (bits BinOp.xor IntKind.u8 (↑(List.getD (madM (rowL codS (comF (rowL codS l.length fun i => codS.enc (l.getD i codS.dft))).length fun
    i => codS.enc ((comF (rowL codS l.length fun i => codS.enc (l.getD i codS.dft))).getD i codS.dft))) ((0 : Nat) + (W (W ((W ((W a).tdiv (2 : Int))).tmod (2 : Int)
    * (1031 : Int)) + (W ((W a).tdiv (4 : Int))).tmod (20 : Int))).toNat) (0 : UInt8)).toNat) b)]) (byteSV (madM (rowL codS (comF (rowL codS l.length fun i => codS.enc
    (l.getD i codS.dft))).length fun i => codS.enc ((comF (rowL codS l.length fun i => codS.enc (l.getD i codS.dft))).getD i codS.dft))) ((0 : Nat) + i))) == (comF (rowL
    codS l.length fun i => codS.enc (l.getD i codS.dft))).getD (W (↑(comF (rowL codS l.length fun i => codS.enc (l.getD i codS.dft))).length - (1 : Int))).toNat codS.dft)
    = true → (True ∧ True) ∧ True ∧ True ∧ true = true ∧ True) ∧ ((curD (bytesOf (List.length (madM (rowL codS (comF (rowL codS l.length fun i => codS.enc (l.getD i
    codS.dft))).length fun i => codS.enc ((comF (rowL codS l.length fun i => codS.enc (l.getD i codS.dft))).getD i codS.dft)))) fun i => mergeL (decide ((0 : Nat) +
    i = (0 : Nat) + (W (W ((W ((W a).tdiv (2 : Int))).tmod (2 : Int) * (1031 : Int)) + (W ((W a).tdiv (4 : Int))).tmod (20 : Int))).toNat)) (setL (byteSV (madM (rowL
    codS (comF (rowL codS l.length fun i => codS.enc (l.getD i codS.dft))).length fun i => codS.enc ((comF (rowL codS l.length fun i => codS.enc (l.getD i codS.dft))).getD
    i codS.dft))) ((0 : Nat) + (W (W ((W ((W a).tdiv (2 : Int))).tmod (2 : Int) * (1031 : Int)) + (W ((W a).tdiv (4 : Int))).tmod (20 : Int))).toNat)) (0 : Nat) [SV.int
    IntKind.u8 (bits BinOp.xor IntKind.u8 (↑(List.getD (madM (rowL codS (comF (rowL codS l.length fun i => codS.enc (l.getD i codS.dft))).length fun i => codS.enc ((comF
    (rowL codS l.length fun i => codS.enc (l.getD i codS.dft))).getD i codS.dft))) ((0 : Nat) + (W (W ((W ((W a).tdiv (2 : Int))).tmod (2 : Int) * (1031 : Int)) + (W
    ((W a).tdiv (4 : Int))).tmod (20 : Int))).toNat) (0 : UInt8)).toNat) b)]) (byteSV (madM (rowL codS (comF (rowL codS l.length fun i => codS.enc (l.getD i codS.dft))).length
    fun i => codS.enc ((comF (rowL codS l.length fun i => codS.enc (l.getD i codS.dft))).getD i codS.dft))) ((0 : Nat) + i))) == (comF (rowL codS l.length fun i => codS.enc
    (l.getD i codS.dft))).getD (W (↑(comF (rowL codS l.length fun i => codS.enc (l.getD i codS.dft))).length - (1 : Int))).toNat codS.dft) = false → ((b != (0 : Int))
    = true → (decide (↑(comF (rowL codS l.length fun i => codS.enc (l.getD i codS.dft))).length > (0 : Int)) = true → ((curD (bytesOf (List.length (madM (rowL codS (comF
    (rowL codS l.length fun i => codS.enc (l.getD i codS.dft))).length fun i => codS.enc ((comF (rowL codS l.length fun i => codS.enc (l.getD i codS.dft))).getD i codS.dft))))
    fun i => mergeL (decide ((0 : Nat) + i = (0 : Nat) + (W (W ((W ((W a).tdiv (2 : Int))).tmod (2 : Int) * (1031 : Int)) + (W ((W a).tdiv (4 : Int))).tmod (20 : Int))).toNat))
    (setL (byteSV (madM (rowL codS (comF (rowL codS l.length fun i => codS.enc (l.getD i codS.dft))).length fun i => codS.enc ((comF (rowL codS l.length fun i => codS.enc
    (l.getD i codS.dft))).getD i codS.dft))) ((0 : Nat) + (W (W ((W ((W a).tdiv (2 : Int))).tmod (2 : Int) * (1031 : Int)) + (W ((W a).tdiv (4 : Int))).tmod (20 : Int))).toNat))
    (0 : Nat) [SV.int IntKind.u8 (bits BinOp.xor IntKind.u8 (↑(List.getD (madM (rowL codS (comF (rowL codS l.length fun i => codS.enc (l.getD i codS.dft))).length fun
    i => codS.enc ((comF (rowL codS l.length fun i => codS.enc (l.getD i codS.dft))).getD i codS.dft))) ((0 : Nat) + (W (W ((W ((W a).tdiv (2 : Int))).tmod (2 : Int)
    * (1031 : Int)) + (W ((W a).tdiv (4 : Int))).tmod (20 : Int))).toNat) (0 : UInt8)).toNat) b)]) (byteSV (madM (rowL codS (comF (rowL codS l.length fun i => codS.enc
    (l.getD i codS.dft))).length fun i => codS.enc ((comF (rowL codS l.length fun i => codS.enc (l.getD i codS.dft))).getD i codS.dft))) ((0 : Nat) + i))) == #[(102
    : UInt8), (105 : UInt8), (114 : UInt8), (115 : UInt8), (116 : UInt8)].toList) = true → (True ∧ True) ∧ True ∧ True ∧ true = true ∧ True) ∧ ((curD (bytesOf (List.length
    (madM (rowL codS (comF (rowL codS l.length fun i => codS.enc (l.getD i codS.dft))).length fun i => codS.enc ((comF (rowL codS l.length fun i => codS.enc (l.getD
    i codS.dft))).getD i codS.dft)))) fun i => mergeL (decide ((0 : Nat) + i = (0 : Nat) + (W (W ((W ((W a).tdiv (2 : Int))).tmod (2 : Int) * (1031 : Int)) + (W ((W
    a).tdiv (4 : Int))).tmod (20 : Int))).toNat)) (setL (byteSV (madM (rowL codS (comF (rowL codS l.length fun i => codS.enc (l.getD i codS.dft))).length fun i => codS.enc
    ((comF (rowL codS l.length fun i => codS.enc (l.getD i codS.dft))).getD i codS.dft))) ((0 : Nat) + (W (W ((W ((W a).tdiv (2 : Int))).tmod (2 : Int) * (1031 : Int))
    + (W ((W a).tdiv (4 : Int))).tmod (20 : Int))).toNat)) (0 : Nat) [SV.int IntKind.u8 (bits BinOp.xor IntKind.u8 (↑(List.getD (madM (rowL codS (comF (rowL codS l.length
    fun i => codS.enc (l.getD i codS.dft))).length fun i => codS.enc ((comF (rowL codS l.length fun i => codS.enc (l.getD i codS.dft))).getD i codS.dft))) ((0 : Nat)
    + (W (W ((W ((W a).tdiv (2 : Int))).tmod (2 : Int) * (1031 : Int)) + (W ((W a).tdiv (4 : Int))).tmod (20 : Int))).toNat) (0 : UInt8)).toNat) b)]) (byteSV (madM (rowL
    codS (comF (rowL codS l.length fun i => codS.enc (l.getD i codS.dft))).length fun i => codS.enc ((comF (rowL codS l.length fun i => codS.enc (l.getD i codS.dft))).getD
    i codS.dft))) ((0 : Nat) + i))) == #[(102 : UInt8), (105 : UInt8), (114 : UInt8), (115 : UInt8), (116 : UInt8)].toList) = false → True ∧ True ∧ true = false ∧ True))
    ∧ (decide (↑(comF (rowL codS l.length fun i => codS.enc (l.getD i codS.dft))).length > (0 : Int)) = false → True ∧ True ∧ true = false ∧ True)) ∧ ((b != (0 : Int))
    = false → True ∧ True ∧ true = false ∧ True))) ∧ ((curE (bytesOf (List.length (madM (rowL codS (comF (rowL codS l.length fun i => codS.enc (l.getD i codS.dft))).length
    fun i => codS.enc ((comF (rowL codS l.length fun i => codS.enc (l.getD i codS.dft))).getD i codS.dft)))) fun i => mergeL (decide ((0 : Nat) + i = (0 : Nat) + (W
    (W ((W ((W a).tdiv (2 : Int))).tmod (2 : Int) * (1031 : Int)) + (W ((W a).tdiv (4 : Int))).tmod (20 : Int))).toNat)) (setL (byteSV (madM (rowL codS (comF (rowL codS
    l.length fun i => codS.enc (l.getD i codS.dft))).length fun i => codS.enc ((comF (rowL codS l.length fun i => codS.enc (l.getD i codS.dft))).getD i codS.dft))) ((0
    : Nat) + (W (W ((W ((W a).tdiv (2 : Int))).tmod (2 : Int) * (1031 : Int)) + (W ((W a).tdiv (4 : Int))).tmod (20 : Int))).toNat)) (0 : Nat) [SV.int IntKind.u8 (bits
    BinOp.xor IntKind.u8 (↑(List.getD (madM (rowL codS (comF (rowL codS l.length fun i => codS.enc (l.getD i codS.dft))).length fun i => codS.enc ((comF (rowL codS l.length
    fun i => codS.enc (l.getD i codS.dft))).getD i codS.dft))) ((0 : Nat) + (W (W ((W ((W a).tdiv (2 : Int))).tmod (2 : Int) * (1031 : Int)) + (W ((W a).tdiv (4 : Int))).tmod
    (20 : Int))).toNat) (0 : UInt8)).toNat) b)]) (byteSV (madM (rowL codS (comF (rowL codS l.length fun i => codS.enc (l.getD i codS.dft))).length fun i => codS.enc
    ((comF (rowL codS l.length fun i => codS.enc (l.getD i codS.dft))).getD i codS.dft))) ((0 : Nat) + i))) == (0 : Int)) = false → True ∧ True ∧ true = false ∧ True))))
    ∧ (decide (↑(comF (rowL codS l.length fun i => codS.enc (l.getD i codS.dft))).length > (0 : Int)) = false → True ∧ (decide (↑(comF (rowL codS l.length fun i => codS.enc
    (l.getD i codS.dft))).length > (1 : Int)) = true → ((0 : Int) ≤ W (↑(comF (rowL codS l.length fun i => codS.enc (l.getD i codS.dft))).length - (2 : Int)) ∧ W (↑(comF
    (rowL codS l.length fun i => codS.enc (l.getD i codS.dft))).length - (2 : Int)) < ↑(comF (rowL codS l.length fun i => codS.enc (l.getD i codS.dft))).length) ∧ True
    ∧ (0 : Nat) + List.length (madM (rowL codS (comF (rowL codS l.length fun i => codS.enc (l.getD i codS.dft))).length fun i => codS.enc ((comF (rowL codS l.length
    fun i => codS.enc (l.getD i codS.dft))).getD i codS.dft))) ≤ List.length (madM (rowL codS (comF (rowL codS l.length fun i => codS.enc (l.getD i codS.dft))).length
    fun i => codS.enc ((comF (rowL codS l.length fun i => codS.enc (l.getD i codS.dft))).getD i codS.dft))) ∧ (∀ (j : Nat), j < List.length (madM (rowL codS (comF (rowL
    codS l.length fun i => codS.enc (l.getD i codS.dft))).length fun i => codS.enc ((comF (rowL codS l.length fun i => codS.enc (l.getD i codS.dft))).getD i codS.dft)))
    → isByte ((fun (i' : Nat) => mergeL (decide (i' = (0 : Nat) + (W (W ((W ((W a).tdiv (2 : Int))).tmod (2 : Int) * (1031 : Int)) + (W ((W a).tdiv (4 : Int))).tmod
    (20 : Int))).toNat)) (setL (byteSV (madM (rowL codS (comF (rowL codS l.length fun i => codS.enc (l.getD i codS.dft))).length fun i => codS.enc ((comF (rowL codS
    l.length fun i => codS.enc (l.getD i codS.dft))).getD i codS.dft))) ((0 : Nat) + (W (W ((W ((W a).tdiv (2 : Int))).tmod (2 : Int) * (1031 : Int)) + (W ((W a).tdiv
    (4 : Int))).tmod (20 : Int))).toNat)) (0 : Nat) [SV.int IntKind.u8 (bits BinOp.xor IntKind.u8 (↑(List.getD (madM (rowL codS (comF (rowL codS l.length fun i => codS.enc
    (l.getD i codS.dft))).length fun i => codS.enc ((comF (rowL codS l.length fun i => codS.enc (l.getD i codS.dft))).getD i codS.dft))) ((0 : Nat) + (W (W ((W ((W a).tdiv
    (2 : Int))).tmod (2 : Int) * (1031 : Int)) + (W ((W a).tdiv (4 : Int))).tmod (20 : Int))).toNat) (0 : UInt8)).toNat) b)]) (byteSV (madM (rowL codS (comF (rowL codS
    l.length fun i => codS.enc (l.getD i codS.dft))).length fun i => codS.enc ((comF (rowL codS l.length fun i => codS.enc (l.getD i codS.dft))).getD i codS.dft))) i'))
    ((0 : Nat) + j)) = true) ∧ True ∧ (True ∧ True) ∧ True ∧ True ∧ ((curE (bytesOf (List.length (madM (rowL codS (comF (rowL codS l.length fun i => codS.enc (l.getD
    i codS.dft))).length fun i => codS.enc ((comF (rowL codS l.length fun i => codS.enc (l.getD i codS.dft))).getD i codS.dft)))) fun i => mergeL (decide ((0 : Nat)
    + i = (0 : Nat) + (W (W ((W ((W a).tdiv (2 : Int))).tmod (2 : Int) * (1031 : Int)) + (W ((W a).tdiv (4 : Int))).tmod (20 : Int))).toNat)) (setL (byteSV (madM (rowL
    codS (comF (rowL codS l.length fun i => codS.enc (l.getD i codS.dft))).length fun i => codS.enc ((comF (rowL codS l.length fun i => codS.enc (l.getD i codS.dft))).getD
    i codS.dft))) ((0 : Nat) + (W (W ((W ((W a).tdiv (2 : Int))).tmod (2 : Int) * (1031 : Int)) + (W ((W a).tdiv (4 : Int))).tmod (20 : Int))).toNat)) (0 : Nat) [SV.int
    IntKind.u8 (bits BinOp.xor IntKind.u8 (↑(List.getD (madM (rowL codS (comF (rowL codS l.length fun i => codS.enc (l.getD i codS.dft))).length fun i => codS.enc ((comF
    (rowL codS l.length fun i => codS.enc (l.getD i codS.dft))).getD i codS.dft))) ((0 : Nat) + (W (W ((W ((W a).tdiv (2 : Int))).tmod (2 : Int) * (1031 : Int)) + (W
    ((W a).tdiv (4 : Int))).tmod (20 : Int))).toNat) (0 : UInt8)).toNat) b)]) (byteSV (madM (rowL codS (comF (rowL codS l.length fun i => codS.enc (l.getD i codS.dft))).length
    fun i => codS.enc ((comF (rowL codS l.length fun i => codS.enc (l.getD i codS.dft))).getD i codS.dft))) ((0 : Nat) + i))) == (62 : Int)) = true → ((b != (0 : Int))
    = true → (True ∧ True) ∧ True ∧ True ∧ true = true ∧ True) ∧ ((b != (0 : Int)) = false → True ∧ True ∧ true = false ∧ True)) ∧ ((curE (bytesOf (List.length (madM
    (rowL codS (comF (rowL codS l.length fun i => codS.enc (l.getD i codS.dft))).length fun i => codS.enc ((comF (rowL codS l.length fun i => codS.enc (l.getD i codS.dft))).getD
    i codS.dft)))) fun i => mergeL (decide ((0 : Nat) + i = (0 : Nat) + (W (W ((W ((W a).tdiv (2 : Int))).tmod (2 : Int) * (1031 : Int)) + (W ((W a).tdiv (4 : Int))).tmod
    (20 : Int))).toNat)) (setL (byteSV (madM (rowL codS (comF (rowL codS l.length fun i => codS.enc (l.getD i codS.dft))).length fun i => codS.enc ((comF (rowL codS
    l.length fun i => codS.enc (l.getD i codS.dft))).getD i codS.dft))) ((0 : Nat) + (W (W ((W ((W a).tdiv (2 : Int))).tmod (2 : Int) * (1031 : Int)) + (W ((W a).tdiv
    (4 : Int))).tmod (20 : Int))).toNat)) (0 : Nat) [SV.int IntKind.u8 (bits BinOp.xor IntKind.u8 (↑(List.getD (madM (rowL codS (comF (rowL codS l.length fun i => codS.enc
    (l.getD i codS.dft))).length fun i => codS.enc ((comF (rowL codS l.length fun i => codS.enc (l.getD i codS.dft))).getD i codS.dft))) ((0 : Nat) + (W (W ((W ((W a).tdiv
    (2 : Int))).tmod (2 : Int) * (1031 : Int)) + (W ((W a).tdiv (4 : Int))).tmod (20 : Int))).toNat) (0 : UInt8)).toNat) b)]) (byteSV (madM (rowL codS (comF (rowL codS
    l.length fun i => codS.enc (l.getD i codS.dft))).length fun i => codS.enc ((comF (rowL codS l.length fun i => codS.enc (l.getD i codS.dft))).getD i codS.dft))) ((0
    : Nat) + i))) == (62 : Int)) = false → ((curE (bytesOf (List.length (madM (rowL codS (comF (rowL codS l.length fun i => codS.enc (l.getD i codS.dft))).length fun
    i => codS.enc ((comF (rowL codS l.length fun i => codS.enc (l.getD i codS.dft))).getD i codS.dft)))) fun i => mergeL (decide ((0 : Nat) + i = (0 : Nat) + (W (W ((W
    ((W a).tdiv (2 : Int))).tmod (2 : Int) * (1031 : Int)) + (W ((W a).tdiv (4 : Int))).tmod (20 : Int))).toNat)) (setL (byteSV (madM (rowL codS (comF (rowL codS l.length
    fun i => codS.enc (l.getD i codS.dft))).length fun i => codS.enc ((comF (rowL codS l.length fun i => codS.enc (l.getD i codS.dft))).getD i codS.dft))) ((0 : Nat)
    + (W (W ((W ((W a).tdiv (2 : Int))).tmod (2 : Int) * (1031 : Int)) + (W ((W a).tdiv (4 : Int))).tmod (20 : Int))).toNat)) (0 : Nat) [SV.int IntKind.u8 (bits BinOp.xor
    IntKind.u8 (↑(List.getD (madM (rowL codS (comF (rowL codS l.length fun i => codS.enc (l.getD i codS.dft))).length fun i => codS.enc ((comF (rowL codS l.length fun
    i => codS.enc (l.getD i codS.dft))).getD i codS.dft))) ((0 : Nat) + (W (W ((W ((W a).tdiv (2 : Int))).tmod (2 : Int) * (1031 : Int)) + (W ((W a).tdiv (4 : Int))).tmod
    (20 : Int))).toNat) (0 : UInt8)).toNat) b)]) (byteSV (madM (rowL codS (comF (rowL codS l.length fun i => codS.enc (l.getD i codS.dft))).length fun i => codS.enc
    ((comF (rowL codS l.length fun i => codS.enc (l.getD i codS.dft))).getD i codS.dft))) ((0 : Nat) + i))) == (0 : Int)) = true → ((curD (bytesOf (List.length (madM
    (rowL codS (comF (rowL codS l.length fun i => codS.enc (l.getD i codS.dft))).length fun i => codS.enc ((comF (rowL codS l.length fun i => codS.enc (l.getD i codS.dft))).getD
    i codS.dft)))) fun i => mergeL (decide ((0 : Nat) + i = (0 : Nat) + (W (W ((W ((W a).tdiv (2 : Int))).tmod (2 : Int) * (1031 : Int)) + (W ((W a).tdiv (4 : Int))).tmod
    (20 : Int))).toNat)) (setL (byteSV (madM (rowL codS (comF (rowL codS l.length fun i => codS.enc (l.getD i codS.dft))).length fun i => codS.enc ((comF (rowL codS
    l.length fun i => codS.enc (l.getD i codS.dft))).getD i codS.dft))) ((0 : Nat) + (W (W ((W ((W a).tdiv (2 : Int))).tmod (2 : Int) * (1031 : Int)) + (W ((W a).tdiv
    (4 : Int))).tmod (20 : Int))).toNat)) (0 : Nat) [SV.int IntKind.u8 (bits BinOp.xor IntKind.u8 (↑(List.getD (madM (rowL codS (comF (rowL codS l.length fun i => codS.enc
    (l.getD i codS.dft))).length fun i => codS.enc ((comF (rowL codS l.length fun i => codS.enc (l.getD i codS.dft))).getD i codS.dft))) ((0 : Nat) + (W (W ((W ((W a).tdiv
    (2 : Int))).tmod (2 : Int) * (1031 : Int)) + (W ((W a).tdiv (4 : Int))).tmod (20 : Int))).toNat) (0 : UInt8)).toNat) b)]) (byteSV (madM (rowL codS (comF (rowL codS
    l.length fun i => codS.enc (l.getD i codS.dft))).length fun i => codS.enc ((comF (rowL codS l.length fun i => codS.enc (l.getD i codS.dft))).getD i codS.dft))) ((0
    : Nat) + i))) == #[(102 : UInt8), (105 : UInt8), (114 : UInt8), (115 : UInt8), (116 : UInt8)].toList) = true → (True ∧ True) ∧ True ∧ True ∧ true = true ∧ True)
    ∧ ((curD (bytesOf (List.length (madM (rowL codS (comF (rowL codS l.length fun i => codS.enc (l.getD i codS.dft))).length fun i => codS.enc ((comF (rowL codS l.length
    fun i => codS.enc (l.getD i codS.dft))).getD i codS.dft)))) fun i => mergeL (decide ((0 : Nat) + i = (0 : Nat) + (W (W ((W ((W a).tdiv (2 : Int))).tmod (2 : Int)
    * (1031 : Int)) + (W ((W a).tdiv (4 : Int))).tmod (20 : Int))).toNat)) (setL (byteSV (madM (rowL codS (comF (rowL codS l.length fun i => codS.enc (l.getD i codS.dft))).length
    fun i => codS.enc ((comF (rowL codS l.length fun i => codS.enc (l.getD i codS.dft))).getD i codS.dft))) ((0 : Nat) + (W (W ((W ((W a).tdiv (2 : Int))).tmod (2 :
    Int) * (1031 : Int)) + (W ((W a).tdiv (4 : Int))).tmod (20 : Int))).toNat)) (0 : Nat) [SV.int IntKind.u8 (bits BinOp.xor IntKind.u8 (↑(List.getD (madM (rowL codS
    (comF (rowL codS l.length fun i => codS.enc (l.getD i codS.dft))).length fun i => codS.enc ((comF (rowL codS l.length fun i => codS.enc (l.getD i codS.dft))).getD
    i codS.dft))) ((0 : Nat) + (W (W ((W ((W a).tdiv (2 : Int))).tmod (2 : Int) * (1031 : Int)) + (W ((W a).tdiv (4 : Int))).tmod (20 : Int))).toNat) (0 : UInt8)).toNat)
    b)]) (byteSV (madM (rowL codS (comF (rowL codS l.length fun i => codS.enc (l.getD i codS.dft))).length fun i => codS.enc ((comF (rowL codS l.length fun i => codS.enc
    (l.getD i codS.dft))).getD i codS.dft))) ((0 : Nat) + i))) == #[(102 : UInt8), (105 : UInt8), (114 : UInt8), (115 : UInt8), (116 : UInt8)].toList) = false → ((b
    != (0 : Int)) = true → (decide (↑(comF (rowL codS l.length fun i => codS.enc (l.getD i codS.dft))).length > (0 : Int)) = true → ((curD (bytesOf (List.length (madM
    (rowL codS (comF (rowL codS l.length fun i => codS.enc (l.getD i codS.dft))).length fun i => codS.enc ((comF (rowL codS l.length fun i => codS.enc (l.getD i codS.dft))).getD
    i codS.dft)))) fun i => mergeL (decide ((0 : Nat) + i = (0 : Nat) + (W (W ((W ((W a).tdiv (2 : Int))).tmod (2 : Int) * (1031 : Int)) + (W ((W a).tdiv (4 : Int))).tmod
    (20 : Int))).toNat)) (setL (byteSV (madM (rowL codS (comF (rowL codS l.length fun i => codS.enc (l.getD i codS.dft))).length fun i => codS.enc ((comF (rowL codS
    l.length fun i => codS.enc (l.getD i codS.dft))).getD i codS.dft))) ((0 : Nat) + (W (W ((W ((W a).tdiv (2 : Int))).tmod (2 : Int) * (1031 : Int)) + (W ((W a).tdiv
    (4 : Int))).tmod (20 : Int))).toNat)) (0 : Nat) [SV.int IntKind.u8 (bits BinOp.xor IntKind.u8 (↑(List.getD (madM (rowL codS (comF (rowL codS l.length fun i => codS.enc
    (l.getD i codS.dft))).length fun i => codS.enc ((comF (rowL codS l.length fun i => codS.enc (l.getD i codS.dft))).getD i codS.dft))) ((0 : Nat) + (W (W ((W ((W a).tdiv
    (2 : Int))).tmod (2 : Int) * (1031 : Int)) + (W ((W a).tdiv (4 : Int))).tmod (20 : Int))).toNat) (0 : UInt8)).toNat) b)]) (byteSV (madM (rowL codS (comF (rowL codS
    l.length fun i => codS.enc (l.getD i codS.dft))).length fun i => codS.enc ((comF (rowL codS l.length fun i => codS.enc (l.getD i codS.dft))).getD i codS.dft))) ((0
    : Nat) + i))) == (comF (rowL codS l.length fun i => codS.enc (l.getD i codS.dft))).getD (W (↑(comF (rowL codS l.length fun i => codS.enc (l.getD i codS.dft))).length
    - (2 : Int))).toNat codS.dft) = true → (True ∧ True) ∧ True ∧ True ∧ true = true ∧ True) ∧ ((curD (bytesOf (List.length (madM (rowL codS (comF (rowL codS l.length
    fun i => codS.enc (l.getD i codS.dft))).length fun i => codS.enc ((comF (rowL codS l.length fun i => codS.enc (l.getD i codS.dft))).getD i codS.dft)))) fun i =>
    mergeL (decide ((0 : Nat) + i = (0 : Nat) + (W (W ((W ((W a).tdiv (2 : Int))).tmod (2 : Int) * (1031 : Int)) + (W ((W a).tdiv (4 : Int))).tmod (20 : Int))).toNat))
    (setL (byteSV (madM (rowL codS (comF (rowL codS l.length fun i => codS.enc (l.getD i codS.dft))).length fun i => codS.enc ((comF (rowL codS l.length fun i => codS.enc
    (l.getD i codS.dft))).getD i codS.dft))) ((0 : Nat) + (W (W ((W ((W a).tdiv (2 : Int))).tmod (2 : Int) * (1031 : Int)) + (W ((W a).tdiv (4 : Int))).tmod (20 : Int))).toNat))
    (0 : Nat) [SV.int IntKind.u8 (bits BinOp.xor IntKind.u8 (↑(List.getD (madM (rowL codS (comF (rowL codS l.length fun i => codS.enc (l.getD i codS.dft))).length fun
    i => codS.enc ((comF (rowL codS l.length fun i => codS.enc (l.getD i codS.dft))).getD i codS.dft))) ((0 : Nat) + (W (W ((W ((W a).tdiv (2 : Int))).tmod (2 : Int)
    * (1031 : Int)) + (W ((W a).tdiv (4 : Int))).tmod (20 : Int))).toNat) (0 : UInt8)).toNat) b)]) (byteSV (madM (rowL codS (comF (rowL codS l.length fun i => codS.enc
    (l.getD i codS.dft))).length fun i => codS.enc ((comF (rowL codS l.length fun i => codS.enc (l.getD i codS.dft))).getD i codS.dft))) ((0 : Nat) + i))) == (comF (rowL
    codS l.length fun i => codS.enc (l.getD i codS.dft))).getD (W (↑(comF (rowL codS l.length fun i => codS.enc (l.getD i codS.dft))).length - (2 : Int))).toNat codS.dft)
    = false → True ∧ True ∧ true = false ∧ True)) ∧ (decide (↑(comF (rowL codS l.length fun i => codS.enc (l.getD i codS.dft))).length > (0 : Int)) = false → True ∧
    True ∧ true = false ∧ True)) ∧ ((b != (0 : Int)) = false → True ∧ True ∧ true = false ∧ True))) ∧ ((curE (bytesOf (List.length (madM (rowL codS (comF (rowL codS
    l.length fun i => codS.enc (l.getD i codS.dft))).length fun i => codS.enc ((comF (rowL codS l.length fun i => codS.enc (l.getD i codS.dft))).getD i codS.dft))))
    fun i => mergeL (decide ((0 : Nat) + i = (0 : Nat) + (W (W ((W ((W a).tdiv (2 : Int))).tmod (2 : Int) * (1031 : Int)) + (W ((W a).tdiv (4 : Int))).tmod (20 : Int))).toNat))
    (setL (byteSV (madM (rowL codS (comF (rowL codS l.length fun i => codS.enc (l.getD i codS.dft))).length fun i => codS.enc ((comF (rowL codS l.length fun i => codS.enc
    (l.getD i codS.dft))).getD i codS.dft))) ((0 : Nat) + (W (W ((W ((W a).tdiv (2 : Int))).tmod (2 : Int) * (1031 : Int)) + (W ((W a).tdiv (4 : Int))).tmod (20 : Int))).toNat))
    (0 : Nat) [SV.int IntKind.u8 (bits BinOp.xor IntKind.u8 (↑(List.getD (madM (rowL codS (comF (rowL codS l.length fun i => codS.enc (l.getD i codS.dft))).length fun
    i => codS.enc ((comF (rowL codS l.length fun i => codS.enc (l.getD i codS.dft))).getD i codS.dft))) ((0 : Nat) + (W (W ((W ((W a).tdiv (2 : Int))).tmod (2 : Int)
    * (1031 : Int)) + (W ((W a).tdiv (4 : Int))).tmod (20 : Int))).toNat) (0 : UInt8)).toNat) b)]) (byteSV (madM (rowL codS (comF (rowL codS l.length fun i => codS.enc
    (l.getD i codS.dft))).length fun i => codS.enc ((comF (rowL codS l.length fun i => codS.enc (l.getD i codS.dft))).getD i codS.dft))) ((0 : Nat) + i))) == (0 : Int))
    = false → True ∧ True ∧ true = false ∧ True))) ∧ (decide (↑(comF (rowL codS l.length fun i => codS.enc (l.getD i codS.dft))).length > (1 : Int)) = false → (0 : Nat)
    + List.length (madM (rowL codS (comF (rowL codS l.length fun i => codS.enc (l.getD i codS.dft))).length fun i => codS.enc ((comF (rowL codS l.length fun i => codS.enc
    (l.getD i codS.dft))).getD i codS.dft))) ≤ List.length (madM (rowL codS (comF (rowL codS l.length fun i => codS.enc (l.getD i codS.dft))).length fun i => codS.enc
    ((comF (rowL codS l.length fun i => codS.enc (l.getD i codS.dft))).getD i codS.dft))) ∧ (∀ (j : Nat), j < List.length (madM (rowL codS (comF (rowL codS l.length
    fun i => codS.enc (l.getD i codS.dft))).length fun i => codS.enc ((comF (rowL codS l.length fun i => codS.enc (l.getD i codS.dft))).getD i codS.dft))) → isByte ((fun
    (i' : Nat) => mergeL (decide (i' = (0 : Nat) + (W (W ((W ((W a).tdiv (2 : Int))).tmod (2 : Int) * (1031 : Int)) + (W ((W a).tdiv (4 : Int))).tmod (20 : Int))).toNat))
    (setL (byteSV (madM (rowL codS (comF (rowL codS l.length fun i => codS.enc (l.getD i codS.dft))).length fun i => codS.enc ((comF (rowL codS l.length fun i => codS.enc
    (l.getD i codS.dft))).getD i codS.dft))) ((0 : Nat) + (W (W ((W ((W a).tdiv (2 : Int))).tmod (2 : Int) * (1031 : Int)) + (W ((W a).tdiv (4 : Int))).tmod (20 : Int))).toNat))
    (0 : Nat) [SV.int IntKind.u8 (bits BinOp.xor IntKind.u8 (↑(List.getD (madM (rowL codS (comF (rowL codS l.length fun i => codS.enc (l.getD i codS.dft))).length fun
    i => codS.enc ((comF (rowL codS l.length fun i => codS.enc (l.getD i codS.dft))).getD i codS.dft))) ((0 : Nat) + (W (W ((W ((W a).tdiv (2 : Int))).tmod (2 : Int)
    * (1031 : Int)) + (W ((W a).tdiv (4 : Int))).tmod (20 : Int))).toNat) (0 : UInt8)).toNat) b)]) (byteSV (madM (rowL codS (comF (rowL codS l.length fun i => codS.enc
    (l.getD i codS.dft))).length fun i => codS.enc ((comF (rowL codS l.length fun i => codS.enc (l.getD i codS.dft))).getD i codS.dft))) i')) ((0 : Nat) + j)) = true)
    ∧ True ∧ (True ∧ True) ∧ True ∧ True ∧ ((curE (bytesOf (List.length (madM (rowL codS (comF (rowL codS l.length fun i => codS.enc (l.getD i codS.dft))).length fun
    i => codS.enc ((comF (rowL codS l.length fun i => codS.enc (l.getD i codS.dft))).getD i codS.dft)))) fun i => mergeL (decide ((0 : Nat) + i = (0 : Nat) + (W (W ((W
    ((W a).tdiv (2 : Int))).tmod (2 : Int) * (1031 : Int)) + (W ((W a).tdiv (4 : Int))).tmod (20 : Int))).toNat)) (setL (byteSV (madM (rowL codS (comF (rowL codS l.length
    fun i => codS.enc (l.getD i codS.dft))).length fun i => codS.enc ((comF (rowL codS l.length fun i => codS.enc (l.getD i codS.dft))).getD i codS.dft))) ((0 : Nat)
    + (W (W ((W ((W a).tdiv (2 : Int))).tmod (2 : Int) * (1031 : Int)) + (W ((W a).tdiv (4 : Int))).tmod (20 : Int))).toNat)) (0 : Nat) [SV.int IntKind.u8 (bits BinOp.xor
    IntKind.u8 (↑(List.getD (madM (rowL codS (comF (rowL codS l.length fun i => codS.enc (l.getD i codS.dft))).length fun i => codS.enc ((comF (rowL codS l.length fun
    i => codS.enc (l.getD i codS.dft))).getD i codS.dft))) ((0 : Nat) + (W (W ((W ((W a).tdiv (2 : Int))).tmod (2 : Int) * (1031 : Int)) + (W ((W a).tdiv (4 : Int))).tmod
    (20 : Int))).toNat) (0 : UInt8)).toNat) b)]) (byteSV (madM (rowL codS (comF (rowL codS l.length fun i => codS.enc (l.getD i codS.dft))).length fun i => codS.enc
    ((comF (rowL codS l.length fun i => codS.enc (l.getD i codS.dft))).getD i codS.dft))) ((0 : Nat) + i))) == (62 : Int)) = true → ((b != (0 : Int)) = true → (True
    ∧ True) ∧ True ∧ True ∧ true = true ∧ True) ∧ ((b != (0 : Int)) = false → True ∧ True ∧ true = false ∧ True)) ∧ ((curE (bytesOf (List.length (madM (rowL codS (comF
    (rowL codS l.length fun i => codS.enc (l.getD i codS.dft))).length fun i => codS.enc ((comF (rowL codS l.length fun i => codS.enc (l.getD i codS.dft))).getD i codS.dft))))
    fun i => mergeL (decide ((0 : Nat) + i = (0 : Nat) + (W (W ((W ((W a).tdiv (2 : Int))).tmod (2 : Int) * (1031 : Int)) + (W ((W a).tdiv (4 : Int))).tmod (20 : Int))).toNat))
    (setL (byteSV (madM (rowL codS (comF (rowL codS l.length fun i => codS.enc (l.getD i codS.dft))).length fun i => codS.enc ((comF (rowL codS l.length fun i => codS.enc
    (l.getD i codS.dft))).getD i codS.dft))) ((0 : Nat) + (W (W ((W ((W a).tdiv (2 : Int))).tmod (2 : Int) * (1031 : Int)) + (W ((W a).tdiv (4 : Int))).tmod (20 : Int))).toNat))
    (0 : Nat) [SV.int IntKind.u8 (bits BinOp.xor IntKind.u8 (↑(List.getD (madM (rowL codS (comF (rowL codS l.length fun i => codS.enc (l.getD i codS.dft))).length fun
    i => codS.enc ((comF (rowL codS l.length fun i => codS.enc (l.getD i codS.dft))).getD i codS.dft))) ((0 : Nat) + (W (W ((W ((W a).tdiv (2 : Int))).tmod (2 : Int)
    * (1031 : Int)) + (W ((W a).tdiv (4 : Int))).tmod (20 : Int))).toNat) (0 : UInt8)).toNat) b)]) (byteSV (madM (rowL codS (comF (rowL codS l.length fun i => codS.enc
    (l.getD i codS.dft))).length fun i => codS.enc ((comF (rowL codS l.length fun i => codS.enc (l.getD i codS.dft))).getD i codS.dft))) ((0 : Nat) + i))) == (62 : Int))
    = false → ((curE (bytesOf (List.length (madM (rowL codS (comF (rowL codS l.length fun i => codS.enc (l.getD i codS.dft))).length fun i => codS.enc ((comF (rowL codS
    l.length fun i => codS.enc (l.getD i codS.dft))).getD i codS.dft)))) fun i => mergeL (decide ((0 : Nat) + i = (0 : Nat) + (W (W ((W ((W a).tdiv (2 : Int))).tmod
    (2 : Int) * (1031 : Int)) + (W ((W a).tdiv (4 : Int))).tmod (20 : Int))).toNat)) (setL (byteSV (madM (rowL codS (comF (rowL codS l.length fun i => codS.enc (l.getD
    i codS.dft))).length fun i => codS.enc ((comF (rowL codS l.length fun i => codS.enc (l.getD i codS.dft))).getD i codS.dft))) ((0 : Nat) + (W (W ((W ((W a).tdiv (2
    : Int))).tmod (2 : Int) * (1031 : Int)) + (W ((W a).tdiv (4 : Int))).tmod (20 : Int))).toNat)) (0 : Nat) [SV.int IntKind.u8 (bits BinOp.xor IntKind.u8 (↑(List.getD
    (madM (rowL codS (comF (rowL codS l.length fun i => codS.enc (l.getD i codS.dft))).length fun i => codS.enc ((comF (rowL codS l.length fun i => codS.enc (l.getD
    i codS.dft))).getD i codS.dft))) ((0 : Nat) + (W (W ((W ((W a).tdiv (2 : Int))).tmod (2 : Int) * (1031 : Int)) + (W ((W a).tdiv (4 : Int))).tmod (20 : Int))).toNat)
    (0 : UInt8)).toNat) b)]) (byteSV (madM (rowL codS (comF (rowL codS l.length fun i => codS.enc (l.getD i codS.dft))).length fun i => codS.enc ((comF (rowL codS l.length
    fun i => codS.enc (l.getD i codS.dft))).getD i codS.dft))) ((0 : Nat) + i))) == (0 : Int)) = true → ((curD (bytesOf (List.length (madM (rowL codS (comF (rowL codS
    l.length fun i => codS.enc (l.getD i codS.dft))).length fun i => codS.enc ((comF (rowL codS l.length fun i => codS.enc (l.getD i codS.dft))).getD i codS.dft))))
    fun i => mergeL (decide ((0 : Nat) + i = (0 : Nat) + (W (W ((W ((W a).tdiv (2 : Int))).tmod (2 : Int) * (1031 : Int)) + (W ((W a).tdiv (4 : Int))).tmod (20 : Int))).toNat))
    (setL (byteSV (madM (rowL codS (comF (rowL codS l.length fun i => codS.enc (l.getD i codS.dft))).length fun i => codS.enc ((comF (rowL codS l.length fun i => codS.enc
    (l.getD i codS.dft))).getD i codS.dft))) ((0 : Nat) + (W (W ((W ((W a).tdiv (2 : Int))).tmod (2 : Int) * (1031 : Int)) + (W ((W a).tdiv (4 : Int))).tmod (20 : Int))).toNat))
    (0 : Nat) [SV.int IntKind.u8 (bits BinOp.xor IntKind.u8 (↑(List.getD (madM (rowL codS (comF (rowL codS l.length fun i => codS.enc (l.getD i codS.dft))).length fun
    i => codS.enc ((comF (rowL codS l.length fun i => codS.enc (l.getD i codS.dft))).getD i codS.dft))) ((0 : Nat) + (W (W ((W ((W a).tdiv (2 : Int))).tmod (2 : Int)
    * (1031 : Int)) + (W ((W a).tdiv (4 : Int))).tmod (20 : Int))).toNat) (0 : UInt8)).toNat) b)]) (byteSV (madM (rowL codS (comF (rowL codS l.length fun i => codS.enc
    (l.getD i codS.dft))).length fun i => codS.enc ((comF (rowL codS l.length fun i => codS.enc (l.getD i codS.dft))).getD i codS.dft))) ((0 : Nat) + i))) == #[(102
    : UInt8), (105 : UInt8), (114 : UInt8), (115 : UInt8), (116 : UInt8)].toList) = true → (True ∧ True) ∧ True ∧ True ∧ true = true ∧ True) ∧ ((curD (bytesOf (List.length
    (madM (rowL codS (comF (rowL codS l.length fun i => codS.enc (l.getD i codS.dft))).length fun i => codS.enc ((comF (rowL codS l.length fun i => codS.enc (l.getD
    i codS.dft))).getD i codS.dft)))) fun i => mergeL (decide ((0 : Nat) + i = (0 : Nat) + (W (W ((W ((W a).tdiv (2 : Int))).tmod (2 : Int) * (1031 : Int)) + (W ((W
    a).tdiv (4 : Int))).tmod (20 : Int))).toNat)) (setL (byteSV (madM (rowL codS (comF (rowL codS l.length fun i => codS.enc (l.getD i codS.dft))).length fun i => codS.enc
    ((comF (rowL codS l.length fun i => codS.enc (l.getD i codS.dft))).getD i codS.dft))) ((0 : Nat) + (W (W ((W ((W a).tdiv (2 : Int))).tmod (2 : Int) * (1031 : Int))
    + (W ((W a).tdiv (4 : Int))).tmod (20 : Int))).toNat)) (0 : Nat) [SV.int IntKind.u8 (bits BinOp.xor IntKind.u8 (↑(List.getD (madM (rowL codS (comF (rowL codS l.length
    fun i => codS.enc (l.getD i codS.dft))).length fun i => codS.enc ((comF (rowL codS l.length fun i => codS.enc (l.getD i codS.dft))).getD i codS.dft))) ((0 : Nat)
    + (W (W ((W ((W a).tdiv (2 : Int))).tmod (2 : Int) * (1031 : Int)) + (W ((W a).tdiv (4 : Int))).tmod (20 : Int))).toNat) (0 : UInt8)).toNat) b)]) (byteSV (madM (rowL
    codS (comF (rowL codS l.length fun i => codS.enc (l.getD i codS.dft))).length fun i => codS.enc ((comF (rowL codS l.length fun i => codS.enc (l.getD i codS.dft))).getD
    i codS.dft))) ((0 : Nat) + i))) == #[(102 : UInt8), (105 : UInt8), (114 : UInt8), (115 : UInt8), (116 : UInt8)].toList) = false → ((b != (0 : Int)) = true → (decide
    (↑(comF (rowL codS l.length fun i => codS.enc (l.getD i codS.dft))).length > (0 : Int)) = true → ((curD (bytesOf (List.length (madM (rowL codS (comF (rowL codS l.length
    fun i => codS.enc (l.getD i codS.dft))).length fun i => codS.enc ((comF (rowL codS l.length fun i => codS.enc (l.getD i codS.dft))).getD i codS.dft)))) fun i =>
    mergeL (decide ((0 : Nat) + i = (0 : Nat) + (W (W ((W ((W a).tdiv (2 : Int))).tmod (2 : Int) * (1031 : Int)) + (W ((W a).tdiv (4 : Int))).tmod (20 : Int))).toNat))
    (setL (byteSV (madM (rowL codS (comF (rowL codS l.length fun i => codS.enc (l.getD i codS.dft))).length fun i => codS.enc ((comF (rowL codS l.length fun i => codS.enc
    (l.getD i codS.dft))).getD i codS.dft))) ((0 : Nat) + (W (W ((W ((W a).tdiv (2 : Int))).tmod (2 : Int) * (1031 : Int)) + (W ((W a).tdiv (4 : Int))).tmod (20 : Int))).toNat))
    (0 : Nat) [SV.int IntKind.u8 (bits BinOp.xor IntKind.u8 (↑(List.getD (madM (rowL codS (comF (rowL codS l.length fun i => codS.enc (l.getD i codS.dft))).length fun
    i => codS.enc ((comF (rowL codS l.length fun i => codS.enc (l.getD i codS.dft))).getD i codS.dft))) ((0 : Nat) + (W (W ((W ((W a).tdiv (2 : Int))).tmod (2 : Int)
    * (1031 : Int)) + (W ((W a).tdiv (4 : Int))).tmod (20 : Int))).toNat) (0 : UInt8)).toNat) b)]) (byteSV (madM (rowL codS (comF (rowL codS l.length fun i => codS.enc
    (l.getD i codS.dft))).length fun i => codS.enc ((comF (rowL codS l.length fun i => codS.enc (l.getD i codS.dft))).getD i codS.dft))) ((0 : Nat) + i))) == #[(102
    : UInt8), (105 : UInt8), (114 : UInt8), (115 : UInt8), (116 : UInt8)].toList) = true → (True ∧ True) ∧ True ∧ True ∧ true = true ∧ True) ∧ ((curD (bytesOf (List.length
    (madM (rowL codS (comF (rowL codS l.length fun i => codS.enc (l.getD i codS.dft))).length fun i => codS.enc ((comF (rowL codS l.length fun i => codS.enc (l.getD
    i codS.dft))).getD i codS.dft)))) fun i => mergeL (decide ((0 : Nat) + i = (0 : Nat) + (W (W ((W ((W a).tdiv (2 : Int))).tmod (2 : Int) * (1031 : Int)) + (W ((W
    a).tdiv (4 : Int))).tmod (20 : Int))).toNat)) (setL (byteSV (madM (rowL codS (comF (rowL codS l.length fun i => codS.enc (l.getD i codS.dft))).length fun i => codS.enc
    ((comF (rowL codS l.length fun i => codS.enc (l.getD i codS.dft))).getD i codS.dft))) ((0 : Nat) + (W (W ((W ((W a).tdiv (2 : Int))).tmod (2 : Int) * (1031 : Int))
    + (W ((W a).tdiv (4 : Int))).tmod (20 : Int))).toNat)) (0 : Nat) [SV.int IntKind.u8 (bits BinOp.xor IntKind.u8 (↑(List.getD (madM (rowL codS (comF (rowL codS l.length
    fun i => codS.enc (l.getD i codS.dft))).length fun i => codS.enc ((comF (rowL codS l.length fun i => codS.enc (l.getD i codS.dft))).getD i codS.dft))) ((0 : Nat)
    + (W (W ((W ((W a).tdiv (2 : Int))).tmod (2 : Int) * (1031 : Int)) + (W ((W a).tdiv (4 : Int))).tmod (20 : Int))).toNat) (0 : UInt8)).toNat) b)]) (byteSV (madM (rowL
    codS (comF (rowL codS l.length fun i => codS.enc (l.getD i codS.dft))).length fun i => codS.enc ((comF (rowL codS l.length fun i => codS.enc (l.getD i codS.dft))).getD
    i codS.dft))) ((0 : Nat) + i))) == #[(102 : UInt8), (105 : UInt8), (114 : UInt8), (115 : UInt8), (116 : UInt8)].toList) = false → True ∧ True ∧ true = false ∧ True))
    ∧ (decide (↑(comF (rowL codS l.length fun i => codS.enc (l.getD i codS.dft))).length > (0 : Int)) = false → True ∧ True ∧ true = false ∧ True)) ∧ ((b != (0 : Int))
    = false → True ∧ True ∧ true = false ∧ True))) ∧ ((curE (bytesOf (List.length (madM (rowL codS (comF (rowL codS l.length fun i => codS.enc (l.getD i codS.dft))).length
    fun i => codS.enc ((comF (rowL codS l.length fun i => codS.enc (l.getD i codS.dft))).getD i codS.dft)))) fun i => mergeL (decide ((0 : Nat) + i = (0 : Nat) + (W
    (W ((W ((W a).tdiv (2 : Int))).tmod (2 : Int) * (1031 : Int)) + (W ((W a).tdiv (4 : Int))).tmod (20 : Int))).toNat)) (setL (byteSV (madM (rowL codS (comF (rowL codS
    l.length fun i => codS.enc (l.getD i codS.dft))).length fun i => codS.enc ((comF (rowL codS l.length fun i => codS.enc (l.getD i codS.dft))).getD i codS.dft))) ((0
    : Nat) + (W (W ((W ((W a).tdiv (2 : Int))).tmod (2 : Int) * (1031 : Int)) + (W ((W a).tdiv (4 : Int))).tmod (20 : Int))).toNat)) (0 : Nat) [SV.int IntKind.u8 (bits
    BinOp.xor IntKind.u8 (↑(List.getD (madM (rowL codS (comF (rowL codS l.length fun i => codS.enc (l.getD i codS.dft))).length fun i => codS.enc ((comF (rowL codS l.length
    fun i => codS.enc (l.getD i codS.dft))).getD i codS.dft))) ((0 : Nat) + (W (W ((W ((W a).tdiv (2 : Int))).tmod (2 : Int) * (1031 : Int)) + (W ((W a).tdiv (4 : Int))).tmod
    (20 : Int))).toNat) (0 : UInt8)).toNat) b)]) (byteSV (madM (rowL codS (comF (rowL codS l.length fun i => codS.enc (l.getD i codS.dft))).length fun i => codS.enc
    ((comF (rowL codS l.length fun i => codS.enc (l.getD i codS.dft))).getD i codS.dft))) ((0 : Nat) + i))) == (0 : Int)) = false → True ∧ True ∧ true = false ∧ True)))))
    ∧ ((a.tmod (2 : Int) == (0 : Int)) = false → ((0 : Int) ≤ (W a).tmod ↑(List.length (madM (rowL codS (comF (rowL codS l.length fun i => codS.enc (l.getD i codS.dft))).length
    fun i => codS.enc ((comF (rowL codS l.length fun i => codS.enc (l.getD i codS.dft))).getD i codS.dft)))) ∧ (W a).tmod ↑(List.length (madM (rowL codS (comF (rowL
    codS l.length fun i => codS.enc (l.getD i codS.dft))).length fun i => codS.enc ((comF (rowL codS l.length fun i => codS.enc (l.getD i codS.dft))).getD i codS.dft))))
    < ↑(List.length (madM (rowL codS (comF (rowL codS l.length fun i => codS.enc (l.getD i codS.dft))).length fun i => codS.enc ((comF (rowL codS l.length fun i => codS.enc
    (l.getD i codS.dft))).getD i codS.dft))))) ∧ (0 : Nat) + ((W a).tmod ↑(List.length (madM (rowL codS (comF (rowL codS l.length fun i => codS.enc (l.getD i codS.dft))).length
    fun i => codS.enc ((comF (rowL codS l.length fun i => codS.enc (l.getD i codS.dft))).getD i codS.dft))))).toNat < List.length (madM (rowL codS (comF (rowL codS l.length
    fun i => codS.enc (l.getD i codS.dft))).length fun i => codS.enc ((comF (rowL codS l.length fun i => codS.enc (l.getD i codS.dft))).getD i codS.dft))) ∧ ((0 : Int)
    ≤ (W a).tmod ↑(List.length (madM (rowL codS (comF (rowL codS l.length fun i => codS.enc (l.getD i codS.dft))).length fun i => codS.enc ((comF (rowL codS l.length
    fun i => codS.enc (l.getD i codS.dft))).getD i codS.dft)))) ∧ (W a).tmod ↑(List.length (madM (rowL codS (comF (rowL codS l.length fun i => codS.enc (l.getD i codS.dft))).length
    fun i => codS.enc ((comF (rowL codS l.length fun i => codS.enc (l.getD i codS.dft))).getD i codS.dft)))) < ↑(List.length (madM (rowL codS (comF (rowL codS l.length
    fun i => codS.enc (l.getD i codS.dft))).length fun i => codS.enc ((comF (rowL codS l.length fun i => codS.enc (l.getD i codS.dft))).getD i codS.dft))))) ∧ (0 : Nat)
    + ((W a).tmod ↑(List.length (madM (rowL codS (comF (rowL codS l.length fun i => codS.enc (l.getD i codS.dft))).length fun i => codS.enc ((comF (rowL codS l.length
    fun i => codS.enc (l.getD i codS.dft))).getD i codS.dft))))).toNat < List.length (madM (rowL codS (comF (rowL codS l.length fun i => codS.enc (l.getD i codS.dft))).length
    fun i => codS.enc ((comF (rowL codS l.length fun i => codS.enc (l.getD i codS.dft))).getD i codS.dft))) ∧ True ∧ True ∧ True ∧ (decide (↑(comF (rowL codS l.length
    fun i => codS.enc (l.getD i codS.dft))).length > (0 : Int)) = true → ((0 : Int) ≤ W (↑(comF (rowL codS l.length fun i => codS.enc (l.getD i codS.dft))).length -
    (1 : Int)) ∧ W (↑(comF (rowL codS l.length fun i => codS.enc (l.getD i codS.dft))).length - (1 : Int)) < ↑(comF (rowL codS l.length fun i => codS.enc (l.getD i codS.dft))).length)
    ∧ True ∧ True ∧ (decide (↑(comF (rowL codS l.length fun i => codS.enc (l.getD i codS.dft))).length > (1 : Int)) = true → ((0 : Int) ≤ W (↑(comF (rowL codS l.length
    fun i => codS.enc (l.getD i codS.dft))).length - (2 : Int)) ∧ W (↑(comF (rowL codS l.length fun i => codS.enc (l.getD i codS.dft))).length - (2 : Int)) < ↑(comF
    (rowL codS l.length fun i => codS.enc (l.getD i codS.dft))).length) ∧ True ∧ (0 : Nat) + List.length (madM (rowL codS (comF (rowL codS l.length fun i => codS.enc
    (l.getD i codS.dft))).length fun i => codS.enc ((comF (rowL codS l.length fun i => codS.enc (l.getD i codS.dft))).getD i codS.dft))) ≤ List.length (madM (rowL codS
    (comF (rowL codS l.length fun i => codS.enc (l.getD i codS.dft))).length fun i => codS.enc ((comF (rowL codS l.length fun i => codS.enc (l.getD i codS.dft))).getD
    i codS.dft))) ∧ (∀ (j : Nat), j < List.length (madM (rowL codS (comF (rowL codS l.length fun i => codS.enc (l.getD i codS.dft))).length fun i => codS.enc ((comF
    (rowL codS l.length fun i => codS.enc (l.getD i codS.dft))).getD i codS.dft))) → isByte ((fun (i' : Nat) => mergeL (decide (i' = (0 : Nat) + ((W a).tmod ↑(List.length
    (madM (rowL codS (comF (rowL codS l.length fun i => codS.enc (l.getD i codS.dft))).length fun i => codS.enc ((comF (rowL codS l.length fun i => codS.enc (l.getD
    i codS.dft))).getD i codS.dft))))).toNat)) (setL (byteSV (madM (rowL codS (comF (rowL codS l.length fun i => codS.enc (l.getD i codS.dft))).length fun i => codS.enc
    ((comF (rowL codS l.length fun i => codS.enc (l.getD i codS.dft))).getD i codS.dft))) ((0 : Nat) + ((W a).tmod ↑(List.length (madM (rowL codS (comF (rowL codS l.length
    fun i => codS.enc (l.getD i codS.dft))).length fun i => codS.enc ((comF (rowL codS l.length fun i => codS.enc (l.getD i codS.dft))).getD i codS.dft))))).toNat))
    (0 : Nat) [SV.int IntKind.u8 (bits BinOp.xor IntKind.u8 (↑(List.getD (madM (rowL codS (comF (rowL codS l.length fun i => codS.enc (l.getD i codS.dft))).length fun
    i => codS.enc ((comF (rowL codS l.length fun i => codS.enc (l.getD i codS.dft))).getD i codS.dft))) ((0 : Nat) + ((W a).tmod ↑(List.length (madM (rowL codS (comF
    (rowL codS l.length fun i => codS.enc (l.getD i codS.dft))).length fun i => codS.enc ((comF (rowL codS l.length fun i => codS.enc (l.getD i codS.dft))).getD i codS.dft))))).toNat)
    (0 : UInt8)).toNat) b)]) (byteSV (madM (rowL codS (comF (rowL codS l.length fun i => codS.enc (l.getD i codS.dft))).length fun i => codS.enc ((comF (rowL codS l.length
    fun i => codS.enc (l.getD i codS.dft))).getD i codS.dft))) i')) ((0 : Nat) + j)) = true) ∧ True ∧ (True ∧ True) ∧ True ∧ True ∧ ((curE (bytesOf (List.length (madM
    (rowL codS (comF (rowL codS l.length fun i => codS.enc (l.getD i codS.dft))).length fun i => codS.enc ((comF (rowL codS l.length fun i => codS.enc (l.getD i codS.dft))).getD
    i codS.dft)))) fun i => mergeL (decide ((0 : Nat) + i = (0 : Nat) + ((W a).tmod ↑(List.length (madM (rowL codS (comF (rowL codS l.length fun i => codS.enc (l.getD
    i codS.dft))).length fun i => codS.enc ((comF (rowL codS l.length fun i => codS.enc (l.getD i codS.dft))).getD i codS.dft))))).toNat)) (setL (byteSV (madM (rowL
    codS (comF (rowL codS l.length fun i => codS.enc (l.getD i codS.dft))).length fun i => codS.enc ((comF (rowL codS l.length fun i => codS.enc (l.getD i codS.dft))).getD
    i codS.dft))) ((0 : Nat) + ((W a).tmod ↑(List.length (madM (rowL codS (comF (rowL codS l.length fun i => codS.enc (l.getD i codS.dft))).length fun i => codS.enc
    ((comF (rowL codS l.length fun i => codS.enc (l.getD i codS.dft))).getD i codS.dft))))).toNat)) (0 : Nat) [SV.int IntKind.u8 (bits BinOp.xor IntKind.u8 (↑(List.getD
    (madM (rowL codS (comF (rowL codS l.length fun i => codS.enc (l.getD i codS.dft))).length fun i => codS.enc ((comF (rowL codS l.length fun i => codS.enc (l.getD
    i codS.dft))).getD i codS.dft))) ((0 : Nat) + ((W a).tmod ↑(List.length (madM (rowL codS (comF (rowL codS l.length fun i => codS.enc (l.getD i codS.dft))).length
    fun i => codS.enc ((comF (rowL codS l.length fun i => codS.enc (l.getD i codS.dft))).getD i codS.dft))))).toNat) (0 : UInt8)).toNat) b)]) (byteSV (madM (rowL codS
    (comF (rowL codS l.length fun i => codS.enc (l.getD i codS.dft))).length fun i => codS.enc ((comF (rowL codS l.length fun i => codS.enc (l.getD i codS.dft))).getD
    i codS.dft))) ((0 : Nat) + i))) == (62 : Int)) = true → ((b != (0 : Int)) = true → (True ∧ True) ∧ True ∧ True ∧ true = true ∧ True) ∧ ((b != (0 : Int)) = false
    → True ∧ True ∧ true = false ∧ True)) ∧ ((curE (bytesOf (List.length (madM (rowL codS (comF (rowL codS l.length fun i => codS.enc (l.getD i codS.dft))).length fun
    i => codS.enc ((comF (rowL codS l.length fun i => codS.enc (l.getD i codS.dft))).getD i codS.dft)))) fun i => mergeL (decide ((0 : Nat) + i = (0 : Nat) + ((W a).tmod
    ↑(List.length (madM (rowL codS (comF (rowL codS l.length fun i => codS.enc (l.getD i codS.dft))).length fun i => codS.enc ((comF (rowL codS l.length fun i => codS.enc
    (l.getD i codS.dft))).getD i codS.dft))))).toNat)) (setL (byteSV (madM (rowL codS (comF (rowL codS l.length fun i => codS.enc (l.getD i codS.dft))).length fun i
    => codS.enc ((comF (rowL codS l.length fun i => codS.enc (l.getD i codS.dft))).getD i codS.dft))) ((0 : Nat) + ((W a).tmod ↑(List.length (madM (rowL codS (comF (rowL
    codS l.length fun i => codS.enc (l.getD i codS.dft))).length fun i => codS.enc ((comF (rowL codS l.length fun i => codS.enc (l.getD i codS.dft))).getD i codS.dft))))).toNat))
    (0 : Nat) [SV.int IntKind.u8 (bits BinOp.xor IntKind.u8 (↑(List.getD (madM (rowL codS (comF (rowL codS l.length fun i => codS.enc (l.getD i codS.dft))).length fun
    i => codS.enc ((comF (rowL codS l.length fun i => codS.enc (l.getD i codS.dft))).getD i codS.dft))) ((0 : Nat) + ((W a).tmod ↑(List.length (madM (rowL codS (comF
    (rowL codS l.length fun i => codS.enc (l.getD i codS.dft))).length fun i => codS.enc ((comF (rowL codS l.length fun i => codS.enc (l.getD i codS.dft))).getD i codS.dft))))).toNat)
    (0 : UInt8)).toNat) b)]) (byteSV (madM (rowL codS (comF (rowL codS l.length fun i => codS.enc (l.getD i codS.dft))).length fun i => codS.enc ((comF (rowL codS l.length
    fun i => codS.enc (l.getD i codS.dft))).getD i codS.dft))) ((0 : Nat) + i))) == (62 : Int)) = false → ((curE (bytesOf (List.length (madM (rowL codS (comF (rowL codS
    l.length fun i => codS.enc (l.getD i codS.dft))).length fun i => codS.enc ((comF (rowL codS l.length fun i => codS.enc (l.getD i codS.dft))).getD i codS.dft))))
    fun i => mergeL (decide ((0 : Nat) + i = (0 : Nat) + ((W a).tmod ↑(List.length (madM (rowL codS (comF (rowL codS l.length fun i => codS.enc (l.getD i codS.dft))).length
    fun i => codS.enc ((comF (rowL codS l.length fun i => codS.enc (l.getD i codS.dft))).getD i codS.dft))))).toNat)) (setL (byteSV (madM (rowL codS (comF (rowL codS
    l.length fun i => codS.enc (l.getD i codS.dft))).length fun i => codS.enc ((comF (rowL codS l.length fun i => codS.enc (l.getD i codS.dft))).getD i codS.dft))) ((0
    : Nat) + ((W a).tmod ↑(List.length (madM (rowL codS (comF (rowL codS l.length fun i => codS.enc (l.getD i codS.dft))).length fun i => codS.enc ((comF (rowL codS
    l.length fun i => codS.enc (l.getD i codS.dft))).getD i codS.dft))))).toNat)) (0 : Nat) [SV.int IntKind.u8 (bits BinOp.xor IntKind.u8 (↑(List.getD (madM (rowL codS
    (comF (rowL codS l.length fun i => codS.enc (l.getD i codS.dft))).length fun i => codS.enc ((comF (rowL codS l.length fun i => codS.enc (l.getD i codS.dft))).getD
    i codS.dft))) ((0 : Nat) + ((W a).tmod ↑(List.length (madM (rowL codS (comF (rowL codS l.length fun i => codS.enc (l.getD i codS.dft))).length fun i => codS.enc
    ((comF (rowL codS l.length fun i => codS.enc (l.getD i codS.dft))).getD i codS.dft))))).toNat) (0 : UInt8)).toNat) b)]) (byteSV (madM (rowL codS (comF (rowL codS
    l.length fun i => codS.enc (l.getD i codS.dft))).length fun i => codS.enc ((comF (rowL codS l.length fun i => codS.enc (l.getD i codS.dft))).getD i codS.dft))) ((0
    : Nat) + i))) == (0 : Int)) = true → ((curD (bytesOf (List.length (madM (rowL codS (comF (rowL codS l.length fun i => codS.enc (l.getD i codS.dft))).length fun i
    => codS.enc ((comF (rowL codS l.length fun i => codS.enc (l.getD i codS.dft))).getD i codS.dft)))) fun i => mergeL (decide ((0 : Nat) + i = (0 : Nat) + ((W a).tmod
    ↑(List.length (madM (rowL codS (comF (rowL codS l.length fun i => codS.enc (l.getD i codS.dft))).length fun i => codS.enc ((comF (rowL codS l.length fun i => codS.enc
    (l.getD i codS.dft))).getD i codS.dft))))).toNat)) (setL (byteSV (madM (rowL codS (comF (rowL codS l.length fun i => codS.enc (l.getD i codS.dft))).length fun i
    => codS.enc ((comF (rowL codS l.length fun i => codS.enc (l.getD i codS.dft))).getD i codS.dft))) ((0 : Nat) + ((W a).tmod ↑(List.length (madM (rowL codS (comF (rowL
    codS l.length fun i => codS.enc (l.getD i codS.dft))).length fun i => codS.enc ((comF (rowL codS l.length fun i => codS.enc (l.getD i codS.dft))).getD i codS.dft))))).toNat))
    (0 : Nat) [SV.int IntKind.u8 (bits BinOp.xor IntKind.u8 (↑(List.getD (madM (rowL codS (comF (rowL codS l.length fun i => codS.enc (l.getD i codS.dft))).length fun
    i => codS.enc ((comF (rowL codS l.length fun i => codS.enc (l.getD i codS.dft))).getD i codS.dft))) ((0 : Nat) + ((W a).tmod ↑(List.length (madM (rowL codS (comF
    (rowL codS l.length fun i => codS.enc (l.getD i codS.dft))).length fun i => codS.enc ((comF (rowL codS l.length fun i => codS.enc (l.getD i codS.dft))).getD i codS.dft))))).toNat)
    (0 : UInt8)).toNat) b)]) (byteSV (madM (rowL codS (comF (rowL codS l.length fun i => codS.enc (l.getD i codS.dft))).length fun i => codS.enc ((comF (rowL codS l.length
    fun i => codS.enc (l.getD i codS.dft))).getD i codS.dft))) ((0 : Nat) + i))) == (comF (rowL codS l.length fun i => codS.enc (l.getD i codS.dft))).getD (W (↑(comF
    (rowL codS l.length fun i => codS.enc (l.getD i codS.dft))).length - (1 : Int))).toNat codS.dft) = true → (True ∧ True) ∧ True ∧ True ∧ true = true ∧ True) ∧ ((curD
    (bytesOf (List.length (madM (rowL codS (comF (rowL codS l.length fun i => codS.enc (l.getD i codS.dft))).length fun i => codS.enc ((comF (rowL codS l.length fun
    i => codS.enc (l.getD i codS.dft))).getD i codS.dft)))) fun i => mergeL (decide ((0 : Nat) + i = (0 : Nat) + ((W a).tmod ↑(List.length (madM (rowL codS (comF (rowL
    codS l.length fun i => codS.enc (l.getD i codS.dft))).length fun i => codS.enc ((comF (rowL codS l.length fun i => codS.enc (l.getD i codS.dft))).getD i codS.dft))))).toNat))
    (setL (byteSV (madM (rowL codS (comF (rowL codS l.length fun i => codS.enc (l.getD i codS.dft))).length fun i => codS.enc ((comF (rowL codS l.length fun i => codS.enc
    (l.getD i codS.dft))).getD i codS.dft))) ((0 : Nat) + ((W a).tmod ↑(List.length (madM (rowL codS (comF (rowL codS l.length fun i => codS.enc (l.getD i codS.dft))).length
    fun i => codS.enc ((comF (rowL codS l.length fun i => codS.enc (l.getD i codS.dft))).getD i codS.dft))))).toNat)) (0 : Nat) [SV.int IntKind.u8 (bits BinOp.xor IntKind.u8
    (↑(List.getD (madM (rowL codS (comF (rowL codS l.length fun i => codS.enc (l.getD i codS.dft))).length fun i => codS.enc ((comF (rowL codS l.length fun i => codS.enc
    (l.getD i codS.dft))).getD i codS.dft))) ((0 : Nat) + ((W a).tmod ↑(List.length (madM (rowL codS (comF (rowL codS l.length fun i => codS.enc (l.getD i codS.dft))).length
    fun i => codS.enc ((comF (rowL codS l.length fun i => codS.enc (l.getD i codS.dft))).getD i codS.dft))))).toNat) (0 : UInt8)).toNat) b)]) (byteSV (madM (rowL codS
    (comF (rowL codS l.length fun i => codS.enc (l.getD i codS.dft))).length fun i => codS.enc ((comF (rowL codS l.length fun i => codS.enc (l.getD i codS.dft))).getD
    i codS.dft))) ((0 : Nat) + i))) == (comF (rowL codS l.length fun i => codS.enc (l.getD i codS.dft))).getD (W (↑(comF (rowL codS l.length fun i => codS.enc (l.getD
    i codS.dft))).length - (1 : Int))).toNat codS.dft) = false → ((b != (0 : Int)) = true → (decide (↑(comF (rowL codS l.length fun i => codS.enc (l.getD i codS.dft))).length
    > (0 : Int)) = true → ((curD (bytesOf (List.length (madM (rowL codS (comF (rowL codS l.length fun i => codS.enc (l.getD i codS.dft))).length fun i => codS.enc ((comF
    (rowL codS l.length fun i => codS.enc (l.getD i codS.dft))).getD i codS.dft)))) fun i => mergeL (decide ((0 : Nat) + i = (0 : Nat) + ((W a).tmod ↑(List.length (madM
    (rowL codS (comF (rowL codS l.length fun i => codS.enc (l.getD i codS.dft))).length fun i => codS.enc ((comF (rowL codS l.length fun i => codS.enc (l.getD i codS.dft))).getD
    i codS.dft))))).toNat)) (setL (byteSV (madM (rowL codS (comF (rowL codS l.length fun i => codS.enc (l.getD i codS.dft))).length fun i => codS.enc ((comF (rowL codS
    l.length fun i => codS.enc (l.getD i codS.dft))).getD i codS.dft))) ((0 : Nat) + ((W a).tmod ↑(List.length (madM (rowL codS (comF (rowL codS l.length fun i => codS.enc
    (l.getD i codS.dft))).length fun i => codS.enc ((comF (rowL codS l.length fun i => codS.enc (l.getD i codS.dft))).getD i codS.dft))))).toNat)) (0 : Nat) [SV.int
    IntKind.u8 (bits BinOp.xor IntKind.u8 (↑(List.getD (madM (rowL codS (comF (rowL codS l.length fun i => codS.enc (l.getD i codS.dft))).length fun i => codS.enc ((comF
    (rowL codS l.length fun i => codS.enc (l.getD i codS.dft))).getD i codS.dft))) ((0 : Nat) + ((W a).tmod ↑(List.length (madM (rowL codS (comF (rowL codS l.length
    fun i => codS.enc (l.getD i codS.dft))).length fun i => codS.enc ((comF (rowL codS l.length fun i => codS.enc (l.getD i codS.dft))).getD i codS.dft))))).toNat) (0
    : UInt8)).toNat) b)]) (byteSV (madM (rowL codS (comF (rowL codS l.length fun i => codS.enc (l.getD i codS.dft))).length fun i => codS.enc ((comF (rowL codS l.length
    fun i => codS.enc (l.getD i codS.dft))).getD i codS.dft))) ((0 : Nat) + i))) == (comF (rowL codS l.length fun i => codS.enc (l.getD i codS.dft))).getD (W (↑(comF
    (rowL codS l.length fun i => codS.enc (l.getD i codS.dft))).length - (2 : Int))).toNat codS.dft) = true → (True ∧ True) ∧ True ∧ True ∧ true = true ∧ True) ∧ ((curD
    (bytesOf (List.length (madM (rowL codS (comF (rowL codS l.length fun i => codS.enc (l.getD i codS.dft))).length fun i => codS.enc ((comF (rowL codS l.length fun
    i => codS.enc (l.getD i codS.dft))).getD i codS.dft)))) fun i => mergeL (decide ((0 : Nat) + i = (0 : Nat) + ((W a).tmod ↑(List.length (madM (rowL codS (comF (rowL
    codS l.length fun i => codS.enc (l.getD i codS.dft))).length fun i => codS.enc ((comF (rowL codS l.length fun i => codS.enc (l.getD i codS.dft))).getD i codS.dft))))).toNat))
    (setL (byteSV (madM (rowL codS (comF (rowL codS l.length fun i => codS.enc (l.getD i codS.dft))).length fun i => codS.enc ((comF (rowL codS l.length fun i => codS.enc
    (l.getD i codS.dft))).getD i codS.dft))) ((0 : Nat) + ((W a).tmod ↑(List.length (madM (rowL codS (comF (rowL codS l.length fun i => codS.enc (l.getD i codS.dft))).length
    fun i => codS.enc ((comF (rowL codS l.length fun i => codS.enc (l.getD i codS.dft))).getD i codS.dft))))).toNat)) (0 : Nat) [SV.int IntKind.u8 (bits BinOp.xor IntKind.u8
    (↑(List.getD (madM (rowL codS (comF (rowL codS l.length fun i => codS.enc (l.getD i codS.dft))).length fun i => codS.enc ((comF (rowL codS l.length fun i => codS.enc
    (l.getD i codS.dft))).getD i codS.dft))) ((0 : Nat) + ((W a).tmod ↑(List.length (madM (rowL codS (comF (rowL codS l.length fun i => codS.enc (l.getD i codS.dft))).length
    fun i => codS.enc ((comF (rowL codS l.length fun i => codS.enc (l.getD i codS.dft))).getD i codS.dft))))).toNat) (0 : UInt8)).toNat) b)]) (byteSV (madM (rowL codS
    (comF (rowL codS l.length fun i => codS.enc (l.getD i codS.dft))).length fun i => codS.enc ((comF (rowL codS l.length fun i => codS.enc (l.getD i codS.dft))).getD
    i codS.dft))) ((0 : Nat) + i))) == (comF (rowL codS l.length fun i => codS.enc (l.getD i codS.dft))).getD (W (↑(comF (rowL codS l.length fun i => codS.enc (l.getD
    i codS.dft))).length - (2 : Int))).toNat codS.dft) = false → True ∧ True ∧ true = false ∧ True)) ∧ (decide (↑(comF (rowL codS l.length fun i => codS.enc (l.getD
    i codS.dft))).length > (0 : Int)) = false → True ∧ True ∧ true = false ∧ True)) ∧ ((b != (0 : Int)) = false → True ∧ True ∧ true = false ∧ True))) ∧ ((curE (bytesOf
    (List.length (madM (rowL codS (comF (rowL codS l.length fun i => codS.enc (l.getD i codS.dft))).length fun i => codS.enc ((comF (rowL codS l.length fun i => codS.enc
    (l.getD i codS.dft))).getD i codS.dft)))) fun i => mergeL (decide ((0 : Nat) + i = (0 : Nat) + ((W a).tmod ↑(List.length (madM (rowL codS (comF (rowL codS l.length
    fun i => codS.enc (l.getD i codS.dft))).length fun i => codS.enc ((comF (rowL codS l.length fun i => codS.enc (l.getD i codS.dft))).getD i codS.dft))))).toNat))
    (setL (byteSV (madM (rowL codS (comF (rowL codS l.length fun i => codS.enc (l.getD i codS.dft))).length fun i => codS.enc ((comF (rowL codS l.length fun i => codS.enc
    (l.getD i codS.dft))).getD i codS.dft))) ((0 : Nat) + ((W a).tmod ↑(List.length (madM (rowL codS (comF (rowL codS l.length fun i => codS.enc (l.getD i codS.dft))).length
    fun i => codS.enc ((comF (rowL codS l.length fun i => codS.enc (l.getD i codS.dft))).getD i codS.dft))))).toNat)) (0 : Nat) [SV.int IntKind.u8 (bits BinOp.xor IntKind.u8
    (↑(List.getD (madM (rowL codS (comF (rowL codS l.length fun i => codS.enc (l.getD i codS.dft))).length fun i => codS.enc ((comF (rowL codS l.length fun i => codS.enc
    (l.getD i codS.dft))).getD i codS.dft))) ((0 : Nat) + ((W a).tmod ↑(List.length (madM (rowL codS (comF (rowL codS l.length fun i => codS.enc (l.getD i codS.dft))).length
    fun i => codS.enc ((comF (rowL codS l.length fun i => codS.enc (l.getD i codS.dft))).getD i codS.dft))))).toNat) (0 : UInt8)).toNat) b)]) (byteSV (madM (rowL codS
    (comF (rowL codS l.length fun i => codS.enc (l.getD i codS.dft))).length fun i => codS.enc ((comF (rowL codS l.length fun i => codS.enc (l.getD i codS.dft))).getD
    i codS.dft))) ((0 : Nat) + i))) == (0 : Int)) = false → True ∧ True ∧ true = false ∧ True))) ∧ (decide (↑(comF (rowL codS l.length fun i => codS.enc (l.getD i codS.dft))).length
    > (1 : Int)) = false → (0 : Nat) + List.length (madM (rowL codS (comF (rowL codS l.length fun i => codS.enc (l.getD i codS.dft))).length fun i => codS.enc ((comF
    (rowL codS l.length fun i => codS.enc (l.getD i codS.dft))).getD i codS.dft))) ≤ List.length (madM (rowL codS (comF (rowL codS l.length fun i => codS.enc (l.getD
    i codS.dft))).length fun i => codS.enc ((comF (rowL codS l.length fun i => codS.enc (l.getD i codS.dft))).getD i codS.dft))) ∧ (∀ (j : Nat), j < List.length (madM
    (rowL codS (comF (rowL codS l.length fun i => codS.enc (l.getD i codS.dft))).length fun i => codS.enc ((comF (rowL codS l.length fun i => codS.enc (l.getD i codS.dft))).getD
    i codS.dft))) → isByte ((fun (i' : Nat) => mergeL (decide (i' = (0 : Nat) + ((W a).tmod ↑(List.length (madM (rowL codS (comF (rowL codS l.length fun i => codS.enc
    (l.getD i codS.dft))).length fun i => codS.enc ((comF (rowL codS l.length fun i => codS.enc (l.getD i codS.dft))).getD i codS.dft))))).toNat)) (setL (byteSV (madM
    (rowL codS (comF (rowL codS l.length fun i => codS.enc (l.getD i codS.dft))).length fun i => codS.enc ((comF (rowL codS l.length fun i => codS.enc (l.getD i codS.dft))).getD
    i codS.dft))) ((0 : Nat) + ((W a).tmod ↑(List.length (madM (rowL codS (comF (rowL codS l.length fun i => codS.enc (l.getD i codS.dft))).length fun i => codS.enc
    ((comF (rowL codS l.length fun i => codS.enc (l.getD i codS.dft))).getD i codS.dft))))).toNat)) (0 : Nat) [SV.int IntKind.u8 (bits BinOp.xor IntKind.u8 (↑(List.getD
    (madM (rowL codS (comF (rowL codS l.length fun i => codS.enc (l.getD i codS.dft))).length fun i => codS.enc ((comF (rowL codS l.length fun i => codS.enc (l.getD
    i codS.dft))).getD i codS.dft))) ((0 : Nat) + ((W a).tmod ↑(List.length (madM (rowL codS (comF (rowL codS l.length fun i => codS.enc (l.getD i codS.dft))).length
    fun i => codS.enc ((comF (rowL codS l.length fun i => codS.enc (l.getD i codS.dft))).getD i codS.dft))))).toNat) (0 : UInt8)).toNat) b)]) (byteSV (madM (rowL codS
    (comF (rowL codS l.length fun i => codS.enc (l.getD i codS.dft))).length fun i => codS.enc ((comF (rowL codS l.length fun i => codS.enc (l.getD i codS.dft))).getD
    i codS.dft))) i')) ((0 : Nat) + j)) = true) ∧ True ∧ (True ∧ True) ∧ True ∧ True ∧ ((curE (bytesOf (List.length (madM (rowL codS (comF (rowL codS l.length fun i
    => codS.enc (l.getD i codS.dft))).length fun i => codS.enc ((comF (rowL codS l.length fun i => codS.enc (l.getD i codS.dft))).getD i codS.dft)))) fun i => mergeL
    (decide ((0 : Nat) + i = (0 : Nat) + ((W a).tmod ↑(List.length (madM (rowL codS (comF (rowL codS l.length fun i => codS.enc (l.getD i codS.dft))).length fun i =>
    codS.enc ((comF (rowL codS l.length fun i => codS.enc (l.getD i codS.dft))).getD i codS.dft))))).toNat)) (setL (byteSV (madM (rowL codS (comF (rowL codS l.length
    fun i => codS.enc (l.getD i codS.dft))).length fun i => codS.enc ((comF (rowL codS l.length fun i => codS.enc (l.getD i codS.dft))).getD i codS.dft))) ((0 : Nat)
    + ((W a).tmod ↑(List.length (madM (rowL codS (comF (rowL codS l.length fun i => codS.enc (l.getD i codS.dft))).length fun i => codS.enc ((comF (rowL codS l.length
    fun i => codS.enc (l.getD i codS.dft))).getD i codS.dft))))).toNat)) (0 : Nat) [SV.int IntKind.u8 (bits BinOp.xor IntKind.u8 (↑(List.getD (madM (rowL codS (comF
    (rowL codS l.length fun i => codS.enc (l.getD i codS.dft))).length fun i => codS.enc ((comF (rowL codS l.length fun i => codS.enc (l.getD i codS.dft))).getD i codS.dft)))
    ((0 : Nat) + ((W a).tmod ↑(List.length (madM (rowL codS (comF (rowL codS l.length fun i => codS.enc (l.getD i codS.dft))).length fun i => codS.enc ((comF (rowL codS
    l.length fun i => codS.enc (l.getD i codS.dft))).getD i codS.dft))))).toNat) (0 : UInt8)).toNat) b)]) (byteSV (madM (rowL codS (comF (rowL codS l.length fun i =>
    codS.enc (l.getD i codS.dft))).length fun i => codS.enc ((comF (rowL codS l.length fun i => codS.enc (l.getD i codS.dft))).getD i codS.dft))) ((0 : Nat) + i))) ==
    (62 : Int)) = true → ((b != (0 : Int)) = true → (True ∧ True) ∧ True ∧ True ∧ true = true ∧ True) ∧ ((b != (0 : Int)) = false → True ∧ True ∧ true = false ∧ True))
    ∧ ((curE (bytesOf (List.length (madM (rowL codS (comF (rowL codS l.length fun i => codS.enc (l.getD i codS.dft))).length fun i => codS.enc ((comF (rowL codS l.length
    fun i => codS.enc (l.getD i codS.dft))).getD i codS.dft)))) fun i => mergeL (decide ((0 : Nat) + i = (0 : Nat) + ((W a).tmod ↑(List.length (madM (rowL codS (comF
    (rowL codS l.length fun i => codS.enc (l.getD i codS.dft))).length fun i => codS.enc ((comF (rowL codS l.length fun i => codS.enc (l.getD i codS.dft))).getD i codS.dft))))).toNat))
    (setL (byteSV (madM (rowL codS (comF (rowL codS l.length fun i => codS.enc (l.getD i codS.dft))).length fun i => codS.enc ((comF (rowL codS l.length fun i => codS.enc
    (l.getD i codS.dft))).getD i codS.dft))) ((0 : Nat) + ((W a).tmod ↑(List.length (madM (rowL codS (comF (rowL codS l.length fun i => codS.enc (l.getD i codS.dft))).length
    fun i => codS.enc ((comF (rowL codS l.length fun i => codS.enc (l.getD i codS.dft))).getD i codS.dft))))).toNat)) (0 : Nat) [SV.int IntKind.u8 (bits BinOp.xor IntKind.u8
    (↑(List.getD (madM (rowL codS (comF (rowL codS l.length fun i => codS.enc (l.getD i codS.dft))).length fun i => codS.enc ((comF (rowL codS l.length fun i => codS.enc
    (l.getD i codS.dft))).getD i codS.dft))) ((0 : Nat) + ((W a).tmod ↑(List.length (madM (rowL codS (comF (rowL codS l.length fun i => codS.enc (l.getD i codS.dft))).length
    fun i => codS.enc ((comF (rowL codS l.length fun i => codS.enc (l.getD i codS.dft))).getD i codS.dft))))).toNat) (0 : UInt8)).toNat) b)]) (byteSV (madM (rowL codS
    (comF (rowL codS l.length fun i => codS.enc (l.getD i codS.dft))).length fun i => codS.enc ((comF (rowL codS l.length fun i => codS.enc (l.getD i codS.dft))).getD
    i codS.dft))) ((0 : Nat) + i))) == (62 : Int)) = false → ((curE (bytesOf (List.length (madM (rowL codS (comF (rowL codS l.length fun i => codS.enc (l.getD i codS.dft))).length
    fun i => codS.enc ((comF (rowL codS l.length fun i => codS.enc (l.getD i codS.dft))).getD i codS.dft)))) fun i => mergeL (decide ((0 : Nat) + i = (0 : Nat) + ((W
    a).tmod ↑(List.length (madM (rowL codS (comF (rowL codS l.length fun i => codS.enc (l.getD i codS.dft))).length fun i => codS.enc ((comF (rowL codS l.length fun
    i => codS.enc (l.getD i codS.dft))).getD i codS.dft))))).toNat)) (setL (byteSV (madM (rowL codS (comF (rowL codS l.length fun i => codS.enc (l.getD i codS.dft))).length
    fun i => codS.enc ((comF (rowL codS l.length fun i => codS.enc (l.getD i codS.dft))).getD i codS.dft))) ((0 : Nat) + ((W a).tmod ↑(List.length (madM (rowL codS (comF
    (rowL codS l.length fun i => codS.enc (l.getD i codS.dft))).length fun i => codS.enc ((comF (rowL codS l.length fun i => codS.enc (l.getD i codS.dft))).getD i codS.dft))))).toNat))
    (0 : Nat) [SV.int IntKind.u8 (bits BinOp.xor IntKind.u8 (↑(List.getD (madM (rowL codS (comF (rowL codS l.length fun i => codS.enc (l.getD i codS.dft))).length fun
    i => codS.enc ((comF (rowL codS l.length fun i => codS.enc (l.getD i codS.dft))).getD i codS.dft))) ((0 : Nat) + ((W a).tmod ↑(List.length (madM (rowL codS (comF
    (rowL codS l.length fun i => codS.enc (l.getD i codS.dft))).length fun i => codS.enc ((comF (rowL codS l.length fun i => codS.enc (l.getD i codS.dft))).getD i codS.dft))))).toNat)
    (0 : UInt8)).toNat) b)]) (byteSV (madM (rowL codS (comF (rowL codS l.length fun i => codS.enc (l.getD i codS.dft))).length fun i => codS.enc ((comF (rowL codS l.length
    fun i => codS.enc (l.getD i codS.dft))).getD i codS.dft))) ((0 : Nat) + i))) == (0 : Int)) = true → ((curD (bytesOf (List.length (madM (rowL codS (comF (rowL codS
    l.length fun i => codS.enc (l.getD i codS.dft))).length fun i => codS.enc ((comF (rowL codS l.length fun i => codS.enc (l.getD i codS.dft))).getD i codS.dft))))
    fun i => mergeL (decide ((0 : Nat) + i = (0 : Nat) + ((W a).tmod ↑(List.length (madM (rowL codS (comF (rowL codS l.length fun i => codS.enc (l.getD i codS.dft))).length
    fun i => codS.enc ((comF (rowL codS l.length fun i => codS.enc (l.getD i codS.dft))).getD i codS.dft))))).toNat)) (setL (byteSV (madM (rowL codS (comF (rowL codS
    l.length fun i => codS.enc (l.getD i codS.dft))).length fun i => codS.enc ((comF (rowL codS l.length fun i => codS.enc (l.getD i codS.dft))).getD i codS.dft))) ((0
    : Nat) + ((W a).tmod ↑(List.length (madM (rowL codS (comF (rowL codS l.length fun i => codS.enc (l.getD i codS.dft))).length fun i => codS.enc ((comF (rowL codS
    l.length fun i => codS.enc (l.getD i codS.dft))).getD i codS.dft))))).toNat)) (0 : Nat) [SV.int IntKind.u8 (bits BinOp.xor IntKind.u8 (↑(List.getD (madM (rowL codS
    (comF (rowL codS l.length fun i => codS.enc (l.getD i codS.dft))).length fun i => codS.enc ((comF (rowL codS l.length fun i => codS.enc (l.getD i codS.dft))).getD
    i codS.dft))) ((0 : Nat) + ((W a).tmod ↑(List.length (madM (rowL codS (comF (rowL codS l.length fun i => codS.enc (l.getD i codS.dft))).length fun i => codS.enc
    ((comF (rowL codS l.length fun i => codS.enc (l.getD i codS.dft))).getD i codS.dft))))).toNat) (0 : UInt8)).toNat) b)]) (byteSV (madM (rowL codS (comF (rowL codS
    l.length fun i => codS.enc (l.getD i codS.dft))).length fun i => codS.enc ((comF (rowL codS l.length fun i => codS.enc (l.getD i codS.dft))).getD i codS.dft))) ((0
    : Nat) + i))) == (comF (rowL codS l.length fun i => codS.enc (l.getD i codS.dft))).getD (W (↑(comF (rowL codS l.length fun i => codS.enc (l.getD i codS.dft))).length
    - (1 : Int))).toNat codS.dft) = true → (True ∧ True) ∧ True ∧ True ∧ true = true ∧ True) ∧ ((curD (bytesOf (List.length (madM (rowL codS (comF (rowL codS l.length
    fun i => codS.enc (l.getD i codS.dft))).length fun i => codS.enc ((comF (rowL codS l.length fun i => codS.enc (l.getD i codS.dft))).getD i codS.dft)))) fun i =>
    mergeL (decide ((0 : Nat) + i = (0 : Nat) + ((W a).tmod ↑(List.length (madM (rowL codS (comF (rowL codS l.length fun i => codS.enc (l.getD i codS.dft))).length fun
    i => codS.enc ((comF (rowL codS l.length fun i => codS.enc (l.getD i codS.dft))).getD i codS.dft))))).toNat)) (setL (byteSV (madM (rowL codS (comF (rowL codS l.length
    fun i => codS.enc (l.getD i codS.dft))).length fun i => codS.enc ((comF (rowL codS l.length fun i => codS.enc (l.getD i codS.dft))).getD i codS.dft))) ((0 : Nat)
    + ((W a).tmod ↑(List.length (madM (rowL codS (comF (rowL codS l.length fun i => codS.enc (l.getD i codS.dft))).length fun i => codS.enc ((comF (rowL codS l.length
    fun i => codS.enc (l.getD i codS.dft))).getD i codS.dft))))).toNat)) (0 : Nat) [SV.int IntKind.u8 (bits BinOp.xor IntKind.u8 (↑(List.getD (madM (rowL codS (comF
    (rowL codS l.length fun i => codS.enc (l.getD i codS.dft))).length fun i => codS.enc ((comF (rowL codS l.length fun i => codS.enc (l.getD i codS.dft))).getD i codS.dft)))
    ((0 : Nat) + ((W a).tmod ↑(List.length (madM (rowL codS (comF (rowL codS l.length fun i => codS.enc (l.getD i codS.dft))).length fun i => codS.enc ((comF (rowL codS
    l.length fun i => codS.enc (l.getD i codS.dft))).getD i codS.dft))))).toNat) (0 : UInt8)).toNat) b)]) (byteSV (madM (rowL codS (comF (rowL codS l.length fun i =>
    codS.enc (l.getD i codS.dft))).length fun i => codS.enc ((comF (rowL codS l.length fun i => codS.enc (l.getD i codS.dft))).getD i codS.dft))) ((0 : Nat) + i))) ==
    (comF (rowL codS l.length fun i => codS.enc (l.getD i codS.dft))).getD (W (↑(comF (rowL codS l.length fun i => codS.enc (l.getD i codS.dft))).length - (1 : Int))).toNat
    codS.dft) = false → ((b != (0 : Int)) = true → (decide (↑(comF (rowL codS l.length fun i => codS.enc (l.getD i codS.dft))).length > (0 : Int)) = true → ((curD (bytesOf
    (List.length (madM (rowL codS (comF (rowL codS l.length fun i => codS.enc (l.getD i codS.dft))).length fun i => codS.enc ((comF (rowL codS l.length fun i => codS.enc
    (l.getD i codS.dft))).getD i codS.dft)))) fun i => mergeL (decide ((0 : Nat) + i = (0 : Nat) + ((W a).tmod ↑(List.length (madM (rowL codS (comF (rowL codS l.length
    fun i => codS.enc (l.getD i codS.dft))).length fun i => codS.enc ((comF (rowL codS l.length fun i => codS.enc (l.getD i codS.dft))).getD i codS.dft))))).toNat))
    (setL (byteSV (madM (rowL codS (comF (rowL codS l.length fun i => codS.enc (l.getD i codS.dft))).length fun i => codS.enc ((comF (rowL codS l.length fun i => codS.enc
    (l.getD i codS.dft))).getD i codS.dft))) ((0 : Nat) + ((W a).tmod ↑(List.length (madM (rowL codS (comF (rowL codS l.length fun i => codS.enc (l.getD i codS.dft))).length
    fun i => codS.enc ((comF (rowL codS l.length fun i => codS.enc (l.getD i codS.dft))).getD i codS.dft))))).toNat)) (0 : Nat) [SV.int IntKind.u8 (bits BinOp.xor IntKind.u8
    (↑(List.getD (madM (rowL codS (comF (rowL codS l.length fun i => codS.enc (l.getD i codS.dft))).length fun i => codS.enc ((comF (rowL codS l.length fun i => codS.enc
    (l.getD i codS.dft))).getD i codS.dft))) ((0 : Nat) + ((W a).tmod ↑(List.length (madM (rowL codS (comF (rowL codS l.length fun i => codS.enc (l.getD i codS.dft))).length
    fun i => codS.enc ((comF (rowL codS l.length fun i => codS.enc (l.getD i codS.dft))).getD i codS.dft))))).toNat) (0 : UInt8)).toNat) b)]) (byteSV (madM (rowL codS
    (comF (rowL codS l.length fun i => codS.enc (l.getD i codS.dft))).length fun i => codS.enc ((comF (rowL codS l.length fun i => codS.enc (l.getD i codS.dft))).getD
    i codS.dft))) ((0 : Nat) + i))) == #[(102 : UInt8), (105 : UInt8), (114 : UInt8), (115 : UInt8), (116 : UInt8)].toList) = true → (True ∧ True) ∧ True ∧ True ∧ true
    = true ∧ True) ∧ ((curD (bytesOf (List.length (madM (rowL codS (comF (rowL codS l.length fun i => codS.enc (l.getD i codS.dft))).length fun i => codS.enc ((comF
    (rowL codS l.length fun i => codS.enc (l.getD i codS.dft))).getD i codS.dft)))) fun i => mergeL (decide ((0 : Nat) + i = (0 : Nat) + ((W a).tmod ↑(List.length (madM
    (rowL codS (comF (rowL codS l.length fun i => codS.enc (l.getD i codS.dft))).length fun i => codS.enc ((comF (rowL codS l.length fun i => codS.enc (l.getD i codS.dft))).getD
    i codS.dft))))).toNat)) (setL (byteSV (madM (rowL codS (comF (rowL codS l.length fun i => codS.enc (l.getD i codS.dft))).length fun i => codS.enc ((comF (rowL codS
    l.length fun i => codS.enc (l.getD i codS.dft))).getD i codS.dft))) ((0 : Nat) + ((W a).tmod ↑(List.length (madM (rowL codS (comF (rowL codS l.length fun i => codS.enc
    (l.getD i codS.dft))).length fun i => codS.enc ((comF (rowL codS l.length fun i => codS.enc (l.getD i codS.dft))).getD i codS.dft))))).toNat)) (0 : Nat) [SV.int
    IntKind.u8 (bits BinOp.xor IntKind.u8 (↑(List.getD (madM (rowL codS (comF (rowL codS l.length fun i => codS.enc (l.getD i codS.dft))).length fun i => codS.enc ((comF
    (rowL codS l.length fun i => codS.enc (l.getD i codS.dft))).getD i codS.dft))) ((0 : Nat) + ((W a).tmod ↑(List.length (madM (rowL codS (comF (rowL codS l.length
    fun i => codS.enc (l.getD i codS.dft))).length fun i => codS.enc ((comF (rowL codS l.length fun i => codS.enc (l.getD i codS.dft))).getD i codS.dft))))).toNat) (0
    : UInt8)).toNat) b)]) (byteSV (madM (rowL codS (comF (rowL codS l.length fun i => codS.enc (l.getD i codS.dft))).length fun i => codS.enc ((comF (rowL codS l.length
    fun i => codS.enc (l.getD i codS.dft))).getD i codS.dft))) ((0 : Nat) + i))) == #[(102 : UInt8), (105 : UInt8), (114 : UInt8), (115 : UInt8), (116 : UInt8)].toList)
    = false → True ∧ True ∧ true = false ∧ True)) ∧ (decide (↑(comF (rowL codS l.length fun i => codS.enc (l.getD i codS.dft))).length > (0 : Int)) = false → True ∧
    True ∧ true = false ∧ True)) ∧ ((b != (0 : Int)) = false → True ∧ True ∧ true = false ∧ True))) ∧ ((curE (bytesOf (List.length (madM (rowL codS (comF (rowL codS
    l.length fun i => codS.enc (l.getD i codS.dft))).length fun i => codS.enc ((comF (rowL codS l.length fun i => codS.enc (l.getD i codS.dft))).getD i codS.dft))))
    fun i => mergeL (decide ((0 : Nat) + i = (0 : Nat) + ((W a).tmod ↑(List.length (madM (rowL codS (comF (rowL codS l.length fun i => codS.enc (l.getD i codS.dft))).length
    fun i => codS.enc ((comF (rowL codS l.length fun i => codS.enc (l.getD i codS.dft))).getD i codS.dft))))).toNat)) (setL (byteSV (madM (rowL codS (comF (rowL codS
    l.length fun i => codS.enc (l.getD i codS.dft))).length fun i => codS.enc ((comF (rowL codS l.length fun i => codS.enc (l.getD i codS.dft))).getD i codS.dft))) ((0
    : Nat) + ((W a).tmod ↑(List.length (madM (rowL codS (comF (rowL codS l.length fun i => codS.enc (l.getD i codS.dft))).length fun i => codS.enc ((comF (rowL codS
    l.length fun i => codS.enc (l.getD i codS.dft))).getD i codS.dft))))).toNat)) (0 : Nat) [SV.int IntKind.u8 (bits BinOp.xor IntKind.u8 (↑(List.getD (madM (rowL codS
    (comF (rowL codS l.length fun i => codS.enc (l.getD i codS.dft))).length fun i => codS.enc ((comF (rowL codS l.length fun i => codS.enc (l.getD i codS.dft))).getD
    i codS.dft))) ((0 : Nat) + ((W a).tmod ↑(List.length (madM (rowL codS (comF (rowL codS l.length fun i => codS.enc (l.getD i codS.dft))).length fun i => codS.enc
    ((comF (rowL codS l.length fun i => codS.enc (l.getD i codS.dft))).getD i codS.dft))))).toNat) (0 : UInt8)).toNat) b)]) (byteSV (madM (rowL codS (comF (rowL codS
    l.length fun i => codS.enc (l.getD i codS.dft))).length fun i => codS.enc ((comF (rowL codS l.length fun i => codS.enc (l.getD i codS.dft))).getD i codS.dft))) ((0
    : Nat) + i))) == (0 : Int)) = false → True ∧ True ∧ true = false ∧ True)))) ∧ (decide (↑(comF (rowL codS l.length fun i => codS.enc (l.getD i codS.dft))).length
    > (0 : Int)) = false → True ∧ (decide (↑(comF (rowL codS l.length fun i => codS.enc (l.getD i codS.dft))).length > (1 : Int)) = true → ((0 : Int) ≤ W (↑(comF (rowL
    codS l.length fun i => codS.enc (l.getD i codS.dft))).length - (2 : Int)) ∧ W (↑(comF (rowL codS l.length fun i => codS.enc (l.getD i codS.dft))).length - (2 : Int))
    < ↑(comF (rowL codS l.length fun i => codS.enc (l.getD i codS.dft))).length) ∧ True ∧ (0 : Nat) + List.length (madM (rowL codS (comF (rowL codS l.length fun i =>
    codS.enc (l.getD i codS.dft))).length fun i => codS.enc ((comF (rowL codS l.length fun i => codS.enc (l.getD i codS.dft))).getD i codS.dft))) ≤ List.length (madM
    (rowL codS (comF (rowL codS l.length fun i => codS.enc (l.getD i codS.dft))).length fun i => codS.enc ((comF (rowL codS l.length fun i => codS.enc (l.getD i codS.dft))).getD
    i codS.dft))) ∧ (∀ (j : Nat), j < List.length (madM (rowL codS (comF (rowL codS l.length fun i => codS.enc (l.getD i codS.dft))).length fun i => codS.enc ((comF
    (rowL codS l.length fun i => codS.enc (l.getD i codS.dft))).getD i codS.dft))) → isByte ((fun (i' : Nat) => mergeL (decide (i' = (0 : Nat) + ((W a).tmod ↑(List.length
    (madM (rowL codS (comF (rowL codS l.length fun i => codS.enc (l.getD i codS.dft))).length fun i => codS.enc ((comF (rowL codS l.length fun i => codS.enc (l.getD
    i codS.dft))).getD i codS.dft))))).toNat)) (setL (byteSV (madM (rowL codS (comF (rowL codS l.length fun i => codS.enc (l.getD i codS.dft))).length fun i => codS.enc
    ((comF (rowL codS l.length fun i => codS.enc (l.getD i codS.dft))).getD i codS.dft))) ((0 : Nat) + ((W a).tmod ↑(List.length (madM (rowL codS (comF (rowL codS l.length
    fun i => codS.enc (l.getD i codS.dft))).length fun i => codS.enc ((comF (rowL codS l.length fun i => codS.enc (l.getD i codS.dft))).getD i codS.dft))))).toNat))
    (0 : Nat) [SV.int IntKind.u8 (bits BinOp.xor IntKind.u8 (↑(List.getD (madM (rowL codS (comF (rowL codS l.length fun i => codS.enc (l.getD i codS.dft))).length fun
    i => codS.enc ((comF (rowL codS l.length fun i => codS.enc (l.getD i codS.dft))).getD i codS.dft))) ((0 : Nat) + ((W a).tmod ↑(List.length (madM (rowL codS (comF
    (rowL codS l.length fun i => codS.enc (l.getD i codS.dft))).length fun i => codS.enc ((comF (rowL codS l.length fun i => codS.enc (l.getD i codS.dft))).getD i codS.dft))))).toNat)
    (0 : UInt8)).toNat) b)]) (byteSV (madM (rowL codS (comF (rowL codS l.length fun i => codS.enc (l.getD i codS.dft))).length fun i => codS.enc ((comF (rowL codS l.length
    fun i => codS.enc (l.getD i codS.dft))).getD i codS.dft))) i')) ((0 : Nat) + j)) = true) ∧ True ∧ (True ∧ True) ∧ True ∧ True ∧ ((curE (bytesOf (List.length (madM
    (rowL codS (comF (rowL codS l.length fun i => codS.enc (l.getD i codS.dft))).length fun i => codS.enc ((comF (rowL codS l.length fun i => codS.enc (l.getD i codS.dft))).getD
    i codS.dft)))) fun i => mergeL (decide ((0 : Nat) + i = (0 : Nat) + ((W a).tmod ↑(List.length (madM (rowL codS (comF (rowL codS l.length fun i => codS.enc (l.getD
    i codS.dft))).length fun i => codS.enc ((comF (rowL codS l.length fun i => codS.enc (l.getD i codS.dft))).getD i codS.dft))))).toNat)) (setL (byteSV (madM (rowL
    codS (comF (rowL codS l.length fun i => codS.enc (l.getD i codS.dft))).length fun i => codS.enc ((comF (rowL codS l.length fun i => codS.enc (l.getD i codS.dft))).getD
    i codS.dft))) ((0 : Nat) + ((W a).tmod ↑(List.length (madM (rowL codS (comF (rowL codS l.length fun i => codS.enc (l.getD i codS.dft))).length fun i => codS.enc
    ((comF (rowL codS l.length fun i => codS.enc (l.getD i codS.dft))).getD i codS.dft))))).toNat)) (0 : Nat) [SV.int IntKind.u8 (bits BinOp.xor IntKind.u8 (↑(List.getD
    (madM (rowL codS (comF (rowL codS l.length fun i => codS.enc (l.getD i codS.dft))).length fun i => codS.enc ((comF (rowL codS l.length fun i => codS.enc (l.getD
    i codS.dft))).getD i codS.dft))) ((0 : Nat) + ((W a).tmod ↑(List.length (madM (rowL codS (comF (rowL codS l.length fun i => codS.enc (l.getD i codS.dft))).length
    fun i => codS.enc ((comF (rowL codS l.length fun i => codS.enc (l.getD i codS.dft))).getD i codS.dft))))).toNat) (0 : UInt8)).toNat) b)]) (byteSV (madM (rowL codS
    (comF (rowL codS l.length fun i => codS.enc (l.getD i codS.dft))).length fun i => codS.enc ((comF (rowL codS l.length fun i => codS.enc (l.getD i codS.dft))).getD
    i codS.dft))) ((0 : Nat) + i))) == (62 : Int)) = true → ((b != (0 : Int)) = true → (True ∧ True) ∧ True ∧ True ∧ true = true ∧ True) ∧ ((b != (0 : Int)) = false
    → True ∧ True ∧ true = false ∧ True)) ∧ ((curE (bytesOf (List.length (madM (rowL codS (comF (rowL codS l.length fun i => codS.enc (l.getD i codS.dft))).length fun
    i => codS.enc ((comF (rowL codS l.length fun i => codS.enc (l.getD i codS.dft))).getD i codS.dft)))) fun i => mergeL (decide ((0 : Nat) + i = (0 : Nat) + ((W a).tmod
    ↑(List.length (madM (rowL codS (comF (rowL codS l.length fun i => codS.enc (l.getD i codS.dft))).length fun i => codS.enc ((comF (rowL codS l.length fun i => codS.enc
    (l.getD i codS.dft))).getD i codS.dft))))).toNat)) (setL (byteSV (madM (rowL codS (comF (rowL codS l.length fun i => codS.enc (l.getD i codS.dft))).length fun i
    => codS.enc ((comF (rowL codS l.length fun i => codS.enc (l.getD i codS.dft))).getD i codS.dft))) ((0 : Nat) + ((W a).tmod ↑(List.length (madM (rowL codS (comF (rowL
    codS l.length fun i => codS.enc (l.getD i codS.dft))).length fun i => codS.enc ((comF (rowL codS l.length fun i => codS.enc (l.getD i codS.dft))).getD i codS.dft))))).toNat))
    (0 : Nat) [SV.int IntKind.u8 (bits BinOp.xor IntKind.u8 (↑(List.getD (madM (rowL codS (comF (rowL codS l.length fun i => codS.enc (l.getD i codS.dft))).length fun
    i => codS.enc ((comF (rowL codS l.length fun i => codS.enc (l.getD i codS.dft))).getD i codS.dft))) ((0 : Nat) + ((W a).tmod ↑(List.length (madM (rowL codS (comF
    (rowL codS l.length fun i => codS.enc (l.getD i codS.dft))).length fun i => codS.enc ((comF (rowL codS l.length fun i => codS.enc (l.getD i codS.dft))).getD i codS.dft))))).toNat)
    (0 : UInt8)).toNat) b)]) (byteSV (madM (rowL codS (comF (rowL codS l.length fun i => codS.enc (l.getD i codS.dft))).length fun i => codS.enc ((comF (rowL codS l.length
    fun i => codS.enc (l.getD i codS.dft))).getD i codS.dft))) ((0 : Nat) + i))) == (62 : Int)) = false → ((curE (bytesOf (List.length (madM (rowL codS (comF (rowL codS
    l.length fun i => codS.enc (l.getD i codS.dft))).length fun i => codS.enc ((comF (rowL codS l.length fun i => codS.enc (l.getD i codS.dft))).getD i codS.dft))))
    fun i => mergeL (decide ((0 : Nat) + i = (0 : Nat) + ((W a).tmod ↑(List.length (madM (rowL codS (comF (rowL codS l.length fun i => codS.enc (l.getD i codS.dft))).length
    fun i => codS.enc ((comF (rowL codS l.length fun i => codS.enc (l.getD i codS.dft))).getD i codS.dft))))).toNat)) (setL (byteSV (madM (rowL codS (comF (rowL codS
    l.length fun i => codS.enc (l.getD i codS.dft))).length fun i => codS.enc ((comF (rowL codS l.length fun i => codS.enc (l.getD i codS.dft))).getD i codS.dft))) ((0
    : Nat) + ((W a).tmod ↑(List.length (madM (rowL codS (comF (rowL codS l.length fun i => codS.enc (l.getD i codS.dft))).length fun i => codS.enc ((comF (rowL codS
    l.length fun i => codS.enc (l.getD i codS.dft))).getD i codS.dft))))).toNat)) (0 : Nat) [SV.int IntKind.u8 (bits BinOp.xor IntKind.u8 (↑(List.getD (madM (rowL codS
    (comF (rowL codS l.length fun i => codS.enc (l.getD i codS.dft))).length fun i => codS.enc ((comF (rowL codS l.length fun i => codS.enc (l.getD i codS.dft))).getD
    i codS.dft))) ((0 : Nat) + ((W a).tmod ↑(List.length (madM (rowL codS (comF (rowL codS l.length fun i => codS.enc (l.getD i codS.dft))).length fun i => codS.enc
    ((comF (rowL codS l.length fun i => codS.enc (l.getD i codS.dft))).getD i codS.dft))))).toNat) (0 : UInt8)).toNat) b)]) (byteSV (madM (rowL codS (comF (rowL codS
    l.length fun i => codS.enc (l.getD i codS.dft))).length fun i => codS.enc ((comF (rowL codS l.length fun i => codS.enc (l.getD i codS.dft))).getD i codS.dft))) ((0
    : Nat) + i))) == (0 : Int)) = true → ((curD (bytesOf (List.length (madM (rowL codS (comF (rowL codS l.length fun i => codS.enc (l.getD i codS.dft))).length fun i
    => codS.enc ((comF (rowL codS l.length fun i => codS.enc (l.getD i codS.dft))).getD i codS.dft)))) fun i => mergeL (decide ((0 : Nat) + i = (0 : Nat) + ((W a).tmod
    ↑(List.length (madM (rowL codS (comF (rowL codS l.length fun i => codS.enc (l.getD i codS.dft))).length fun i => codS.enc ((comF (rowL codS l.length fun i => codS.enc
    (l.getD i codS.dft))).getD i codS.dft))))).toNat)) (setL (byteSV (madM (rowL codS (comF (rowL codS l.length fun i => codS.enc (l.getD i codS.dft))).length fun i
    => codS.enc ((comF (rowL codS l.length fun i => codS.enc (l.getD i codS.dft))).getD i codS.dft))) ((0 : Nat) + ((W a).tmod ↑(List.length (madM (rowL codS (comF (rowL
    codS l.length fun i => codS.enc (l.getD i codS.dft))).length fun i => codS.enc ((comF (rowL codS l.length fun i => codS.enc (l.getD i codS.dft))).getD i codS.dft))))).toNat))
    (0 : Nat) [SV.int IntKind.u8 (bits BinOp.xor IntKind.u8 (↑(List.getD (madM (rowL codS (comF (rowL codS l.length fun i => codS.enc (l.getD i codS.dft))).length fun
    i => codS.enc ((comF (rowL codS l.length fun i => codS.enc (l.getD i codS.dft))).getD i codS.dft))) ((0 : Nat) + ((W a).tmod ↑(List.length (madM (rowL codS (comF
    (rowL codS l.length fun i => codS.enc (l.getD i codS.dft))).length fun i => codS.enc ((comF (rowL codS l.length fun i => codS.enc (l.getD i codS.dft))).getD i codS.dft))))).toNat)
    (0 : UInt8)).toNat) b)]) (byteSV (madM (rowL codS (comF (rowL codS l.length fun i => codS.enc (l.getD i codS.dft))).length fun i => codS.enc ((comF (rowL codS l.length
    fun i => codS.enc (l.getD i codS.dft))).getD i codS.dft))) ((0 : Nat) + i))) == #[(102 : UInt8), (105 : UInt8), (114 : UInt8), (115 : UInt8), (116 : UInt8)].toList)
    = true → (True ∧ True) ∧ True ∧ True ∧ true = true ∧ True) ∧ ((curD (bytesOf (List.length (madM (rowL codS (comF (rowL codS l.length fun i => codS.enc (l.getD i
    codS.dft))).length fun i => codS.enc ((comF (rowL codS l.length fun i => codS.enc (l.getD i codS.dft))).getD i codS.dft)))) fun i => mergeL (decide ((0 : Nat) +
    i = (0 : Nat) + ((W a).tmod ↑(List.length (madM (rowL codS (comF (rowL codS l.length fun i => codS.enc (l.getD i codS.dft))).length fun i => codS.enc ((comF (rowL
    codS l.length fun i => codS.enc (l.getD i codS.dft))).getD i codS.dft))))).toNat)) (setL (byteSV (madM (rowL codS (comF (rowL codS l.length fun i => codS.enc (l.getD
    i codS.dft))).length fun i => codS.enc ((comF (rowL codS l.length fun i => codS.enc (l.getD i codS.dft))).getD i codS.dft))) ((0 : Nat) + ((W a).tmod ↑(List.length
    (madM (rowL codS (comF (rowL codS l.length fun i => codS.enc (l.getD i codS.dft))).length fun i => codS.enc ((comF (rowL codS l.length fun i => codS.enc (l.getD
    i codS.dft))).getD i codS.dft))))).toNat)) (0 : Nat) [SV.int IntKind.u8 (bits BinOp.xor IntKind.u8 (↑(List.getD (madM (rowL codS (comF (rowL codS l.length fun i
    => codS.enc (l.getD i codS.dft))).length fun i => codS.enc ((comF (rowL codS l.length fun i => codS.enc (l.getD i codS.dft))).getD i codS.dft))) ((0 : Nat) + ((W
    a).tmod ↑(List.length (madM (rowL codS (comF (rowL codS l.length fun i => codS.enc (l.getD i codS.dft))).length fun i => codS.enc ((comF (rowL codS l.length fun
    i => codS.enc (l.getD i codS.dft))).getD i codS.dft))))).toNat) (0 : UInt8)).toNat) b)]) (byteSV (madM (rowL codS (comF (rowL codS l.length fun i => codS.enc (l.getD
    i codS.dft))).length fun i => codS.enc ((comF (rowL codS l.length fun i => codS.enc (l.getD i codS.dft))).getD i codS.dft))) ((0 : Nat) + i))) == #[(102 : UInt8),
    (105 : UInt8), (114 : UInt8), (115 : UInt8), (116 : UInt8)].toList) = false → ((b != (0 : Int)) = true → (decide (↑(comF (rowL codS l.length fun i => codS.enc (l.getD
    i codS.dft))).length > (0 : Int)) = true → ((curD (bytesOf (List.length (madM (rowL codS (comF (rowL codS l.length fun i => codS.enc (l.getD i codS.dft))).length
    fun i => codS.enc ((comF (rowL codS l.length fun i => codS.enc (l.getD i codS.dft))).getD i codS.dft)))) fun i => mergeL (decide ((0 : Nat) + i = (0 : Nat) + ((W
    a).tmod ↑(List.length (madM (rowL codS (comF (rowL codS l.length fun i => codS.enc (l.getD i codS.dft))).length fun i => codS.enc ((comF (rowL codS l.length fun
    i => codS.enc (l.getD i codS.dft))).getD i codS.dft))))).toNat)) (setL (byteSV (madM (rowL codS (comF (rowL codS l.length fun i => codS.enc (l.getD i codS.dft))).length
    fun i => codS.enc ((comF (rowL codS l.length fun i => codS.enc (l.getD i codS.dft))).getD i codS.dft))) ((0 : Nat) + ((W a).tmod ↑(List.length (madM (rowL codS (comF
    (rowL codS l.length fun i => codS.enc (l.getD i codS.dft))).length fun i => codS.enc ((comF (rowL codS l.length fun i => codS.enc (l.getD i codS.dft))).getD i codS.dft))))).toNat))
    (0 : Nat) [SV.int IntKind.u8 (bits BinOp.xor IntKind.u8 (↑(List.getD (madM (rowL codS (comF (rowL codS l.length fun i => codS.enc (l.getD i codS.dft))).length fun
    i => codS.enc ((comF (rowL codS l.length fun i => codS.enc (l.getD i codS.dft))).getD i codS.dft))) ((0 : Nat) + ((W a).tmod ↑(List.length (madM (rowL codS (comF
    (rowL codS l.length fun i => codS.enc (l.getD i codS.dft))).length fun i => codS.enc ((comF (rowL codS l.length fun i => codS.enc (l.getD i codS.dft))).getD i codS.dft))))).toNat)
    (0 : UInt8)).toNat) b)]) (byteSV (madM (rowL codS (comF (rowL codS l.length fun i => codS.enc (l.getD i codS.dft))).length fun i => codS.enc ((comF (rowL codS l.length
    fun i => codS.enc (l.getD i codS.dft))).getD i codS.dft))) ((0 : Nat) + i))) == (comF (rowL codS l.length fun i => codS.enc (l.getD i codS.dft))).getD (W (↑(comF
    (rowL codS l.length fun i => codS.enc (l.getD i codS.dft))).length - (2 : Int))).toNat codS.dft) = true → (True ∧ True) ∧ True ∧ True ∧ true = true ∧ True) ∧ ((curD
    (bytesOf (List.length (madM (rowL codS (comF (rowL codS l.length fun i => codS.enc (l.getD i codS.dft))).length fun i => codS.enc ((comF (rowL codS l.length fun
    i => codS.enc (l.getD i codS.dft))).getD i codS.dft)))) fun i => mergeL (decide ((0 : Nat) + i = (0 : Nat) + ((W a).tmod ↑(List.length (madM (rowL codS (comF (rowL
    codS l.length fun i => codS.enc (l.getD i codS.dft))).length fun i => codS.enc ((comF (rowL codS l.length fun i => codS.enc (l.getD i codS.dft))).getD i codS.dft))))).toNat))
    (setL (byteSV (madM (rowL codS (comF (rowL codS l.length fun i => codS.enc (l.getD i codS.dft))).length fun i => codS.enc ((comF (rowL codS l.length fun i => codS.enc
    (l.getD i codS.dft))).getD i codS.dft))) ((0 : Nat) + ((W a).tmod ↑(List.length (madM (rowL codS (comF (rowL codS l.length fun i => codS.enc (l.getD i codS.dft))).length
    fun i => codS.enc ((comF (rowL codS l.length fun i => codS.enc (l.getD i codS.dft))).getD i codS.dft))))).toNat)) (0 : Nat) [SV.int IntKind.u8 (bits BinOp.xor IntKind.u8
    (↑(List.getD (madM (rowL codS (comF (rowL codS l.length fun i => codS.enc (l.getD i codS.dft))).length fun i => codS.enc ((comF (rowL codS l.length fun i => codS.enc
    (l.getD i codS.dft))).getD i codS.dft))) ((0 : Nat) + ((W a).tmod ↑(List.length (madM (rowL codS (comF (rowL codS l.length fun i => codS.enc (l.getD i codS.dft))).length
    fun i => codS.enc ((comF (rowL codS l.length fun i => codS.enc (l.getD i codS.dft))).getD i codS.dft))))).toNat) (0 : UInt8)).toNat) b)]) (byteSV (madM (rowL codS
    (comF (rowL codS l.length fun i => codS.enc (l.getD i codS.dft))).length fun i => codS.enc ((comF (rowL codS l.length fun i => codS.enc (l.getD i codS.dft))).getD
    i codS.dft))) ((0 : Nat) + i))) == (comF (rowL codS l.length fun i => codS.enc (l.getD i codS.dft))).getD (W (↑(comF (rowL codS l.length fun i => codS.enc (l.getD
    i codS.dft))).length - (2 : Int))).toNat codS.dft) = false → True ∧ True ∧ true = false ∧ True)) ∧ (decide (↑(comF (rowL codS l.length fun i => codS.enc (l.getD
    i codS.dft))).length > (0 : Int)) = false → True ∧ True ∧ true = false ∧ True)) ∧ ((b != (0 : Int)) = false → True ∧ True ∧ true = false ∧ True))) ∧ ((curE (bytesOf
    (List.length (madM (rowL codS (comF (rowL codS l.length fun i => codS.enc (l.getD i codS.dft))).length fun i => codS.enc ((comF (rowL codS l.length fun i => codS.enc
    (l.getD i codS.dft))).getD i codS.dft)))) fun i => mergeL (decide ((0 : Nat) + i = (0 : Nat) + ((W a).tmod ↑(List.length (madM (rowL codS (comF (rowL codS l.length
    fun i => codS.enc (l.getD i codS.dft))).length fun i => codS.enc ((comF (rowL codS l.length fun i => codS.enc (l.getD i codS.dft))).getD i codS.dft))))).toNat))
    (setL (byteSV (madM (rowL codS (comF (rowL codS l.length fun i => codS.enc (l.getD i codS.dft))).length fun i => codS.enc ((comF (rowL codS l.length fun i => codS.enc
    (l.getD i codS.dft))).getD i codS.dft))) ((0 : Nat) + ((W a).tmod ↑(List.length (madM (rowL codS (comF (rowL codS l.length fun i => codS.enc (l.getD i codS.dft))).length
    fun i => codS.enc ((comF (rowL codS l.length fun i => codS.enc (l.getD i codS.dft))).getD i codS.dft))))).toNat)) (0 : Nat) [SV.int IntKind.u8 (bits BinOp.xor IntKind.u8
    (↑(List.getD (madM (rowL codS (comF (rowL codS l.length fun i => codS.enc (l.getD i codS.dft))).length fun i => codS.enc ((comF (rowL codS l.length fun i => codS.enc
    (l.getD i codS.dft))).getD i codS.dft))) ((0 : Nat) + ((W a).tmod ↑(List.length (madM (rowL codS (comF (rowL codS l.length fun i => codS.enc (l.getD i codS.dft))).length
    fun i => codS.enc ((comF (rowL codS l.length fun i => codS.enc (l.getD i codS.dft))).getD i codS.dft))))).toNat) (0 : UInt8)).toNat) b)]) (byteSV (madM (rowL codS
    (comF (rowL codS l.length fun i => codS.enc (l.getD i codS.dft))).length fun i => codS.enc ((comF (rowL codS l.length fun i => codS.enc (l.getD i codS.dft))).getD
    i codS.dft))) ((0 : Nat) + i))) == (0 : Int)) = false → True ∧ True ∧ true = false ∧ True))) ∧ (decide (↑(comF (rowL codS l.length fun i => codS.enc (l.getD i codS.dft))).length
    > (1 : Int)) = false → (0 : Nat) + List.length (madM (rowL codS (comF (rowL codS l.length fun i => codS.enc (l.getD i codS.dft))).length fun i => codS.enc ((comF
    (rowL codS l.length fun i => codS.enc (l.getD i codS.dft))).getD i codS.dft))) ≤ List.length (madM (rowL codS (comF (rowL codS l.length fun i => codS.enc (l.getD
    i codS.dft))).length fun i => codS.enc ((comF (rowL codS l.length fun i => codS.enc (l.getD i codS.dft))).getD i codS.dft))) ∧ (∀ (j : Nat), j < List.length (madM
    (rowL codS (comF (rowL codS l.length fun i => codS.enc (l.getD i codS.dft))).length fun i => codS.enc ((comF (rowL codS l.length fun i => codS.enc (l.getD i codS.dft))).getD
    i codS.dft))) → isByte ((fun (i' : Nat) => mergeL (decide (i' = (0 : Nat) + ((W a).tmod ↑(List.length (madM (rowL codS (comF (rowL codS l.length fun i => codS.enc
    (l.getD i codS.dft))).length fun i => codS.enc ((comF (rowL codS l.length fun i => codS.enc (l.getD i codS.dft))).getD i codS.dft))))).toNat)) (setL (byteSV (madM
    (rowL codS (comF (rowL codS l.length fun i => codS.enc (l.getD i codS.dft))).length fun i => codS.enc ((comF (rowL codS l.length fun i => codS.enc (l.getD i codS.dft))).getD
    i codS.dft))) ((0 : Nat) + ((W a).tmod ↑(List.length (madM (rowL codS (comF (rowL codS l.length fun i => codS.enc (l.getD i codS.dft))).length fun i => codS.enc
    ((comF (rowL codS l.length fun i => codS.enc (l.getD i codS.dft))).getD i codS.dft))))).toNat)) (0 : Nat) [SV.int IntKind.u8 (bits BinOp.xor IntKind.u8 (↑(List.getD
    (madM (rowL codS (comF (rowL codS l.length fun i => codS.enc (l.getD i codS.dft))).length fun i => codS.enc ((comF (rowL codS l.length fun i => codS.enc (l.getD
    i codS.dft))).getD i codS.dft))) ((0 : Nat) + ((W a).tmod ↑(List.length (madM (rowL codS (comF (rowL codS l.length fun i => codS.enc (l.getD i codS.dft))).length
    fun i => codS.enc ((comF (rowL codS l.length fun i => codS.enc (l.getD i codS.dft))).getD i codS.dft))))).toNat) (0 : UInt8)).toNat) b)]) (byteSV (madM (rowL codS
    (comF (rowL codS l.length fun i => codS.enc (l.getD i codS.dft))).length fun i => codS.enc ((comF (rowL codS l.length fun i => codS.enc (l.getD i codS.dft))).getD
    i codS.dft))) i')) ((0 : Nat) + j)) = true) ∧ True ∧ (True ∧ True) ∧ True ∧ True ∧ ((curE (bytesOf (List.length (madM (rowL codS (comF (rowL codS l.length fun i
    => codS.enc (l.getD i codS.dft))).length fun i => codS.enc ((comF (rowL codS l.length fun i => codS.enc (l.getD i codS.dft))).getD i codS.dft)))) fun i => mergeL
    (decide ((0 : Nat) + i = (0 : Nat) + ((W a).tmod ↑(List.length (madM (rowL codS (comF (rowL codS l.length fun i => codS.enc (l.getD i codS.dft))).length fun i =>
    codS.enc ((comF (rowL codS l.length fun i => codS.enc (l.getD i codS.dft))).getD i codS.dft))))).toNat)) (setL (byteSV (madM (rowL codS (comF (rowL codS l.length
    fun i => codS.enc (l.getD i codS.dft))).length fun i => codS.enc ((comF (rowL codS l.length fun i => codS.enc (l.getD i codS.dft))).getD i codS.dft))) ((0 : Nat)
    + ((W a).tmod ↑(List.length (madM (rowL codS (comF (rowL codS l.length fun i => codS.enc (l.getD i codS.dft))).length fun i => codS.enc ((comF (rowL codS l.length
    fun i => codS.enc (l.getD i codS.dft))).getD i codS.dft))))).toNat)) (0 : Nat) [SV.int IntKind.u8 (bits BinOp.xor IntKind.u8 (↑(List.getD (madM (rowL codS (comF
    (rowL codS l.length fun i => codS.enc (l.getD i codS.dft))).length fun i => codS.enc ((comF (rowL codS l.length fun i => codS.enc (l.getD i codS.dft))).getD i codS.dft)))
    ((0 : Nat) + ((W a).tmod ↑(List.length (madM (rowL codS (comF (rowL codS l.length fun i => codS.enc (l.getD i codS.dft))).length fun i => codS.enc ((comF (rowL codS
    l.length fun i => codS.enc (l.getD i codS.dft))).getD i codS.dft))))).toNat) (0 : UInt8)).toNat) b)]) (byteSV (madM (rowL codS (comF (rowL codS l.length fun i =>
    codS.enc (l.getD i codS.dft))).length fun i => codS.enc ((comF (rowL codS l.length fun i => codS.enc (l.getD i codS.dft))).getD i codS.dft))) ((0 : Nat) + i))) ==
    (62 : Int)) = true → ((b != (0 : Int)) = true → (True ∧ True) ∧ True ∧ True ∧ true = true ∧ True) ∧ ((b != (0 : Int)) = false → True ∧ True ∧ true = false ∧ True))
    ∧ ((curE (bytesOf (List.length (madM (rowL codS (comF (rowL codS l.length fun i => codS.enc (l.getD i codS.dft))).length fun i => codS.enc ((comF (rowL codS l.length
    fun i => codS.enc (l.getD i codS.dft))).getD i codS.dft)))) fun i => mergeL (decide ((0 : Nat) + i = (0 : Nat) + ((W a).tmod ↑(List.length (madM (rowL codS (comF
    (rowL codS l.length fun i => codS.enc (l.getD i codS.dft))).length fun i => codS.enc ((comF (rowL codS l.length fun i => codS.enc (l.getD i codS.dft))).getD i codS.dft))))).toNat))
    (setL (byteSV (madM (rowL codS (comF (rowL codS l.length fun i => codS.enc (l.getD i codS.dft))).length fun i => codS.enc ((comF (rowL codS l.length fun i => codS.enc
    (l.getD i codS.dft))).getD i codS.dft))) ((0 : Nat) + ((W a).tmod ↑(List.length (madM (rowL codS (comF (rowL codS l.length fun i => codS.enc (l.getD i codS.dft))).length
    fun i => codS.enc ((comF (rowL codS l.length fun i => codS.enc (l.getD i codS.dft))).getD i codS.dft))))).toNat)) (0 : Nat) [SV.int IntKind.u8 (bits BinOp.xor IntKind.u8
    (↑(List.getD (madM (rowL codS (comF (rowL codS l.length fun i => codS.enc (l.getD i codS.dft))).length fun i => codS.enc ((comF (rowL codS l.length fun i => codS.enc
    (l.getD i codS.dft))).getD i codS.dft))) ((0 : Nat) + ((W a).tmod ↑(List.length (madM (rowL codS (comF (rowL codS l.length fun i => codS.enc (l.getD i codS.dft))).length
    fun i => codS.enc ((comF (rowL codS l.length fun i => codS.enc (l.getD i codS.dft))).getD i codS.dft))))).toNat) (0 : UInt8)).toNat) b)]) (byteSV (madM (rowL codS
    (comF (rowL codS l.length fun i => codS.enc (l.getD i codS.dft))).length fun i => codS.enc ((comF (rowL codS l.length fun i => codS.enc (l.getD i codS.dft))).getD
    i codS.dft))) ((0 : Nat) + i))) == (62 : Int)) = false → ((curE (bytesOf (List.length (madM (rowL codS (comF (rowL codS l.length fun i => codS.enc (l.getD i codS.dft))).length
    fun i => codS.enc ((comF (rowL codS l.length fun i => codS.enc (l.getD i codS.dft))).getD i codS.dft)))) fun i => mergeL (decide ((0 : Nat) + i = (0 : Nat) + ((W
    a).tmod ↑(List.length (madM (rowL codS (comF (rowL codS l.length fun i => codS.enc (l.getD i codS.dft))).length fun i => codS.enc ((comF (rowL codS l.length fun
    i => codS.enc (l.getD i codS.dft))).getD i codS.dft))))).toNat)) (setL (byteSV (madM (rowL codS (comF (rowL codS l.length fun i => codS.enc (l.getD i codS.dft))).length
    fun i => codS.enc ((comF (rowL codS l.length fun i => codS.enc (l.getD i codS.dft))).getD i codS.dft))) ((0 : Nat) + ((W a).tmod ↑(List.length (madM (rowL codS (comF
    (rowL codS l.length fun i => codS.enc (l.getD i codS.dft))).length fun i => codS.enc ((comF (rowL codS l.length fun i => codS.enc (l.getD i codS.dft))).getD i codS.dft))))).toNat))
    (0 : Nat) [SV.int IntKind.u8 (bits BinOp.xor IntKind.u8 (↑(List.getD (madM (rowL codS (comF (rowL codS l.length fun i => codS.enc (l.getD i codS.dft))).length fun
    i => codS.enc ((comF (rowL codS l.length fun i => codS.enc (l.getD i codS.dft))).getD i codS.dft))) ((0 : Nat) + ((W a).tmod ↑(List.length (madM (rowL codS (comF
    (rowL codS l.length fun i => codS.enc (l.getD i codS.dft))).length fun i => codS.enc ((comF (rowL codS l.length fun i => codS.enc (l.getD i codS.dft))).getD i codS.dft))))).toNat)
    (0 : UInt8)).toNat) b)]) (byteSV (madM (rowL codS (comF (rowL codS l.length fun i => codS.enc (l.getD i codS.dft))).length fun i => codS.enc ((comF (rowL codS l.length
    fun i => codS.enc (l.getD i codS.dft))).getD i codS.dft))) ((0 : Nat) + i))) == (0 : Int)) = true → ((curD (bytesOf (List.length (madM (rowL codS (comF (rowL codS
    l.length fun i => codS.enc (l.getD i codS.dft))).length fun i => codS.enc ((comF (rowL codS l.length fun i => codS.enc (l.getD i codS.dft))).getD i codS.dft))))
    fun i => mergeL (decide ((0 : Nat) + i = (0 : Nat) + ((W a).tmod ↑(List.length (madM (rowL codS (comF (rowL codS l.length fun i => codS.enc (l.getD i codS.dft))).length
    fun i => codS.enc ((comF (rowL codS l.length fun i => codS.enc (l.getD i codS.dft))).getD i codS.dft))))).toNat)) (setL (byteSV (madM (rowL codS (comF (rowL codS
    l.length fun i => codS.enc (l.getD i codS.dft))).length fun i => codS.enc ((comF (rowL codS l.length fun i => codS.enc (l.getD i codS.dft))).getD i codS.dft))) ((0
    : Nat) + ((W a).tmod ↑(List.length (madM (rowL codS (comF (rowL codS l.length fun i => codS.enc (l.getD i codS.dft))).length fun i => codS.enc ((comF (rowL codS
    l.length fun i => codS.enc (l.getD i codS.dft))).getD i codS.dft))))).toNat)) (0 : Nat) [SV.int IntKind.u8 (bits BinOp.xor IntKind.u8 (↑(List.getD (madM (rowL codS
    (comF (rowL codS l.length fun i => codS.enc (l.getD i codS.dft))).length fun i => codS.enc ((comF (rowL codS l.length fun i => codS.enc (l.getD i codS.dft))).getD
    i codS.dft))) ((0 : Nat) + ((W a).tmod ↑(List.length (madM (rowL codS (comF (rowL codS l.length fun i => codS.enc (l.getD i codS.dft))).length fun i => codS.enc
    ((comF (rowL codS l.length fun i => codS.enc (l.getD i codS.dft))).getD i codS.dft))))).toNat) (0 : UInt8)).toNat) b)]) (byteSV (madM (rowL codS (comF (rowL codS
    l.length fun i => codS.enc (l.getD i codS.dft))).length fun i => codS.enc ((comF (rowL codS l.length fun i => codS.enc (l.getD i codS.dft))).getD i codS.dft))) ((0
    : Nat) + i))) == #[(102 : UInt8), (105 : UInt8), (114 : UInt8), (115 : UInt8), (116 : UInt8)].toList) = true → (True ∧ True) ∧ True ∧ True ∧ true = true ∧ True)
    ∧ ((curD (bytesOf (List.length (madM (rowL codS (comF (rowL codS l.length fun i => codS.enc (l.getD i codS.dft))).length fun i => codS.enc ((comF (rowL codS l.length
    fun i => codS.enc (l.getD i codS.dft))).getD i codS.dft)))) fun i => mergeL (decide ((0 : Nat) + i = (0 : Nat) + ((W a).tmod ↑(List.length (madM (rowL codS (comF
    (rowL codS l.length fun i => codS.enc (l.getD i codS.dft))).length fun i => codS.enc ((comF (rowL codS l.length fun i => codS.enc (l.getD i codS.dft))).getD i codS.dft))))).toNat))
    (setL (byteSV (madM (rowL codS (comF (rowL codS l.length fun i => codS.enc (l.getD i codS.dft))).length fun i => codS.enc ((comF (rowL codS l.length fun i => codS.enc
    (l.getD i codS.dft))).getD i codS.dft))) ((0 : Nat) + ((W a).tmod ↑(List.length (madM (rowL codS (comF (rowL codS l.length fun i => codS.enc (l.getD i codS.dft))).length
    fun i => codS.enc ((comF (rowL codS l.length fun i => codS.enc (l.getD i codS.dft))).getD i codS.dft))))).toNat)) (0 : Nat) [SV.int IntKind.u8 (bits BinOp.xor IntKind.u8
    (↑(List.getD (madM (rowL codS (comF (rowL codS l.length fun i => codS.enc (l.getD i codS.dft))).length fun i => codS.enc ((comF (rowL codS l.length fun i => codS.enc
    (l.getD i codS.dft))).getD i codS.dft))) ((0 : Nat) + ((W a).tmod ↑(List.length (madM (rowL codS (comF (rowL codS l.length fun i => codS.enc (l.getD i codS.dft))).length
    fun i => codS.enc ((comF (rowL codS l.length fun i => codS.enc (l.getD i codS.dft))).getD i codS.dft))))).toNat) (0 : UInt8)).toNat) b)]) (byteSV (madM (rowL codS
    (comF (rowL codS l.length fun i => codS.enc (l.getD i codS.dft))).length fun i => codS.enc ((comF (rowL codS l.length fun i => codS.enc (l.getD i codS.dft))).getD
    i codS.dft))) ((0 : Nat) + i))) == #[(102 : UInt8), (105 : UInt8), (114 : UInt8), (115 : UInt8), (116 : UInt8)].toList) = false → ((b != (0 : Int)) = true → (decide
    (↑(comF (rowL codS l.length fun i => codS.enc (l.getD i codS.dft))).length > (0 : Int)) = true → ((curD (bytesOf (List.length (madM (rowL codS (comF (rowL codS l.length
    fun i => codS.enc (l.getD i codS.dft))).length fun i => codS.enc ((comF (rowL codS l.length fun i => codS.enc (l.getD i codS.dft))).getD i codS.dft)))) fun i =>
    mergeL (decide ((0 : Nat) + i = (0 : Nat) + ((W a).tmod ↑(List.length (madM (rowL codS (comF (rowL codS l.length fun i => codS.enc (l.getD i codS.dft))).length fun
    i => codS.enc ((comF (rowL codS l.length fun i => codS.enc (l.getD i codS.dft))).getD i codS.dft))))).toNat)) (setL (byteSV (madM (rowL codS (comF (rowL codS l.length
    fun i => codS.enc (l.getD i codS.dft))).length fun i => codS.enc ((comF (rowL codS l.length fun i => codS.enc (l.getD i codS.dft))).getD i codS.dft))) ((0 : Nat)
    + ((W a).tmod ↑(List.length (madM (rowL codS (comF (rowL codS l.length fun i => codS.enc (l.getD i codS.dft))).length fun i => codS.enc ((comF (rowL codS l.length
    fun i => codS.enc (l.getD i codS.dft))).getD i codS.dft))))).toNat)) (0 : Nat) [SV.int IntKind.u8 (bits BinOp.xor IntKind.u8 (↑(List.getD (madM (rowL codS (comF
    (rowL codS l.length fun i => codS.enc (l.getD i codS.dft))).length fun i => codS.enc ((comF (rowL codS l.length fun i => codS.enc (l.getD i codS.dft))).getD i codS.dft)))
    ((0 : Nat) + ((W a).tmod ↑(List.length (madM (rowL codS (comF (rowL codS l.length fun i => codS.enc (l.getD i codS.dft))).length fun i => codS.enc ((comF (rowL codS
    l.length fun i => codS.enc (l.getD i codS.dft))).getD i codS.dft))))).toNat) (0 : UInt8)).toNat) b)]) (byteSV (madM (rowL codS (comF (rowL codS l.length fun i =>
    codS.enc (l.getD i codS.dft))).length fun i => codS.enc ((comF (rowL codS l.length fun i => codS.enc (l.getD i codS.dft))).getD i codS.dft))) ((0 : Nat) + i))) ==
    #[(102 : UInt8), (105 : UInt8), (114 : UInt8), (115 : UInt8), (116 : UInt8)].toList) = true → (True ∧ True) ∧ True ∧ True ∧ true = true ∧ True) ∧ ((curD (bytesOf
    (List.length (madM (rowL codS (comF (rowL codS l.length fun i => codS.enc (l.getD i codS.dft))).length fun i => codS.enc ((comF (rowL codS l.length fun i => codS.enc
    (l.getD i codS.dft))).getD i codS.dft)))) fun i => mergeL (decide ((0 : Nat) + i = (0 : Nat) + ((W a).tmod ↑(List.length (madM (rowL codS (comF (rowL codS l.length
    fun i => codS.enc (l.getD i codS.dft))).length fun i => codS.enc ((comF (rowL codS l.length fun i => codS.enc (l.getD i codS.dft))).getD i codS.dft))))).toNat))
    (setL (byteSV (madM (rowL codS (comF (rowL codS l.length fun i => codS.enc (l.getD i codS.dft))).length fun i => codS.enc ((comF (rowL codS l.length fun i => codS.enc
    (l.getD i codS.dft))).getD i codS.dft))) ((0 : Nat) + ((W a).tmod ↑(List.length (madM (rowL codS (comF (rowL codS l.length fun i => codS.enc (l.getD i codS.dft))).length
    fun i => codS.enc ((comF (rowL codS l.length fun i => codS.enc (l.getD i codS.dft))).getD i codS.dft))))).toNat)) (0 : Nat) [SV.int IntKind.u8 (bits BinOp.xor IntKind.u8
    (↑(List.getD (madM (rowL codS (comF (rowL codS l.length fun i => codS.enc (l.getD i codS.dft))).length fun i => codS.enc ((comF (rowL codS l.length fun i => codS.enc
    (l.getD i codS.dft))).getD i codS.dft))) ((0 : Nat) + ((W a).tmod ↑(List.length (madM (rowL codS (comF (rowL codS l.length fun i => codS.enc (l.getD i codS.dft))).length
    fun i => codS.enc ((comF (rowL codS l.length fun i => codS.enc (l.getD i codS.dft))).getD i codS.dft))))).toNat) (0 : UInt8)).toNat) b)]) (byteSV (madM (rowL codS
    (comF (rowL codS l.length fun i => codS.enc (l.getD i codS.dft))).length fun i => codS.enc ((comF (rowL codS l.length fun i => codS.enc (l.getD i codS.dft))).getD
    i codS.dft))) ((0 : Nat) + i))) == #[(102 : UInt8), (105 : UInt8), (114 : UInt8), (115 : UInt8), (116 : UInt8)].toList) = false → True ∧ True ∧ true = false ∧ True))
    ∧ (decide (↑(comF (rowL codS l.length fun i => codS.enc (l.getD i codS.dft))).length > (0 : Int)) = false → True ∧ True ∧ true = false ∧ True)) ∧ ((b != (0 : Int))
    = false → True ∧ True ∧ true = false ∧ True))) ∧ ((curE (bytesOf (List.length (madM (rowL codS (comF (rowL codS l.length fun i => codS.enc (l.getD i codS.dft))).length
    fun i => codS.enc ((comF (rowL codS l.length fun i => codS.enc (l.getD i codS.dft))).getD i codS.dft)))) fun i => mergeL (decide ((0 : Nat) + i = (0 : Nat) + ((W
    a).tmod ↑(List.length (madM (rowL codS (comF (rowL codS l.length fun i => codS.enc (l.getD i codS.dft))).length fun i => codS.enc ((comF (rowL codS l.length fun
    i => codS.enc (l.getD i codS.dft))).getD i codS.dft))))).toNat)) (setL (byteSV (madM (rowL codS (comF (rowL codS l.length fun i => codS.enc (l.getD i codS.dft))).length
    fun i => codS.enc ((comF (rowL codS l.length fun i => codS.enc (l.getD i codS.dft))).getD i codS.dft))) ((0 : Nat) + ((W a).tmod ↑(List.length (madM (rowL codS (comF
    (rowL codS l.length fun i => codS.enc (l.getD i codS.dft))).length fun i => codS.enc ((comF (rowL codS l.length fun i => codS.enc (l.getD i codS.dft))).getD i codS.dft))))).toNat))
    (0 : Nat) [SV.int IntKind.u8 (bits BinOp.xor IntKind.u8 (↑(List.getD (madM (rowL codS (comF (rowL codS l.length fun i => codS.enc (l.getD i codS.dft))).length fun
    i => codS.enc ((comF (rowL codS l.length fun i => codS.enc (l.getD i codS.dft))).getD i codS.dft))) ((0 : Nat) + ((W a).tmod ↑(List.length (madM (rowL codS (comF
    (rowL codS l.length fun i => codS.enc (l.getD i codS.dft))).length fun i => codS.enc ((comF (rowL codS l.length fun i => codS.enc (l.getD i codS.dft))).getD i codS.dft))))).toNat)
    (0 : UInt8)).toNat) b)]) (byteSV (madM (rowL codS (comF (rowL codS l.length fun i => codS.enc (l.getD i codS.dft))).length fun i => codS.enc ((comF (rowL codS l.length
    fun i => codS.enc (l.getD i codS.dft))).getD i codS.dft))) ((0 : Nat) + i))) == (0 : Int)) = false → True ∧ True ∧ true = false ∧ True))))))) = vc7 l a b := by kernel_rfl
theorem t7 (l : List Bs) (a b : Int) (hl : l.length ≤ 9223372036854775807) (hc : ∀ c ∈ l, c.length ≤ 9223372036854775807) (a0 : 0 ≤ a) (a1 : a < 65536) (b0 : 0 ≤ b) (b1 : b < 256) : vc7 l a b := by
  rw [← vc7_eq]
  simp [-List.getD_eq_getElem?_getD, W_def, by_def, selfS, flp_eq, isB_mrg]
  have cl := com_ok l
  have cn := com_len l
  generalize comF l = k at *
  obtain ⟨cl1, cl2⟩ := cl
  have ml := (mad_two cl2).1
  have mne : ¬ madM k = [] := fun h => by rw [h] at ml; simp at ml
  have wa : W a = a := W_id (by omega) (by omega)
  have k1 : W ((k.length : Int) - 1) = (k.length : Int) - 1 := W_id (by omega) (by omega)
  have k2 : W ((k.length : Int) - 2) = (k.length : Int) - 2 := W_id (by omega) (by omega)
  have e2 : a.tdiv 2 = a / 2 := Int.tdiv_eq_ediv_of_nonneg a0
  have e4 : a.tdiv 4 = a / 4 := Int.tdiv_eq_ediv_of_nonneg a0
  have w2 : W (a / 2) = a / 2 := W_id (by omega) (by omega)
  have w4 : W (a / 4) = a / 4 := W_id (by omega) (by omega)
  have m2 : (a / 2).tmod 2 = a / 2 % 2 := Int.tmod_eq_emod_of_nonneg (by omega)
  have m4 : (a / 4).tmod 20 = a / 4 % 20 := Int.tmod_eq_emod_of_nonneg (by omega)
  have w3 : W (a / 2 % 2 * 1031) = a / 2 % 2 * 1031 := W_id (by omega) (by omega)
  have w5 : W (a / 2 % 2 * 1031 + a / 4 % 20) = a / 2 % 2 * 1031 + a / 4 % 20 := W_id (by omega) (by omega)
  have mm : a.tmod (2062 : Int) = a % 2062 := Int.tmod_eq_emod_of_nonneg a0
  have f2 : a.tmod 2 = a % 2 := Int.tmod_eq_emod_of_nonneg a0
  simp only [wa, k1, k2, e2, e4, w2, w4, m2, m4, w3, w5, ml, f2, show ((2062 : Nat) : Int) = 2062 from rfl, mm]
  have A : ∀ (i : Nat) (x y : Bs), i < 2062 → x = (if k = [] then firstB else k.getD (k.length - 1) []) → (¬ k = [] → y = if k.length ≤ 1 then firstB else k.getD (k.length - 2) []) →
      (curE (flp (madM k) i b) = 62 → ¬ b = 0) ∧ (¬ curE (flp (madM k) i b) = 62 → (curE (flp (madM k) i b) = 0 → ¬ curD (flp (madM k) i b) = x → (¬ b = 0 → (0 < k.length → curD (flp (madM k) i b) = y) ∧ ¬ k = []) ∧ ¬ b = 0) ∧ curE (flp (madM k) i b) = 0) := fun i x y hi hx hy => by
    have d := det_law cl2 hi b0 b1
    refine ⟨d.1, fun h => ⟨fun h1 h2 => ?_, d.2.1 h⟩⟩
    rw [hx] at h2
    obtain ⟨p1, p2, p3⟩ := d.2.2 h1 h2
    exact ⟨fun _ => ⟨fun _ => p3.trans (hy p2).symm, p2⟩, p1⟩
  have core : ∀ i : Nat, i < 2062 → (0 < k.length → (0 ≤ (k.length : Int) - 1 ∧ (k.length : Int) - 1 < k.length) ∧
      (1 < (k.length : Int) → (0 ≤ (k.length : Int) - 2 ∧ (k.length : Int) - 2 < k.length) ∧ (curE (flp (madM k) i b) = 62 → ¬ b = 0) ∧ (¬ curE (flp (madM k) i b) = 62 → (curE (flp (madM k) i b) = 0 → ¬ curD (flp (madM k) i b) = k.getD ((k.length : Int) - 1).toNat [] → (¬ b = 0 → (0 < k.length → curD (flp (madM k) i b) = k.getD ((k.length : Int) - 2).toNat []) ∧ ¬ k = []) ∧ ¬ b = 0) ∧ curE (flp (madM k) i b) = 0)) ∧
      ((k.length : Int) ≤ 1 → (curE (flp (madM k) i b) = 62 → ¬ b = 0) ∧ (¬ curE (flp (madM k) i b) = 62 → (curE (flp (madM k) i b) = 0 → ¬ curD (flp (madM k) i b) = k.getD ((k.length : Int) - 1).toNat [] → (¬ b = 0 → (0 < k.length → curD (flp (madM k) i b) = [102, 105, 114, 115, 116]) ∧ ¬ k = []) ∧ ¬ b = 0) ∧ curE (flp (madM k) i b) = 0))) ∧
      (k = [] → (1 < (k.length : Int) → (0 ≤ (k.length : Int) - 2 ∧ (k.length : Int) - 2 < k.length) ∧ (curE (flp (madM k) i b) = 62 → ¬ b = 0) ∧ (¬ curE (flp (madM k) i b) = 62 → (curE (flp (madM k) i b) = 0 → ¬ curD (flp (madM k) i b) = [102, 105, 114, 115, 116] → (¬ b = 0 → (0 < k.length → curD (flp (madM k) i b) = k.getD ((k.length : Int) - 2).toNat []) ∧ ¬ k = []) ∧ ¬ b = 0) ∧ curE (flp (madM k) i b) = 0)) ∧
      ((k.length : Int) ≤ 1 → (curE (flp (madM k) i b) = 62 → ¬ b = 0) ∧ (¬ curE (flp (madM k) i b) = 62 → (curE (flp (madM k) i b) = 0 → ¬ curD (flp (madM k) i b) = [102, 105, 114, 115, 116] → (¬ b = 0 → (0 < k.length → curD (flp (madM k) i b) = [102, 105, 114, 115, 116]) ∧ ¬ k = []) ∧ ¬ b = 0) ∧ curE (flp (madM k) i b) = 0))) := fun i hi => by
    have x1 : 0 < k.length → k.getD ((k.length : Int) - 1).toNat [] = if k = [] then firstB else k.getD (k.length - 1) [] := fun h => by
      rw [if_neg (List.length_pos_iff.1 h), show ((k.length : Int) - 1).toNat = k.length - 1 by omega]
    refine ⟨fun h => ⟨by omega, fun h2 => ⟨by omega, A i _ _ hi (x1 h) fun _ => ?_⟩, fun h2 => A i _ _ hi (x1 h) fun _ => ?_⟩, fun h => ⟨fun h2 => absurd h (List.length_pos_iff.1 (by omega)), fun h2 => A i _ _ hi ?_ fun g => absurd h g⟩⟩
    · rw [if_neg (by omega), show ((k.length : Int) - 2).toNat = k.length - 2 by omega]
    · rw [if_pos (by omega)]; rfl
    · rw [if_pos h]; rfl
  exact ⟨⟨hl, hc⟩, ⟨cl1, cl2⟩, mne, fun _ => ⟨by omega, by omega, by omega, by omega, core _ (by omega)⟩, fun _ => ⟨by omega, by omega, by omega, by omega, core _ (by omega)⟩⟩
end Go.Proofs.Nv
