import Derived.Test.YtkpgbnchidjapaaNvK
namespace Go.Proofs.Nv
set_option linter.unusedVariables false
set_option linter.unusedSimpArgs false
open Go Go.Sx Go.Proofs
set_option maxRecDepth 100000
set_option maxHeartbeats 4000000
-- SAME: sm
-- ABBR: IntKind.i64.wrap ==> W
noncomputable def A4 (l : List Bs) (x : List Bit) (n : Int) : List Ann := [⟨.unit, .int .i64 (.tm 11), fun _ (x : Int) => 0 ≤ x ∧ x ≤ 4, fun _ (x : Int) => (4 - x).toNat⟩]
noncomputable def vc4 (l : List Bs) (x : List Bit) (n : Int) : Prop := cva T14 Try.f4 (A4 l x n) [encR codS l, encR codBit x, iS n] (.bool true)
noncomputable def A5 (l : List Bs) (s : Bs) : List Ann := [⟨.unit, .int .i64 (.tm 9), fun _ (x : Int) => -1 ≤ x ∧ x ≤ s.length + 10, fun _ (x : Int) => (s.length + 10 - x).toNat⟩]
noncomputable def vc5 (l : List Bs) (s : Bs) : Prop := cva T14 Try.f5 (A5 l s) [encR codS l, .str s] (.bool true)
theorem vc4_eq (l : List Bs) (x : List Bit) (n : Int) : (True ∧ True ∧ ((∀ (i : Nat), i < l.length → true = true ∧ True) ∧ (rowL codS l.length fun i => codS.enc (l.getD i codS.dft)).length ≤ (9223372036854775807 : Nat)
    ∧ ∀ (c : List UInt8), (c ∈ rowL codS l.length fun i => codS.enc (l.getD i codS.dft)) → c.length ≤ (9223372036854775807 : Nat)) ∧ True ∧ True ∧ ((∀ (i : Nat), i <
    (comF (rowL codS l.length fun i => codS.enc (l.getD i codS.dft))).length → true = true ∧ True) ∧ (rowL codS (comF (rowL codS l.length fun i => codS.enc (l.getD i
    codS.dft))).length fun i => codS.enc ((comF (rowL codS l.length fun i => codS.enc (l.getD i codS.dft))).getD i codS.dft)).length ≤ (1000000 : Nat) ∧ ∀ (c : List
    UInt8), (c ∈ rowL codS (comF (rowL codS l.length fun i => codS.enc (l.getD i codS.dft))).length fun i => codS.enc ((comF (rowL codS l.length fun i => codS.enc (l.getD
    i codS.dft))).getD i codS.dft)) → c.length ≤ (1024 : Nat)) ∧ True ∧ True ∧ (false = true → True ∧ True ∧ true = false ∧ True) ∧ (false = false → True ∧ True ∧ (decide
    (↑(comF (rowL codS l.length fun i => codS.enc (l.getD i codS.dft))).length > (0 : Int)) = true → ((0 : Int) ≤ (0 : Int) ∧ (0 : Int) < ↑(comF (rowL codS l.length
    fun i => codS.enc (l.getD i codS.dft))).length) ∧ ((comF (rowL codS l.length fun i => codS.enc (l.getD i codS.dft))).getD (0 : Nat) codS.dft).length + (1 : Nat)
    ≤ (9223372036854775807 : Nat) ∧ True ∧ True ∧ (((0 : Int) ≤ (0 : Int) ∧ (0 : Int) ≤ (4 : Int)) ∧ ((l.length = l.length ∧ ∀ (i : Nat), i < l.length → sm (l.getD i
    codS.dft) ∧ True) ∧ (x.length = x.length ∧ ∀ (i : Nat), i < x.length → sm ((x.getD i codBit.dft).pos) ∧ sm ((x.getD i codBit.dft).val) ∧ True) ∧ n = n ∧ True ∧ True
    ∧ True ∧ True ∧ (sm ((comF (rowL codS l.length fun i => codS.enc (l.getD i codS.dft))).length) ∧ ∀ (i : Nat), i < (comF (rowL codS l.length fun i => codS.enc (l.getD
    i codS.dft))).length → sm ((comF (rowL codS l.length fun i => codS.enc (l.getD i codS.dft))).getD i codS.dft) ∧ True) ∧ sm (madM (rowL codS (comF (rowL codS l.length
    fun i => codS.enc (l.getD i codS.dft))).length fun i => codS.enc ((comF (rowL codS l.length fun i => codS.enc (l.getD i codS.dft))).getD i codS.dft))) ∧ true = true
    ∧ sm ((comF (rowL codS l.length fun i => codS.enc (l.getD i codS.dft))).getD (0 : Nat) codS.dft ++ #[(33 : UInt8)].toList) ∧ sm ((0 : Int)) ∧ True ∧ True ∧ True
    ∧ True ∧ True ∧ True ∧ (l.length = l.length ∧ ∀ (i : Nat), i < l.length → sm (l.getD i codS.dft) ∧ True) ∧ (sm ((comF (rowL codS l.length fun i => codS.enc (l.getD
    i codS.dft))).length) ∧ ∀ (i : Nat), i < (comF (rowL codS l.length fun i => codS.enc (l.getD i codS.dft))).length → sm ((comF (rowL codS l.length fun i => codS.enc
    (l.getD i codS.dft))).getD i codS.dft) ∧ True) ∧ (sm (madM (rowL codS (comF (rowL codS l.length fun i => codS.enc (l.getD i codS.dft))).length fun i => codS.enc
    ((comF (rowL codS l.length fun i => codS.enc (l.getD i codS.dft))).getD i codS.dft))) ∧ true = true ∧ True) ∧ (sm ((comF (rowL codS l.length fun i => codS.enc (l.getD
    i codS.dft))).length) ∧ ∀ (i : Nat), i < (comF (rowL codS l.length fun i => codS.enc (l.getD i codS.dft))).length → sm ((comF (rowL codS l.length fun i => codS.enc
    (l.getD i codS.dft))).getD i codS.dft) ∧ True) ∧ (sm (madM (rowL codS (comF (rowL codS l.length fun i => codS.enc (l.getD i codS.dft))).length fun i => codS.enc
    ((comF (rowL codS l.length fun i => codS.enc (l.getD i codS.dft))).getD i codS.dft))) ∧ true = true ∧ True) ∧ sm (madM (rowL codS (comF (rowL codS l.length fun i
    => codS.enc (l.getD i codS.dft))).length fun i => codS.enc ((comF (rowL codS l.length fun i => codS.enc (l.getD i codS.dft))).getD i codS.dft))) ∧ true = true ∧
    true = true ∧ True ∧ (sm ((comF (rowL codS l.length fun i => codS.enc (l.getD i codS.dft))).length) ∧ ∀ (i : Nat), i < (comF (rowL codS l.length fun i => codS.enc
    (l.getD i codS.dft))).length → sm ((comF (rowL codS l.length fun i => codS.enc (l.getD i codS.dft))).getD i codS.dft) ∧ True) ∧ Eq (α := Int) ↑(comF (rowL codS l.length
    fun i => codS.enc (l.getD i codS.dft))).length ↑(comF (rowL codS l.length fun i => codS.enc (l.getD i codS.dft))).length ∧ True ∧ (sm ((comF (rowL codS l.length
    fun i => codS.enc (l.getD i codS.dft))).length) ∧ ∀ (i : Nat), i < (comF (rowL codS l.length fun i => codS.enc (l.getD i codS.dft))).length → sm ((comF (rowL codS
    l.length fun i => codS.enc (l.getD i codS.dft))).getD i codS.dft) ∧ True) ∧ (sm ((comF (rowL codS l.length fun i => codS.enc (l.getD i codS.dft))).length) ∧ sm ((0
    : Nat)) ∧ ∀ (i : Nat), i < (comF (rowL codS l.length fun i => codS.enc (l.getD i codS.dft))).length → sm ((comF (rowL codS l.length fun i => codS.enc (l.getD i codS.dft))).getD
    i codS.dft) ∧ True) ∧ sm ((comF (rowL codS l.length fun i => codS.enc (l.getD i codS.dft))).getD (0 : Nat) codS.dft) ∧ sm ((comF (rowL codS l.length fun i => codS.enc
    (l.getD i codS.dft))).getD (0 : Nat) codS.dft ++ #[(33 : UInt8)].toList) ∧ True ∧ True ∧ True ∧ True ∧ True ∧ True ∧ True ∧ True ∧ True ∧ True ∧ True ∧ True ∧ True
    ∧ True ∧ True ∧ True ∧ True ∧ True ∧ True ∧ True ∧ True ∧ True ∧ True ∧ True ∧ True ∧ True ∧ True ∧ True ∧ True ∧ True ∧ True ∧ True ∧ True ∧ True ∧ True ∧ True
    ∧ True ∧ True ∧ True ∧ True ∧ True ∧ True ∧ True ∧ True ∧ True ∧ True ∧ True ∧ True) ∧ True) ∧ ∀ (n_1 : Int), (0 : Int) ≤ n_1 ∧ n_1 ≤ (4 : Int) → True ∧ (decide
    (n_1 < (4 : Int)) = true → (40 : Int) ≠ (0 : Int) ∧ ((0 : Int) ≤ n_1 ∧ n_1 < (4 : Int)) ∧ (0 : Nat) + n_1.toNat < (4 : Nat) ∧ True ∧ True ∧ (2 : Int) ≠ (0 : Int)
    ∧ True ∧ ((n_1.tmod (2 : Int) == (1 : Int)) = true → True ∧ True ∧ ((True ∧ ∀ (i : Nat), i < x.length → true = true ∧ True) ∧ List.length (madM (rowL codS (comF
    (rowL codS l.length fun i => codS.enc (l.getD i codS.dft))).length fun i => codS.enc ((comF (rowL codS l.length fun i => codS.enc (l.getD i codS.dft))).getD i codS.dft)))
    = (2062 : Nat) ∧ (rowL codBit x.length fun i => codBit.enc (x.getD i codBit.dft)).length ≤ (9223372036854775807 : Nat) ∧ ∀ (b : Bit), (b ∈ rowL codBit x.length fun
    i => codBit.enc (x.getD i codBit.dft)) → (Lit.int IntKind.u16 b.pos).wf = true ∧ (Lit.int IntKind.u8 b.val).wf = true) ∧ True ∧ True ∧ True ∧ True ∧ ((True ∧ True
    ∧ True) ∧ ((comF (rowL codS l.length fun i => codS.enc (l.getD i codS.dft))).getD (0 : Nat) codS.dft ++ #[(33 : UInt8)].toList).length ≤ (1000000 : Nat) ∧ ((-9223372036854775808
    : Int) ≤ if decide ((0 : Nat) + n_1.toNat = (3 : Nat)) = true then W (↑((comF (rowL codS l.length fun i => codS.enc (l.getD i codS.dft))).getD (0 : Nat) codS.dft
    ++ #[(33 : UInt8)].toList).length + (8 : Int)) else if decide ((0 : Nat) + n_1.toNat = (2 : Nat)) = true then W (↑((comF (rowL codS l.length fun i => codS.enc (l.getD
    i codS.dft))).getD (0 : Nat) codS.dft ++ #[(33 : UInt8)].toList).length + (7 : Int)) else if decide ((0 : Nat) + n_1.toNat = (1 : Nat)) = true then n.tmod (40 :
    Int) else if decide ((0 : Nat) + n_1.toNat = (0 : Nat)) = true then n else (0 : Int)) ∧ (if decide ((0 : Nat) + n_1.toNat = (3 : Nat)) = true then W (↑((comF (rowL
    codS l.length fun i => codS.enc (l.getD i codS.dft))).getD (0 : Nat) codS.dft ++ #[(33 : UInt8)].toList).length + (8 : Int)) else if decide ((0 : Nat) + n_1.toNat
    = (2 : Nat)) = true then W (↑((comF (rowL codS l.length fun i => codS.enc (l.getD i codS.dft))).getD (0 : Nat) codS.dft ++ #[(33 : UInt8)].toList).length + (7 :
    Int)) else if decide ((0 : Nat) + n_1.toNat = (1 : Nat)) = true then n.tmod (40 : Int) else if decide ((0 : Nat) + n_1.toNat = (0 : Nat)) = true then n else (0 :
    Int)) < (9223372036854775808 : Int)) ∧ True ∧ True ∧ True ∧ True ∧ ((True ∧ True ∧ True) ∧ ((comF (rowL codS l.length fun i => codS.enc (l.getD i codS.dft))).getD
    (0 : Nat) codS.dft ++ #[(33 : UInt8)].toList).length ≤ (1000000 : Nat) ∧ ((-9223372036854775808 : Int) ≤ if decide ((0 : Nat) + n_1.toNat = (3 : Nat)) = true then
    W (↑((comF (rowL codS l.length fun i => codS.enc (l.getD i codS.dft))).getD (0 : Nat) codS.dft ++ #[(33 : UInt8)].toList).length + (8 : Int)) else if decide ((0
    : Nat) + n_1.toNat = (2 : Nat)) = true then W (↑((comF (rowL codS l.length fun i => codS.enc (l.getD i codS.dft))).getD (0 : Nat) codS.dft ++ #[(33 : UInt8)].toList).length
    + (7 : Int)) else if decide ((0 : Nat) + n_1.toNat = (1 : Nat)) = true then n.tmod (40 : Int) else if decide ((0 : Nat) + n_1.toNat = (0 : Nat)) = true then n else
    (0 : Int)) ∧ (if decide ((0 : Nat) + n_1.toNat = (3 : Nat)) = true then W (↑((comF (rowL codS l.length fun i => codS.enc (l.getD i codS.dft))).getD (0 : Nat) codS.dft
    ++ #[(33 : UInt8)].toList).length + (8 : Int)) else if decide ((0 : Nat) + n_1.toNat = (2 : Nat)) = true then W (↑((comF (rowL codS l.length fun i => codS.enc (l.getD
    i codS.dft))).getD (0 : Nat) codS.dft ++ #[(33 : UInt8)].toList).length + (7 : Int)) else if decide ((0 : Nat) + n_1.toNat = (1 : Nat)) = true then n.tmod (40 :
    Int) else if decide ((0 : Nat) + n_1.toNat = (0 : Nat)) = true then n else (0 : Int)) < (9223372036854775808 : Int)) ∧ True ∧ ((!cmS (chgS (madM (rowL codS (comF
    (rowL codS l.length fun i => codS.enc (l.getD i codS.dft))).length fun i => codS.enc ((comF (rowL codS l.length fun i => codS.enc (l.getD i codS.dft))).getD i codS.dft)))
    (rowL codBit x.length fun i => codBit.enc (x.getD i codBit.dft))) ((comF (rowL codS l.length fun i => codS.enc (l.getD i codS.dft))).getD (0 : Nat) codS.dft ++ #[(33
    : UInt8)].toList) (if decide ((0 : Nat) + n_1.toNat = (3 : Nat)) = true then W (↑((comF (rowL codS l.length fun i => codS.enc (l.getD i codS.dft))).getD (0 : Nat)
    codS.dft ++ #[(33 : UInt8)].toList).length + (8 : Int)) else if decide ((0 : Nat) + n_1.toNat = (2 : Nat)) = true then W (↑((comF (rowL codS l.length fun i => codS.enc
    (l.getD i codS.dft))).getD (0 : Nat) codS.dft ++ #[(33 : UInt8)].toList).length + (7 : Int)) else if decide ((0 : Nat) + n_1.toNat = (1 : Nat)) = true then n.tmod
    (40 : Int) else if decide ((0 : Nat) + n_1.toNat = (0 : Nat)) = true then n else (0 : Int)) == cmS (chgS (madM (rowL codS (comF (rowL codS l.length fun i => codS.enc
    (l.getD i codS.dft))).length fun i => codS.enc ((comF (rowL codS l.length fun i => codS.enc (l.getD i codS.dft))).getD i codS.dft))) (rowL codBit x.length fun i
    => codBit.enc (x.getD i codBit.dft))) ((comF (rowL codS l.length fun i => codS.enc (l.getD i codS.dft))).getD (0 : Nat) codS.dft ++ #[(33 : UInt8)].toList) (if decide
    ((0 : Nat) + n_1.toNat = (3 : Nat)) = true then W (↑((comF (rowL codS l.length fun i => codS.enc (l.getD i codS.dft))).getD (0 : Nat) codS.dft ++ #[(33 : UInt8)].toList).length
    + (8 : Int)) else if decide ((0 : Nat) + n_1.toNat = (2 : Nat)) = true then W (↑((comF (rowL codS l.length fun i => codS.enc (l.getD i codS.dft))).getD (0 : Nat)
    codS.dft ++ #[(33 : UInt8)].toList).length + (7 : Int)) else if decide ((0 : Nat) + n_1.toNat = (1 : Nat)) = true then n.tmod (40 : Int) else if decide ((0 : Nat)
    + n_1.toNat = (0 : Nat)) = true then n else (0 : Int))) = true → True ∧ True ∧ True ∧ true = false ∧ True) ∧ ((!cmS (chgS (madM (rowL codS (comF (rowL codS l.length
    fun i => codS.enc (l.getD i codS.dft))).length fun i => codS.enc ((comF (rowL codS l.length fun i => codS.enc (l.getD i codS.dft))).getD i codS.dft))) (rowL codBit
    x.length fun i => codBit.enc (x.getD i codBit.dft))) ((comF (rowL codS l.length fun i => codS.enc (l.getD i codS.dft))).getD (0 : Nat) codS.dft ++ #[(33 : UInt8)].toList)
    (if decide ((0 : Nat) + n_1.toNat = (3 : Nat)) = true then W (↑((comF (rowL codS l.length fun i => codS.enc (l.getD i codS.dft))).getD (0 : Nat) codS.dft ++ #[(33
    : UInt8)].toList).length + (8 : Int)) else if decide ((0 : Nat) + n_1.toNat = (2 : Nat)) = true then W (↑((comF (rowL codS l.length fun i => codS.enc (l.getD i codS.dft))).getD
    (0 : Nat) codS.dft ++ #[(33 : UInt8)].toList).length + (7 : Int)) else if decide ((0 : Nat) + n_1.toNat = (1 : Nat)) = true then n.tmod (40 : Int) else if decide
    ((0 : Nat) + n_1.toNat = (0 : Nat)) = true then n else (0 : Int)) == cmS (chgS (madM (rowL codS (comF (rowL codS l.length fun i => codS.enc (l.getD i codS.dft))).length
    fun i => codS.enc ((comF (rowL codS l.length fun i => codS.enc (l.getD i codS.dft))).getD i codS.dft))) (rowL codBit x.length fun i => codBit.enc (x.getD i codBit.dft)))
    ((comF (rowL codS l.length fun i => codS.enc (l.getD i codS.dft))).getD (0 : Nat) codS.dft ++ #[(33 : UInt8)].toList) (if decide ((0 : Nat) + n_1.toNat = (3 : Nat))
    = true then W (↑((comF (rowL codS l.length fun i => codS.enc (l.getD i codS.dft))).getD (0 : Nat) codS.dft ++ #[(33 : UInt8)].toList).length + (8 : Int)) else if
    decide ((0 : Nat) + n_1.toNat = (2 : Nat)) = true then W (↑((comF (rowL codS l.length fun i => codS.enc (l.getD i codS.dft))).getD (0 : Nat) codS.dft ++ #[(33 :
    UInt8)].toList).length + (7 : Int)) else if decide ((0 : Nat) + n_1.toNat = (1 : Nat)) = true then n.tmod (40 : Int) else if decide ((0 : Nat) + n_1.toNat = (0 :
    Nat)) = true then n else (0 : Int))) = false → True ∧ ((cmE (chgS (madM (rowL codS (comF (rowL codS l.length fun i => codS.enc (l.getD i codS.dft))).length fun i
    => codS.enc ((comF (rowL codS l.length fun i => codS.enc (l.getD i codS.dft))).getD i codS.dft))) (rowL codBit x.length fun i => codBit.enc (x.getD i codBit.dft)))
    ((comF (rowL codS l.length fun i => codS.enc (l.getD i codS.dft))).getD (0 : Nat) codS.dft ++ #[(33 : UInt8)].toList) (if decide ((0 : Nat) + n_1.toNat = (3 : Nat))
    = true then W (↑((comF (rowL codS l.length fun i => codS.enc (l.getD i codS.dft))).getD (0 : Nat) codS.dft ++ #[(33 : UInt8)].toList).length + (8 : Int)) else if
    decide ((0 : Nat) + n_1.toNat = (2 : Nat)) = true then W (↑((comF (rowL codS l.length fun i => codS.enc (l.getD i codS.dft))).getD (0 : Nat) codS.dft ++ #[(33 :
    UInt8)].toList).length + (7 : Int)) else if decide ((0 : Nat) + n_1.toNat = (1 : Nat)) = true then n.tmod (40 : Int) else if decide ((0 : Nat) + n_1.toNat = (0 :
    Nat)) = true then n else (0 : Int)) != cmE (chgS (madM (rowL codS (comF (rowL codS l.length fun i => codS.enc (l.getD i codS.dft))).length fun i => codS.enc ((comF
    (rowL codS l.length fun i => codS.enc (l.getD i codS.dft))).getD i codS.dft))) (rowL codBit x.length fun i => codBit.enc (x.getD i codBit.dft))) ((comF (rowL codS
    l.length fun i => codS.enc (l.getD i codS.dft))).getD (0 : Nat) codS.dft ++ #[(33 : UInt8)].toList) (if decide ((0 : Nat) + n_1.toNat = (3 : Nat)) = true then W
    (↑((comF (rowL codS l.length fun i => codS.enc (l.getD i codS.dft))).getD (0 : Nat) codS.dft ++ #[(33 : UInt8)].toList).length + (8 : Int)) else if decide ((0 :
    Nat) + n_1.toNat = (2 : Nat)) = true then W (↑((comF (rowL codS l.length fun i => codS.enc (l.getD i codS.dft))).getD (0 : Nat) codS.dft ++ #[(33 : UInt8)].toList).length
    + (7 : Int)) else if decide ((0 : Nat) + n_1.toNat = (1 : Nat)) = true then n.tmod (40 : Int) else if decide ((0 : Nat) + n_1.toNat = (0 : Nat)) = true then n else
    (0 : Int))) = true → True ∧ True ∧ true = false ∧ True) ∧ ((cmE (chgS (madM (rowL codS (comF (rowL codS l.length fun i => codS.enc (l.getD i codS.dft))).length fun
    i => codS.enc ((comF (rowL codS l.length fun i => codS.enc (l.getD i codS.dft))).getD i codS.dft))) (rowL codBit x.length fun i => codBit.enc (x.getD i codBit.dft)))
    ((comF (rowL codS l.length fun i => codS.enc (l.getD i codS.dft))).getD (0 : Nat) codS.dft ++ #[(33 : UInt8)].toList) (if decide ((0 : Nat) + n_1.toNat = (3 : Nat))
    = true then W (↑((comF (rowL codS l.length fun i => codS.enc (l.getD i codS.dft))).getD (0 : Nat) codS.dft ++ #[(33 : UInt8)].toList).length + (8 : Int)) else if
    decide ((0 : Nat) + n_1.toNat = (2 : Nat)) = true then W (↑((comF (rowL codS l.length fun i => codS.enc (l.getD i codS.dft))).getD (0 : Nat) codS.dft ++ #[(33 :
    UInt8)].toList).length + (7 : Int)) else if decide ((0 : Nat) + n_1.toNat = (1 : Nat)) = true then n.tmod (40 : Int) else if decide ((0 : Nat) + n_1.toNat = (0 :
    Nat)) = true then n else (0 : Int)) != cmE (chgS (madM (rowL codS (comF (rowL codS l.length fun i => codS.enc (l.getD i codS.dft))).length fun i => codS.enc ((comF
    (rowL codS l.length fun i => codS.enc (l.getD i codS.dft))).getD i codS.dft))) (rowL codBit x.length fun i => codBit.enc (x.getD i codBit.dft))) ((comF (rowL codS
    l.length fun i => codS.enc (l.getD i codS.dft))).getD (0 : Nat) codS.dft ++ #[(33 : UInt8)].toList) (if decide ((0 : Nat) + n_1.toNat = (3 : Nat)) = true then W
    (↑((comF (rowL codS l.length fun i => codS.enc (l.getD i codS.dft))).getD (0 : Nat) codS.dft ++ #[(33 : UInt8)].toList).length + (8 : Int)) else if decide ((0 :
    Nat) + n_1.toNat = (2 : Nat)) = true then W (↑((comF (rowL codS l.length fun i => codS.enc (l.getD i codS.dft))).getD (0 : Nat) codS.dft ++ #[(33 : UInt8)].toList).length
    + (7 : Int)) else if decide ((0 : Nat) + n_1.toNat = (1 : Nat)) = true then n.tmod (40 : Int) else if decide ((0 : Nat) + n_1.toNat = (0 : Nat)) = true then n else
    (0 : Int))) = false → True ∧ ((0 : Int) ≤ W (n_1 + (1 : Int)) ∧ W (n_1 + (1 : Int)) ≤ (4 : Int)) ∧ ((4 : Int) - W (n_1 + (1 : Int))).toNat < ((4 : Int) - n_1).toNat
    ∧ ((l.length = l.length ∧ ∀ (i : Nat), i < l.length → sm (l.getD i codS.dft) ∧ True) ∧ (x.length = x.length ∧ ∀ (i : Nat), i < x.length → sm ((x.getD i codBit.dft).pos)
    ∧ sm ((x.getD i codBit.dft).val) ∧ True) ∧ n = n ∧ True ∧ True ∧ True ∧ True ∧ (sm ((comF (rowL codS l.length fun i => codS.enc (l.getD i codS.dft))).length) ∧ ∀
    (i : Nat), i < (comF (rowL codS l.length fun i => codS.enc (l.getD i codS.dft))).length → sm ((comF (rowL codS l.length fun i => codS.enc (l.getD i codS.dft))).getD
    i codS.dft) ∧ True) ∧ sm (madM (rowL codS (comF (rowL codS l.length fun i => codS.enc (l.getD i codS.dft))).length fun i => codS.enc ((comF (rowL codS l.length fun
    i => codS.enc (l.getD i codS.dft))).getD i codS.dft))) ∧ true = true ∧ sm ((comF (rowL codS l.length fun i => codS.enc (l.getD i codS.dft))).getD (0 : Nat) codS.dft
    ++ #[(33 : UInt8)].toList) ∧ sm (W (n_1 + (1 : Int))) ∧ True ∧ True ∧ True ∧ True ∧ True ∧ True ∧ (l.length = l.length ∧ ∀ (i : Nat), i < l.length → sm (l.getD i
    codS.dft) ∧ True) ∧ (sm ((comF (rowL codS l.length fun i => codS.enc (l.getD i codS.dft))).length) ∧ ∀ (i : Nat), i < (comF (rowL codS l.length fun i => codS.enc
    (l.getD i codS.dft))).length → sm ((comF (rowL codS l.length fun i => codS.enc (l.getD i codS.dft))).getD i codS.dft) ∧ True) ∧ (sm (madM (rowL codS (comF (rowL
    codS l.length fun i => codS.enc (l.getD i codS.dft))).length fun i => codS.enc ((comF (rowL codS l.length fun i => codS.enc (l.getD i codS.dft))).getD i codS.dft)))
    ∧ true = true ∧ True) ∧ (sm ((comF (rowL codS l.length fun i => codS.enc (l.getD i codS.dft))).length) ∧ ∀ (i : Nat), i < (comF (rowL codS l.length fun i => codS.enc
    (l.getD i codS.dft))).length → sm ((comF (rowL codS l.length fun i => codS.enc (l.getD i codS.dft))).getD i codS.dft) ∧ True) ∧ (sm (madM (rowL codS (comF (rowL
    codS l.length fun i => codS.enc (l.getD i codS.dft))).length fun i => codS.enc ((comF (rowL codS l.length fun i => codS.enc (l.getD i codS.dft))).getD i codS.dft)))
    ∧ true = true ∧ True) ∧ sm (madM (rowL codS (comF (rowL codS l.length fun i => codS.enc (l.getD i codS.dft))).length fun i => codS.enc ((comF (rowL codS l.length
    fun i => codS.enc (l.getD i codS.dft))).getD i codS.dft))) ∧ true = true ∧ true = true ∧ True ∧ (sm ((comF (rowL codS l.length fun i => codS.enc (l.getD i codS.dft))).length)
    ∧ ∀ (i : Nat), i < (comF (rowL codS l.length fun i => codS.enc (l.getD i codS.dft))).length → sm ((comF (rowL codS l.length fun i => codS.enc (l.getD i codS.dft))).getD
    i codS.dft) ∧ True) ∧ Eq (α := Int) ↑(comF (rowL codS l.length fun i => codS.enc (l.getD i codS.dft))).length ↑(comF (rowL codS l.length fun i => codS.enc (l.getD
    i codS.dft))).length ∧ True ∧ (sm ((comF (rowL codS l.length fun i => codS.enc (l.getD i codS.dft))).length) ∧ ∀ (i : Nat), i < (comF (rowL codS l.length fun i =>
    codS.enc (l.getD i codS.dft))).length → sm ((comF (rowL codS l.length fun i => codS.enc (l.getD i codS.dft))).getD i codS.dft) ∧ True) ∧ (sm ((comF (rowL codS l.length
    fun i => codS.enc (l.getD i codS.dft))).length) ∧ sm ((0 : Nat)) ∧ ∀ (i : Nat), i < (comF (rowL codS l.length fun i => codS.enc (l.getD i codS.dft))).length → sm
    ((comF (rowL codS l.length fun i => codS.enc (l.getD i codS.dft))).getD i codS.dft) ∧ True) ∧ sm ((comF (rowL codS l.length fun i => codS.enc (l.getD i codS.dft))).getD
    (0 : Nat) codS.dft) ∧ sm ((comF (rowL codS l.length fun i => codS.enc (l.getD i codS.dft))).getD (0 : Nat) codS.dft ++ #[(33 : UInt8)].toList) ∧ True ∧ True ∧ True
    ∧ True ∧ True ∧ True ∧ True ∧ True ∧ True ∧ True ∧ True ∧ True ∧ True ∧ True ∧ True ∧ True ∧ True ∧ True ∧ True ∧ True ∧ True ∧ True ∧ True ∧ True ∧ True ∧ True
    ∧ True ∧ True ∧ True ∧ True ∧ True ∧ True ∧ True ∧ True ∧ True ∧ True ∧ True ∧ True ∧ True ∧ True ∧ True ∧ True ∧ True ∧ True ∧ True ∧ True ∧ True ∧ True) ∧ True)))
    ∧ ((n_1.tmod (2 : Int) == (1 : Int)) = false → True ∧ True ∧ True ∧ ((True ∧ True ∧ True) ∧ ((comF (rowL codS l.length fun i => codS.enc (l.getD i codS.dft))).getD
    (0 : Nat) codS.dft ++ #[(33 : UInt8)].toList).length ≤ (1000000 : Nat) ∧ ((-9223372036854775808 : Int) ≤ if decide ((0 : Nat) + n_1.toNat = (3 : Nat)) = true then
    W (↑((comF (rowL codS l.length fun i => codS.enc (l.getD i codS.dft))).getD (0 : Nat) codS.dft ++ #[(33 : UInt8)].toList).length + (8 : Int)) else if decide ((0
    : Nat) + n_1.toNat = (2 : Nat)) = true then W (↑((comF (rowL codS l.length fun i => codS.enc (l.getD i codS.dft))).getD (0 : Nat) codS.dft ++ #[(33 : UInt8)].toList).length
    + (7 : Int)) else if decide ((0 : Nat) + n_1.toNat = (1 : Nat)) = true then n.tmod (40 : Int) else if decide ((0 : Nat) + n_1.toNat = (0 : Nat)) = true then n else
    (0 : Int)) ∧ (if decide ((0 : Nat) + n_1.toNat = (3 : Nat)) = true then W (↑((comF (rowL codS l.length fun i => codS.enc (l.getD i codS.dft))).getD (0 : Nat) codS.dft
    ++ #[(33 : UInt8)].toList).length + (8 : Int)) else if decide ((0 : Nat) + n_1.toNat = (2 : Nat)) = true then W (↑((comF (rowL codS l.length fun i => codS.enc (l.getD
    i codS.dft))).getD (0 : Nat) codS.dft ++ #[(33 : UInt8)].toList).length + (7 : Int)) else if decide ((0 : Nat) + n_1.toNat = (1 : Nat)) = true then n.tmod (40 :
    Int) else if decide ((0 : Nat) + n_1.toNat = (0 : Nat)) = true then n else (0 : Int)) < (9223372036854775808 : Int)) ∧ True ∧ True ∧ True ∧ True ∧ ((True ∧ True
    ∧ True) ∧ ((comF (rowL codS l.length fun i => codS.enc (l.getD i codS.dft))).getD (0 : Nat) codS.dft ++ #[(33 : UInt8)].toList).length ≤ (1000000 : Nat) ∧ ((-9223372036854775808
    : Int) ≤ if decide ((0 : Nat) + n_1.toNat = (3 : Nat)) = true then W (↑((comF (rowL codS l.length fun i => codS.enc (l.getD i codS.dft))).getD (0 : Nat) codS.dft
    ++ #[(33 : UInt8)].toList).length + (8 : Int)) else if decide ((0 : Nat) + n_1.toNat = (2 : Nat)) = true then W (↑((comF (rowL codS l.length fun i => codS.enc (l.getD
    i codS.dft))).getD (0 : Nat) codS.dft ++ #[(33 : UInt8)].toList).length + (7 : Int)) else if decide ((0 : Nat) + n_1.toNat = (1 : Nat)) = true then n.tmod (40 :
    Int) else if decide ((0 : Nat) + n_1.toNat = (0 : Nat)) = true then n else (0 : Int)) ∧ (if decide ((0 : Nat) + n_1.toNat = (3 : Nat)) = true then W (↑((comF (rowL
    codS l.length fun i => codS.enc (l.getD i codS.dft))).getD (0 : Nat) codS.dft ++ #[(33 : UInt8)].toList).length + (8 : Int)) else if decide ((0 : Nat) + n_1.toNat
    = (2 : Nat)) = true then W (↑((comF (rowL codS l.length fun i => codS.enc (l.getD i codS.dft))).getD (0 : Nat) codS.dft ++ #[(33 : UInt8)].toList).length + (7 :
    Int)) else if decide ((0 : Nat) + n_1.toNat = (1 : Nat)) = true then n.tmod (40 : Int) else if decide ((0 : Nat) + n_1.toNat = (0 : Nat)) = true then n else (0 :
    Int)) < (9223372036854775808 : Int)) ∧ True ∧ ((!cmS (madM (rowL codS (comF (rowL codS l.length fun i => codS.enc (l.getD i codS.dft))).length fun i => codS.enc
    ((comF (rowL codS l.length fun i => codS.enc (l.getD i codS.dft))).getD i codS.dft))) ((comF (rowL codS l.length fun i => codS.enc (l.getD i codS.dft))).getD (0
    : Nat) codS.dft ++ #[(33 : UInt8)].toList) (if decide ((0 : Nat) + n_1.toNat = (3 : Nat)) = true then W (↑((comF (rowL codS l.length fun i => codS.enc (l.getD i
    codS.dft))).getD (0 : Nat) codS.dft ++ #[(33 : UInt8)].toList).length + (8 : Int)) else if decide ((0 : Nat) + n_1.toNat = (2 : Nat)) = true then W (↑((comF (rowL
    codS l.length fun i => codS.enc (l.getD i codS.dft))).getD (0 : Nat) codS.dft ++ #[(33 : UInt8)].toList).length + (7 : Int)) else if decide ((0 : Nat) + n_1.toNat
    = (1 : Nat)) = true then n.tmod (40 : Int) else if decide ((0 : Nat) + n_1.toNat = (0 : Nat)) = true then n else (0 : Int)) == cmS (madM (rowL codS (comF (rowL codS
    l.length fun i => codS.enc (l.getD i codS.dft))).length fun i => codS.enc ((comF (rowL codS l.length fun i => codS.enc (l.getD i codS.dft))).getD i codS.dft))) ((comF
    (rowL codS l.length fun i => codS.enc (l.getD i codS.dft))).getD (0 : Nat) codS.dft ++ #[(33 : UInt8)].toList) (if decide ((0 : Nat) + n_1.toNat = (3 : Nat)) = true
    then W (↑((comF (rowL codS l.length fun i => codS.enc (l.getD i codS.dft))).getD (0 : Nat) codS.dft ++ #[(33 : UInt8)].toList).length + (8 : Int)) else if decide
    ((0 : Nat) + n_1.toNat = (2 : Nat)) = true then W (↑((comF (rowL codS l.length fun i => codS.enc (l.getD i codS.dft))).getD (0 : Nat) codS.dft ++ #[(33 : UInt8)].toList).length
    + (7 : Int)) else if decide ((0 : Nat) + n_1.toNat = (1 : Nat)) = true then n.tmod (40 : Int) else if decide ((0 : Nat) + n_1.toNat = (0 : Nat)) = true then n else
    (0 : Int))) = true → True ∧ True ∧ True ∧ true = false ∧ True) ∧ ((!cmS (madM (rowL codS (comF (rowL codS l.length fun i => codS.enc (l.getD i codS.dft))).length
    fun i => codS.enc ((comF (rowL codS l.length fun i => codS.enc (l.getD i codS.dft))).getD i codS.dft))) ((comF (rowL codS l.length fun i => codS.enc (l.getD i codS.dft))).getD
    (0 : Nat) codS.dft ++ #[(33 : UInt8)].toList) (if decide ((0 : Nat) + n_1.toNat = (3 : Nat)) = true then W (↑((comF (rowL codS l.length fun i => codS.enc (l.getD
    i codS.dft))).getD (0 : Nat) codS.dft ++ #[(33 : UInt8)].toList).length + (8 : Int)) else if decide ((0 : Nat) + n_1.toNat = (2 : Nat)) = true then W (↑((comF (rowL
    codS l.length fun i => codS.enc (l.getD i codS.dft))).getD (0 : Nat) codS.dft ++ #[(33 : UInt8)].toList).length + (7 : Int)) else if decide ((0 : Nat) + n_1.toNat
    = (1 : Nat)) = true then n.tmod (40 : Int) else if decide ((0 : Nat) + n_1.toNat = (0 : Nat)) = true then n else (0 : Int)) == cmS (madM (rowL codS (comF (rowL codS
    l.length fun i => codS.enc (l.getD i codS.dft))).length fun i => codS.enc ((comF (rowL codS l.length fun i => codS.enc (l.getD i codS.dft))).getD i codS.dft))) ((comF
    (rowL codS l.length fun i => codS.enc (l.getD i codS.dft))).getD (0 : Nat) codS.dft ++ #[(33 : UInt8)].toList) (if decide ((0 : Nat) + n_1.toNat = (3 : Nat)) = true
    then W (↑((comF (rowL codS l.length fun i => codS.enc (l.getD i codS.dft))).getD (0 : Nat) codS.dft ++ #[(33 : UInt8)].toList).length + (8 : Int)) else if decide
    ((0 : Nat) + n_1.toNat = (2 : Nat)) = true then W (↑((comF (rowL codS l.length fun i => codS.enc (l.getD i codS.dft))).getD (0 : Nat) codS.dft ++ #[(33 : UInt8)].toList).length
    + (7 : Int)) else if decide ((0 : Nat) + n_1.toNat = (1 : Nat)) = true then n.tmod (40 : Int) else if decide ((0 : Nat) + n_1.toNat = (0 : Nat)) = true then n else
    (0 : Int))) = false → True ∧ ((cmE (madM (rowL codS (comF (rowL codS l.length fun i => codS.enc (l.getD i codS.dft))).length fun i => codS.enc ((comF (rowL codS
    l.length fun i => codS.enc (l.getD i codS.dft))).getD i codS.dft))) ((comF (rowL codS l.length fun i => codS.enc (l.getD i codS.dft))).getD (0 : Nat) codS.dft ++
    #[(33 : UInt8)].toList) (if decide ((0 : Nat) + n_1.toNat = (3 : Nat)) = true then W (↑((comF (rowL codS l.length fun i => codS.enc (l.getD i codS.dft))).getD (0
    : Nat) codS.dft ++ #[(33 : UInt8)].toList).length + (8 : Int)) else if decide ((0 : Nat) + n_1.toNat = (2 : Nat)) = true then W (↑((comF (rowL codS l.length fun
    i => codS.enc (l.getD i codS.dft))).getD (0 : Nat) codS.dft ++ #[(33 : UInt8)].toList).length + (7 : Int)) else if decide ((0 : Nat) + n_1.toNat = (1 : Nat)) = true
    then n.tmod (40 : Int) else if decide ((0 : Nat) + n_1.toNat = (0 : Nat)) = true then n else (0 : Int)) != cmE (madM (rowL codS (comF (rowL codS l.length fun i =>
    codS.enc (l.getD i codS.dft))).length fun i => codS.enc ((comF (rowL codS l.length fun i => codS.enc (l.getD i codS.dft))).getD i codS.dft))) ((comF (rowL codS l.length
    fun i => codS.enc (l.getD i codS.dft))).getD (0 : Nat) codS.dft ++ #[(33 : UInt8)].toList) (if decide ((0 : Nat) + n_1.toNat = (3 : Nat)) = true then W (↑((comF
    (rowL codS l.length fun i => codS.enc (l.getD i codS.dft))).getD (0 : Nat) codS.dft ++ #[(33 : UInt8)].toList).length + (8 : Int)) else if decide ((0 : Nat) + n_1.toNat
    = (2 : Nat)) = true then W (↑((comF (rowL codS l.length fun i => codS.enc (l.getD i codS.dft))).getD (0 : Nat) codS.dft ++ #[(33 : UInt8)].toList).length + (7 :
    Int)) else if decide ((0 : Nat) + n_1.toNat = (1 : Nat)) = true then n.tmod (40 : Int) else if decide ((0 : Nat) + n_1.toNat = (0 : Nat)) = true then n else (0 :
    Int))) = true → True ∧ True ∧ true = false ∧ True) ∧ ((cmE (madM (rowL codS (comF (rowL codS l.length fun i => codS.enc (l.getD i codS.dft))).length fun i => codS.enc
    ((comF (rowL codS l.length fun i => codS.enc (l.getD i codS.dft))).getD i codS.dft))) ((comF (rowL codS l.length fun i => codS.enc (l.getD i codS.dft))).getD (0
    : Nat) codS.dft ++ #[(33 : UInt8)].toList) (if decide ((0 : Nat) + n_1.toNat = (3 : Nat)) = true then W (↑((comF (rowL codS l.length fun i => codS.enc (l.getD i
    codS.dft))).getD (0 : Nat) codS.dft ++ #[(33 : UInt8)].toList).length + (8 : Int)) else if decide ((0 : Nat) + n_1.toNat = (2 : Nat)) = true then W (↑((comF (rowL
    codS l.length fun i => codS.enc (l.getD i codS.dft))).getD (0 : Nat) codS.dft ++ #[(33 : UInt8)].toList).length + (7 : Int)) else if decide ((0 : Nat) + n_1.toNat
    = (1 : Nat)) = true then n.tmod (40 : Int) else if decide ((0 : Nat) + n_1.toNat = (0 : Nat)) = true then n else (0 : Int)) != cmE (madM (rowL codS (comF (rowL codS
    l.length fun i => codS.enc (l.getD i codS.dft))).length fun i => codS.enc ((comF (rowL codS l.length fun i => codS.enc (l.getD i codS.dft))).getD i codS.dft))) ((comF
    (rowL codS l.length fun i => codS.enc (l.getD i codS.dft))).getD (0 : Nat) codS.dft ++ #[(33 : UInt8)].toList) (if decide ((0 : Nat) + n_1.toNat = (3 : Nat)) = true
    then W (↑((comF (rowL codS l.length fun i => codS.enc (l.getD i codS.dft))).getD (0 : Nat) codS.dft ++ #[(33 : UInt8)].toList).length + (8 : Int)) else if decide
    ((0 : Nat) + n_1.toNat = (2 : Nat)) = true then W (↑((comF (rowL codS l.length fun i => codS.enc (l.getD i codS.dft))).getD (0 : Nat) codS.dft ++ #[(33 : UInt8)].toList).length
    + (7 : Int)) else if decide ((0 : Nat) + n_1.toNat = (1 : Nat)) = true then n.tmod (40 : Int) else if decide ((0 : Nat) + n_1.toNat = (0 : Nat)) = true then n else
    (0 : Int))) = false → True ∧ ((0 : Int) ≤ W (n_1 + (1 : Int)) ∧ W (n_1 + (1 : Int)) ≤ (4 : Int)) ∧ ((4 : Int) - W (n_1 + (1 : Int))).toNat < ((4 : Int) - n_1).toNat
    ∧ ((l.length = l.length ∧ ∀ (i : Nat), i < l.length → sm (l.getD i codS.dft) ∧ True) ∧ (x.length = x.length ∧ ∀ (i : Nat), i < x.length → sm ((x.getD i codBit.dft).pos)
    ∧ sm ((x.getD i codBit.dft).val) ∧ True) ∧ n = n ∧ True ∧ True ∧ True ∧ True ∧ (sm ((comF (rowL codS l.length fun i => codS.enc (l.getD i codS.dft))).length) ∧ ∀
    (i : Nat), i < (comF (rowL codS l.length fun i => codS.enc (l.getD i codS.dft))).length → sm ((comF (rowL codS l.length fun i => codS.enc (l.getD i codS.dft))).getD
    i codS.dft) ∧ True) ∧ sm (madM (rowL codS (comF (rowL codS l.length fun i => codS.enc (l.getD i codS.dft))).length fun i => codS.enc ((comF (rowL codS l.length fun
    i => codS.enc (l.getD i codS.dft))).getD i codS.dft))) ∧ true = true ∧ sm ((comF (rowL codS l.length fun i => codS.enc (l.getD i codS.dft))).getD (0 : Nat) codS.dft
    ++ #[(33 : UInt8)].toList) ∧ sm (W (n_1 + (1 : Int))) ∧ True ∧ True ∧ True ∧ True ∧ True ∧ True ∧ (l.length = l.length ∧ ∀ (i : Nat), i < l.length → sm (l.getD i
    codS.dft) ∧ True) ∧ (sm ((comF (rowL codS l.length fun i => codS.enc (l.getD i codS.dft))).length) ∧ ∀ (i : Nat), i < (comF (rowL codS l.length fun i => codS.enc
    (l.getD i codS.dft))).length → sm ((comF (rowL codS l.length fun i => codS.enc (l.getD i codS.dft))).getD i codS.dft) ∧ True) ∧ (sm (madM (rowL codS (comF (rowL
    codS l.length fun i => codS.enc (l.getD i codS.dft))).length fun i => codS.enc ((comF (rowL codS l.length fun i => codS.enc (l.getD i codS.dft))).getD i codS.dft)))
    ∧ true = true ∧ True) ∧ (sm ((comF (rowL codS l.length fun i => codS.enc (l.getD i codS.dft))).length) ∧ ∀ (i : Nat), i < (comF (rowL codS l.length fun i => codS.enc
    (l.getD i codS.dft))).length → sm ((comF (rowL codS l.length fun i => codS.enc (l.getD i codS.dft))).getD i codS.dft) ∧ True) ∧ (sm (madM (rowL codS (comF (rowL
    codS l.length fun i => codS.enc (l.getD i codS.dft))).length fun i => codS.enc ((comF (rowL codS l.length fun i => codS.enc (l.getD i codS.dft))).getD i codS.dft)))
    ∧ true = true ∧ True) ∧ sm (madM (rowL codS (comF (rowL codS l.length fun i => codS.enc (l.getD i codS.dft))).length fun i => codS.enc ((comF (rowL codS l.length
    fun i => codS.enc (l.getD i codS.dft))).getD i codS.dft))) ∧ true = true ∧ true = true ∧ True ∧ (sm ((comF (rowL codS l.length fun i => codS.enc (l.getD i codS.dft))).length)
    ∧ ∀ (i : Nat), i < (comF (rowL codS l.length fun i => codS.enc (l.getD i codS.dft))).length → sm ((comF (rowL codS l.length fun i => codS.enc (l.getD i codS.dft))).getD
    i codS.dft) ∧ True) ∧ Eq (α := Int) ↑(comF (rowL codS l.length fun i => codS.enc (l.getD i codS.dft))).length ↑(comF (rowL codS l.length fun i => codS.enc (l.getD
    i codS.dft))).length ∧ True ∧ (sm ((comF (rowL codS l.length fun i => codS.enc (l.getD i codS.dft))).length) ∧ ∀ (i : Nat), i < (comF (rowL codS l.length fun i =>
    codS.enc (l.getD i codS.dft))).length → sm ((comF (rowL codS l.length fun i => codS.enc (l.getD i codS.dft))).getD i codS.dft) ∧ True) ∧ (sm ((comF (rowL codS l.length
    fun i => codS.enc (l.getD i codS.dft))).length) ∧ sm ((0 : Nat)) ∧ ∀ (i : Nat), i < (comF (rowL codS l.length fun i => codS.enc (l.getD i codS.dft))).length → sm
    ((comF (rowL codS l.length fun i => codS.enc (l.getD i codS.dft))).getD i codS.dft) ∧ True) ∧ sm ((comF (rowL codS l.length fun i => codS.enc (l.getD i codS.dft))).getD
    (0 : Nat) codS.dft) ∧ sm ((comF (rowL codS l.length fun i => codS.enc (l.getD i codS.dft))).getD (0 : Nat) codS.dft ++ #[(33 : UInt8)].toList) ∧ True ∧ True ∧ True
    ∧ True ∧ True ∧ True ∧ True ∧ True ∧ True ∧ True ∧ True ∧ True ∧ True ∧ True ∧ True ∧ True ∧ True ∧ True ∧ True ∧ True ∧ True ∧ True ∧ True ∧ True ∧ True ∧ True
    ∧ True ∧ True ∧ True ∧ True ∧ True ∧ True ∧ True ∧ True ∧ True ∧ True ∧ True ∧ True ∧ True ∧ True ∧ True ∧ True ∧ True ∧ True ∧ True ∧ True ∧ True ∧ True) ∧ True))))
    ∧ (decide (n_1 < (4 : Int)) = false → (True ∧ True) ∧ True ∧ True ∧ true = true ∧ True)) ∧ (decide (↑(comF (rowL codS l.length fun i => codS.enc (l.getD i codS.dft))).length
    > (0 : Int)) = false → True ∧ (((0 : Int) ≤ (0 : Int) ∧ (0 : Int) ≤ (4 : Int)) ∧ ((l.length = l.length ∧ ∀ (i : Nat), i < l.length → sm (l.getD i codS.dft) ∧ True)
    ∧ (x.length = x.length ∧ ∀ (i : Nat), i < x.length → sm ((x.getD i codBit.dft).pos) ∧ sm ((x.getD i codBit.dft).val) ∧ True) ∧ n = n ∧ True ∧ True ∧ True ∧ True
    ∧ (sm ((comF (rowL codS l.length fun i => codS.enc (l.getD i codS.dft))).length) ∧ ∀ (i : Nat), i < (comF (rowL codS l.length fun i => codS.enc (l.getD i codS.dft))).length
    → sm ((comF (rowL codS l.length fun i => codS.enc (l.getD i codS.dft))).getD i codS.dft) ∧ True) ∧ sm (madM (rowL codS (comF (rowL codS l.length fun i => codS.enc
    (l.getD i codS.dft))).length fun i => codS.enc ((comF (rowL codS l.length fun i => codS.enc (l.getD i codS.dft))).getD i codS.dft))) ∧ true = true ∧ sm (#[(115 :
    UInt8), (111 : UInt8), (109 : UInt8), (101 : UInt8), (32 : UInt8), (100 : UInt8), (97 : UInt8), (116 : UInt8), (97 : UInt8)].toList) ∧ sm ((0 : Int)) ∧ True ∧ True
    ∧ True ∧ True ∧ True ∧ True ∧ (l.length = l.length ∧ ∀ (i : Nat), i < l.length → sm (l.getD i codS.dft) ∧ True) ∧ (sm ((comF (rowL codS l.length fun i => codS.enc
    (l.getD i codS.dft))).length) ∧ ∀ (i : Nat), i < (comF (rowL codS l.length fun i => codS.enc (l.getD i codS.dft))).length → sm ((comF (rowL codS l.length fun i =>
    codS.enc (l.getD i codS.dft))).getD i codS.dft) ∧ True) ∧ (sm (madM (rowL codS (comF (rowL codS l.length fun i => codS.enc (l.getD i codS.dft))).length fun i =>
    codS.enc ((comF (rowL codS l.length fun i => codS.enc (l.getD i codS.dft))).getD i codS.dft))) ∧ true = true ∧ True) ∧ (sm ((comF (rowL codS l.length fun i => codS.enc
    (l.getD i codS.dft))).length) ∧ ∀ (i : Nat), i < (comF (rowL codS l.length fun i => codS.enc (l.getD i codS.dft))).length → sm ((comF (rowL codS l.length fun i =>
    codS.enc (l.getD i codS.dft))).getD i codS.dft) ∧ True) ∧ (sm (madM (rowL codS (comF (rowL codS l.length fun i => codS.enc (l.getD i codS.dft))).length fun i =>
    codS.enc ((comF (rowL codS l.length fun i => codS.enc (l.getD i codS.dft))).getD i codS.dft))) ∧ true = true ∧ True) ∧ sm (madM (rowL codS (comF (rowL codS l.length
    fun i => codS.enc (l.getD i codS.dft))).length fun i => codS.enc ((comF (rowL codS l.length fun i => codS.enc (l.getD i codS.dft))).getD i codS.dft))) ∧ true = true
    ∧ true = true ∧ True ∧ (sm ((comF (rowL codS l.length fun i => codS.enc (l.getD i codS.dft))).length) ∧ ∀ (i : Nat), i < (comF (rowL codS l.length fun i => codS.enc
    (l.getD i codS.dft))).length → sm ((comF (rowL codS l.length fun i => codS.enc (l.getD i codS.dft))).getD i codS.dft) ∧ True) ∧ Eq (α := Int) ↑(comF (rowL codS l.length
    fun i => codS.enc (l.getD i codS.dft))).length ↑(comF (rowL codS l.length fun i => codS.enc (l.getD i codS.dft))).length ∧ True ∧ True ∧ True ∧ True ∧ True ∧ True
    ∧ True ∧ True ∧ True ∧ True ∧ True ∧ True ∧ True ∧ True ∧ True ∧ True ∧ True ∧ True ∧ True ∧ True ∧ True ∧ True ∧ True ∧ True ∧ True ∧ True ∧ True ∧ True ∧ True
    ∧ True ∧ True ∧ True ∧ True ∧ True ∧ True ∧ True ∧ True ∧ True ∧ True ∧ True ∧ True ∧ True ∧ True ∧ True ∧ True ∧ True ∧ True ∧ True ∧ True ∧ True ∧ True ∧ True
    ∧ True) ∧ True) ∧ ∀ (n_1 : Int), (0 : Int) ≤ n_1 ∧ n_1 ≤ (4 : Int) → True ∧ (decide (n_1 < (4 : Int)) = true → (40 : Int) ≠ (0 : Int) ∧ ((0 : Int) ≤ n_1 ∧ n_1 <
    (4 : Int)) ∧ (0 : Nat) + n_1.toNat < (4 : Nat) ∧ True ∧ True ∧ (2 : Int) ≠ (0 : Int) ∧ True ∧ ((n_1.tmod (2 : Int) == (1 : Int)) = true → True ∧ True ∧ ((True ∧
    ∀ (i : Nat), i < x.length → true = true ∧ True) ∧ List.length (madM (rowL codS (comF (rowL codS l.length fun i => codS.enc (l.getD i codS.dft))).length fun i =>
    codS.enc ((comF (rowL codS l.length fun i => codS.enc (l.getD i codS.dft))).getD i codS.dft))) = (2062 : Nat) ∧ (rowL codBit x.length fun i => codBit.enc (x.getD
    i codBit.dft)).length ≤ (9223372036854775807 : Nat) ∧ ∀ (b : Bit), (b ∈ rowL codBit x.length fun i => codBit.enc (x.getD i codBit.dft)) → (Lit.int IntKind.u16 b.pos).wf
    = true ∧ (Lit.int IntKind.u8 b.val).wf = true) ∧ True ∧ True ∧ True ∧ True ∧ ((True ∧ True ∧ True) ∧ #[(115 : UInt8), (111 : UInt8), (109 : UInt8), (101 : UInt8),
    (32 : UInt8), (100 : UInt8), (97 : UInt8), (116 : UInt8), (97 : UInt8)].toList.length ≤ (1000000 : Nat) ∧ ((-9223372036854775808 : Int) ≤ if decide ((0 : Nat) +
    n_1.toNat = (3 : Nat)) = true then (17 : Int) else if decide ((0 : Nat) + n_1.toNat = (2 : Nat)) = true then (16 : Int) else if decide ((0 : Nat) + n_1.toNat = (1
    : Nat)) = true then n.tmod (40 : Int) else if decide ((0 : Nat) + n_1.toNat = (0 : Nat)) = true then n else (0 : Int)) ∧ (if decide ((0 : Nat) + n_1.toNat = (3 :
    Nat)) = true then (17 : Int) else if decide ((0 : Nat) + n_1.toNat = (2 : Nat)) = true then (16 : Int) else if decide ((0 : Nat) + n_1.toNat = (1 : Nat)) = true
    then n.tmod (40 : Int) else if decide ((0 : Nat) + n_1.toNat = (0 : Nat)) = true then n else (0 : Int)) < (9223372036854775808 : Int)) ∧ True ∧ True ∧ True ∧ True
    ∧ ((True ∧ True ∧ True) ∧ #[(115 : UInt8), (111 : UInt8), (109 : UInt8), (101 : UInt8), (32 : UInt8), (100 : UInt8), (97 : UInt8), (116 : UInt8), (97 : UInt8)].toList.length
    ≤ (1000000 : Nat) ∧ ((-9223372036854775808 : Int) ≤ if decide ((0 : Nat) + n_1.toNat = (3 : Nat)) = true then (17 : Int) else if decide ((0 : Nat) + n_1.toNat =
    (2 : Nat)) = true then (16 : Int) else if decide ((0 : Nat) + n_1.toNat = (1 : Nat)) = true then n.tmod (40 : Int) else if decide ((0 : Nat) + n_1.toNat = (0 : Nat))
    = true then n else (0 : Int)) ∧ (if decide ((0 : Nat) + n_1.toNat = (3 : Nat)) = true then (17 : Int) else if decide ((0 : Nat) + n_1.toNat = (2 : Nat)) = true then
    (16 : Int) else if decide ((0 : Nat) + n_1.toNat = (1 : Nat)) = true then n.tmod (40 : Int) else if decide ((0 : Nat) + n_1.toNat = (0 : Nat)) = true then n else
    (0 : Int)) < (9223372036854775808 : Int)) ∧ True ∧ ((!cmS (chgS (madM (rowL codS (comF (rowL codS l.length fun i => codS.enc (l.getD i codS.dft))).length fun i =>
    codS.enc ((comF (rowL codS l.length fun i => codS.enc (l.getD i codS.dft))).getD i codS.dft))) (rowL codBit x.length fun i => codBit.enc (x.getD i codBit.dft)))
    #[(115 : UInt8), (111 : UInt8), (109 : UInt8), (101 : UInt8), (32 : UInt8), (100 : UInt8), (97 : UInt8), (116 : UInt8), (97 : UInt8)].toList (if decide ((0 : Nat)
    + n_1.toNat = (3 : Nat)) = true then (17 : Int) else if decide ((0 : Nat) + n_1.toNat = (2 : Nat)) = true then (16 : Int) else if decide ((0 : Nat) + n_1.toNat =
    (1 : Nat)) = true then n.tmod (40 : Int) else if decide ((0 : Nat) + n_1.toNat = (0 : Nat)) = true then n else (0 : Int)) == cmS (chgS (madM (rowL codS (comF (rowL
    codS l.length fun i => codS.enc (l.getD i codS.dft))).length fun i => codS.enc ((comF (rowL codS l.length fun i => codS.enc (l.getD i codS.dft))).getD i codS.dft)))
    (rowL codBit x.length fun i => codBit.enc (x.getD i codBit.dft))) #[(115 : UInt8), (111 : UInt8), (109 : UInt8), (101 : UInt8), (32 : UInt8), (100 : UInt8), (97
    : UInt8), (116 : UInt8), (97 : UInt8)].toList (if decide ((0 : Nat) + n_1.toNat = (3 : Nat)) = true then (17 : Int) else if decide ((0 : Nat) + n_1.toNat = (2 :
    Nat)) = true then (16 : Int) else if decide ((0 : Nat) + n_1.toNat = (1 : Nat)) = true then n.tmod (40 : Int) else if decide ((0 : Nat) + n_1.toNat = (0 : Nat))
    = true then n else (0 : Int))) = true → True ∧ True ∧ True ∧ true = false ∧ True) ∧ ((!cmS (chgS (madM (rowL codS (comF (rowL codS l.length fun i => codS.enc (l.getD
    i codS.dft))).length fun i => codS.enc ((comF (rowL codS l.length fun i => codS.enc (l.getD i codS.dft))).getD i codS.dft))) (rowL codBit x.length fun i => codBit.enc
    (x.getD i codBit.dft))) #[(115 : UInt8), (111 : UInt8), (109 : UInt8), (101 : UInt8), (32 : UInt8), (100 : UInt8), (97 : UInt8), (116 : UInt8), (97 : UInt8)].toList
    (if decide ((0 : Nat) + n_1.toNat = (3 : Nat)) = true then (17 : Int) else if decide ((0 : Nat) + n_1.toNat = (2 : Nat)) = true then (16 : Int) else if decide ((0
    : Nat) + n_1.toNat = (1 : Nat)) = true then n.tmod (40 : Int) else if decide ((0 : Nat) + n_1.toNat = (0 : Nat)) = true then n else (0 : Int)) == cmS (chgS (madM
    (rowL codS (comF (rowL codS l.length fun i => codS.enc (l.getD i codS.dft))).length fun i => codS.enc ((comF (rowL codS l.length fun i => codS.enc (l.getD i codS.dft))).getD
    i codS.dft))) (rowL codBit x.length fun i => codBit.enc (x.getD i codBit.dft))) #[(115 : UInt8), (111 : UInt8), (109 : UInt8), (101 : UInt8), (32 : UInt8), (100
    : UInt8), (97 : UInt8), (116 : UInt8), (97 : UInt8)].toList (if decide ((0 : Nat) + n_1.toNat = (3 : Nat)) = true then (17 : Int) else if decide ((0 : Nat) + n_1.toNat
    = (2 : Nat)) = true then (16 : Int) else if decide ((0 : Nat) + n_1.toNat = (1 : Nat)) = true then n.tmod (40 : Int) else if decide ((0 : Nat) + n_1.toNat = (0 :
    Nat)) = true then n else (0 : Int))) = false → True ∧ ((cmE (chgS (madM (rowL codS (comF (rowL codS l.length fun i => codS.enc (l.getD i codS.dft))).length fun i
    => codS.enc ((comF (rowL codS l.length fun i => codS.enc (l.getD i codS.dft))).getD i codS.dft))) (rowL codBit x.length fun i => codBit.enc (x.getD i codBit.dft)))
    #[(115 : UInt8), (111 : UInt8), (109 : UInt8), (101 : UInt8), (32 : UInt8), (100 : UInt8), (97 : UInt8), (116 : UInt8), (97 : UInt8)].toList (if decide ((0 : Nat)
    + n_1.toNat = (3 : Nat)) = true then (17 : Int) else if decide ((0 : Nat) + n_1.toNat = (2 : Nat)) = true then (16 : Int) else if decide ((0 : Nat) + n_1.toNat =
    (1 : Nat)) = true then n.tmod (40 : Int) else if decide ((0 : Nat) + n_1.toNat = (0 : Nat)) = true then n else (0 : Int)) != cmE (chgS (madM (rowL codS (comF (rowL
    codS l.length fun i => codS.enc (l.getD i codS.dft))).length fun i => codS.enc ((comF (rowL codS l.length fun i => codS.enc (l.getD i codS.dft))).getD i codS.dft)))
    (rowL codBit x.length fun i => codBit.enc (x.getD i codBit.dft))) #[(115 : UInt8), (111 : UInt8), (109 : UInt8), (101 : UInt8), (32 : UInt8), (100 : UInt8), (97
    : UInt8), (116 : UInt8), (97 : UInt8)].toList (if decide ((0 : Nat) + n_1.toNat = (3 : Nat)) = true then (17 : Int) else if decide ((0 : Nat) + n_1.toNat = (2 :
    Nat)) = true then (16 : Int) else if decide ((0 : Nat) + n_1.toNat = (1 : Nat)) = true then n.tmod (40 : Int) else if decide ((0 : Nat) + n_1.toNat = (0 : Nat))
    = true then n else (0 : Int))) = true → True ∧ True ∧ true = false ∧ True) ∧ ((cmE (chgS (madM (rowL codS (comF (rowL codS l.length fun i => codS.enc (l.getD i codS.dft))).length
    fun i => codS.enc ((comF (rowL codS l.length fun i => codS.enc (l.getD i codS.dft))).getD i codS.dft))) (rowL codBit x.length fun i => codBit.enc (x.getD i codBit.dft)))
    #[(115 : UInt8), (111 : UInt8), (109 : UInt8), (101 : UInt8), (32 : UInt8), (100 : UInt8), (97 : UInt8), (116 : UInt8), (97 : UInt8)].toList (if decide ((0 : Nat)
    + n_1.toNat = (3 : Nat)) = true then (17 : Int) else if decide ((0 : Nat) + n_1.toNat = (2 : Nat)) = true then (16 : Int) else if decide ((0 : Nat) + n_1.toNat =
    (1 : Nat)) = true then n.tmod (40 : Int) else if decide ((0 : Nat) + n_1.toNat = (0 : Nat)) = true then n else (0 : Int)) != cmE (chgS (madM (rowL codS (comF (rowL
    codS l.length fun i => codS.enc (l.getD i codS.dft))).length fun i => codS.enc ((comF (rowL codS l.length fun i => codS.enc (l.getD i codS.dft))).getD i codS.dft)))
    (rowL codBit x.length fun i => codBit.enc (x.getD i codBit.dft))) #[(115 : UInt8), (111 : UInt8), (109 : UInt8), (101 : UInt8), (32 : UInt8), (100 : UInt8), (97
    : UInt8), (116 : UInt8), (97 : UInt8)].toList (if decide ((0 : Nat) + n_1.toNat = (3 : Nat)) = true then (17 : Int) else if decide ((0 : Nat) + n_1.toNat = (2 :
    Nat)) = true then (16 : Int) else if decide ((0 : Nat) + n_1.toNat = (1 : Nat)) = true then n.tmod (40 : Int) else if decide ((0 : Nat) + n_1.toNat = (0 : Nat))
    = true then n else (0 : Int))) = false → True ∧ ((0 : Int) ≤ W (n_1 + (1 : Int)) ∧ W (n_1 + (1 : Int)) ≤ (4 : Int)) ∧ ((4 : Int) - W (n_1 + (1 : Int))).toNat < ((4
    : Int) - n_1).toNat ∧ ((l.length = l.length ∧ ∀ (i : Nat), i < l.length → sm (l.getD i codS.dft) ∧ True) ∧ (x.length = x.length ∧ ∀ (i : Nat), i < x.length → sm
    ((x.getD i codBit.dft).pos) ∧ sm ((x.getD i codBit.dft).val) ∧ True) ∧ n = n ∧ True ∧ True ∧ True ∧ True ∧ (sm ((comF (rowL codS l.length fun i => codS.enc (l.getD
    i codS.dft))).length) ∧ ∀ (i : Nat), i < (comF (rowL codS l.length fun i => codS.enc (l.getD i codS.dft))).length → sm ((comF (rowL codS l.length fun i => codS.enc
    (l.getD i codS.dft))).getD i codS.dft) ∧ True) ∧ sm (madM (rowL codS (comF (rowL codS l.length fun i => codS.enc (l.getD i codS.dft))).length fun i => codS.enc ((comF
    (rowL codS l.length fun i => codS.enc (l.getD i codS.dft))).getD i codS.dft))) ∧ true = true ∧ sm (#[(115 : UInt8), (111 : UInt8), (109 : UInt8), (101 : UInt8),
    (32 : UInt8), (100 : UInt8), (97 : UInt8), (116 : UInt8), (97 : UInt8)].toList) ∧ sm (W (n_1 + (1 : Int))) ∧ True ∧ True ∧ True ∧ True ∧ True ∧ True ∧ (l.length
    = l.length ∧ ∀ (i : Nat), i < l.length → sm (l.getD i codS.dft) ∧ True) ∧ (sm ((comF (rowL codS l.length fun i => codS.enc (l.getD i codS.dft))).length) ∧ ∀ (i :
    Nat), i < (comF (rowL codS l.length fun i => codS.enc (l.getD i codS.dft))).length → sm ((comF (rowL codS l.length fun i => codS.enc (l.getD i codS.dft))).getD i
    codS.dft) ∧ True) ∧ (sm (madM (rowL codS (comF (rowL codS l.length fun i => codS.enc (l.getD i codS.dft))).length fun i => codS.enc ((comF (rowL codS l.length fun
    i => codS.enc (l.getD i codS.dft))).getD i codS.dft))) ∧ true = true ∧ True) ∧ (sm ((comF (rowL codS l.length fun i => codS.enc (l.getD i codS.dft))).length) ∧ ∀
    (i : Nat), i < (comF (rowL codS l.length fun i => codS.enc (l.getD i codS.dft))).length → sm ((comF (rowL codS l.length fun i => codS.enc (l.getD i codS.dft))).getD
    i codS.dft) ∧ True) ∧ (sm (madM (rowL codS (comF (rowL codS l.length fun i => codS.enc (l.getD i codS.dft))).length fun i => codS.enc ((comF (rowL codS l.length
    fun i => codS.enc (l.getD i codS.dft))).getD i codS.dft))) ∧ true = true ∧ True) ∧ sm (madM (rowL codS (comF (rowL codS l.length fun i => codS.enc (l.getD i codS.dft))).length
    fun i => codS.enc ((comF (rowL codS l.length fun i => codS.enc (l.getD i codS.dft))).getD i codS.dft))) ∧ true = true ∧ true = true ∧ True ∧ (sm ((comF (rowL codS
    l.length fun i => codS.enc (l.getD i codS.dft))).length) ∧ ∀ (i : Nat), i < (comF (rowL codS l.length fun i => codS.enc (l.getD i codS.dft))).length → sm ((comF
    (rowL codS l.length fun i => codS.enc (l.getD i codS.dft))).getD i codS.dft) ∧ True) ∧ Eq (α := Int) ↑(comF (rowL codS l.length fun i => codS.enc (l.getD i codS.dft))).length
    ↑(comF (rowL codS l.length fun i => codS.enc (l.getD i codS.dft))).length ∧ True ∧ True ∧ True ∧ True ∧ True ∧ True ∧ True ∧ True ∧ True ∧ True ∧ True ∧ True ∧ True
    ∧ True ∧ True ∧ True ∧ True ∧ True ∧ True ∧ True ∧ True ∧ True ∧ True ∧ True ∧ True ∧ True ∧ True ∧ True ∧ True ∧ True ∧ True ∧ True ∧ True ∧ True ∧ True ∧ True
    ∧ True ∧ True ∧ True ∧ True ∧ True ∧ True ∧ True ∧ True ∧ True ∧ True ∧ True ∧ True ∧ True ∧ True ∧ True ∧ True ∧ True) ∧ True))) ∧ ((n_1.tmod (2 : Int) == (1 :
    Int)) = false → True ∧ True ∧ True ∧ ((True ∧ True ∧ True) ∧ #[(115 : UInt8), (111 : UInt8), (109 : UInt8), (101 : UInt8), (32 : UInt8), (100 : UInt8), (97 : UInt8),
    (116 : UInt8), (97 : UInt8)].toList.length ≤ (1000000 : Nat) ∧ ((-9223372036854775808 : Int) ≤ if decide ((0 : Nat) + n_1.toNat = (3 : Nat)) = true then (17 : Int)
    else if decide ((0 : Nat) + n_1.toNat = (2 : Nat)) = true then (16 : Int) else if decide ((0 : Nat) + n_1.toNat = (1 : Nat)) = true then n.tmod (40 : Int) else if
    decide ((0 : Nat) + n_1.toNat = (0 : Nat)) = true then n else (0 : Int)) ∧ (if decide ((0 : Nat) + n_1.toNat = (3 : Nat)) = true then (17 : Int) else if decide ((0
    : Nat) + n_1.toNat = (2 : Nat)) = true then (16 : Int) else if decide ((0 : Nat) + n_1.toNat = (1 : Nat)) = true then n.tmod (40 : Int) else if decide ((0 : Nat)
    + n_1.toNat = (0 : Nat)) = true then n else (0 : Int)) < (9223372036854775808 : Int)) ∧ True ∧ True ∧ True ∧ True ∧ ((True ∧ True ∧ True) ∧ #[(115 : UInt8), (111
    : UInt8), (109 : UInt8), (101 : UInt8), (32 : UInt8), (100 : UInt8), (97 : UInt8), (116 : UInt8), (97 : UInt8)].toList.length ≤ (1000000 : Nat) ∧ ((-9223372036854775808
    : Int) ≤ if decide ((0 : Nat) + n_1.toNat = (3 : Nat)) = true then (17 : Int) else if decide ((0 : Nat) + n_1.toNat = (2 : Nat)) = true then (16 : Int) else if decide
    ((0 : Nat) + n_1.toNat = (1 : Nat)) = true then n.tmod (40 : Int) else if decide ((0 : Nat) + n_1.toNat = (0 : Nat)) = true then n else (0 : Int)) ∧ (if decide ((0
    : Nat) + n_1.toNat = (3 : Nat)) = true then (17 : Int) else if decide ((0 : Nat) + n_1.toNat = (2 : Nat)) = true then (16 : Int) else if decide ((0 : Nat) + n_1.toNat
    = (1 : Nat)) = true then n.tmod (40 : Int) else if decide ((0 : Nat) + n_1.toNat = (0 : Nat)) = true then n else (0 : Int)) < (9223372036854775808 : Int)) ∧ True
    ∧ ((!cmS (madM (rowL codS (comF (rowL codS l.length fun i => codS.enc (l.getD i codS.dft))).length fun i => codS.enc ((comF (rowL codS l.length fun i => codS.enc
    (l.getD i codS.dft))).getD i codS.dft))) #[(115 : UInt8), (111 : UInt8), (109 : UInt8), (101 : UInt8), (32 : UInt8), (100 : UInt8), (97 : UInt8), (116 : UInt8),
    (97 : UInt8)].toList (if decide ((0 : Nat) + n_1.toNat = (3 : Nat)) = true then (17 : Int) else if decide ((0 : Nat) + n_1.toNat = (2 : Nat)) = true then (16 : Int)
    else if decide ((0 : Nat) + n_1.toNat = (1 : Nat)) = true then n.tmod (40 : Int) else if decide ((0 : Nat) + n_1.toNat = (0 : Nat)) = true then n else (0 : Int))
    == cmS (madM (rowL codS (comF (rowL codS l.length fun i => codS.enc (l.getD i codS.dft))).length fun i => codS.enc ((comF (rowL codS l.length fun i => codS.enc (l.getD
    i codS.dft))).getD i codS.dft))) #[(115 : UInt8), (111 : UInt8), (109 : UInt8), (101 : UInt8), (32 : UInt8), (100 : UInt8), (97 : UInt8), (116 : UInt8), (97 : UInt8)].toList
    (if decide ((0 : Nat) + n_1.toNat = (3 : Nat)) = true then (17 : Int) else if decide ((0 : Nat) + n_1.toNat = (2 : Nat)) = true then (16 : Int) else if decide ((0
    : Nat) + n_1.toNat = (1 : Nat)) = true then n.tmod (40 : Int) else if decide ((0 : Nat) + n_1.toNat = (0 : Nat)) = true then n else (0 : Int))) = true → True ∧ True
    ∧ True ∧ true = false ∧ True) ∧ ((!cmS (madM (rowL codS (comF (rowL codS l.length fun i => codS.enc (l.getD i codS.dft))).length fun i => codS.enc ((comF (rowL codS
    l.length fun i => codS.enc (l.getD i codS.dft))).getD i codS.dft))) #[(115 : UInt8), (111 : UInt8), (109 : UInt8), (101 : UInt8), (32 : UInt8), (100 : UInt8), (97
    : UInt8), (116 : UInt8), (97 : UInt8)].toList (if decide ((0 : Nat) + n_1.toNat = (3 : Nat)) = true then (17 : Int) else if decide ((0 : Nat) + n_1.toNat = (2 :
    Nat)) = true then (16 : Int) else if decide ((0 : Nat) + n_1.toNat = (1 : Nat)) = true then n.tmod (40 : Int) else if decide ((0 : Nat) + n_1.toNat = (0 : Nat))
    = true then n else (0 : Int)) == cmS (madM (rowL codS (comF (rowL codS l.length fun i => codS.enc (l.getD i codS.dft))).length fun i => codS.enc ((comF (rowL codS
    l.length fun i => codS.enc (l.getD i codS.dft))).getD i codS.dft))) #[(115 : UInt8), (111 : UInt8), (109 : UInt8), (101 : UInt8), (32 : UInt8), (100 : UInt8), (97
    : UInt8), (116 : UInt8), (97 : UInt8)].toList (if decide ((0 : Nat) + n_1.toNat = (3 : Nat)) = true then (17 : Int) else if decide ((0 : Nat) + n_1.toNat = (2 :
    Nat)) = true then (16 : Int) else if decide ((0 : Nat) + n_1.toNat = (1 : Nat)) = true then n.tmod (40 : Int) else if decide ((0 : Nat) + n_1.toNat = (0 : Nat))
    = true then n else (0 : Int))) = false → True ∧ ((cmE (madM (rowL codS (comF (rowL codS l.length fun i => codS.enc (l.getD i codS.dft))).length fun i => codS.enc
    ((comF (rowL codS l.length fun i => codS.enc (l.getD i codS.dft))).getD i codS.dft))) #[(115 : UInt8), (111 : UInt8), (109 : UInt8), (101 : UInt8), (32 : UInt8),
    (100 : UInt8), (97 : UInt8), (116 : UInt8), (97 : UInt8)].toList (if decide ((0 : Nat) + n_1.toNat = (3 : Nat)) = true then (17 : Int) else if decide ((0 : Nat)
    + n_1.toNat = (2 : Nat)) = true then (16 : Int) else if decide ((0 : Nat) + n_1.toNat = (1 : Nat)) = true then n.tmod (40 : Int) else if decide ((0 : Nat) + n_1.toNat
    = (0 : Nat)) = true then n else (0 : Int)) != cmE (madM (rowL codS (comF (rowL codS l.length fun i => codS.enc (l.getD i codS.dft))).length fun i => codS.enc ((comF
    (rowL codS l.length fun i => codS.enc (l.getD i codS.dft))).getD i codS.dft))) #[(115 : UInt8), (111 : UInt8), (109 : UInt8), (101 : UInt8), (32 : UInt8), (100 :
    UInt8), (97 : UInt8), (116 : UInt8), (97 : UInt8)].toList (if decide ((0 : Nat) + n_1.toNat = (3 : Nat)) = true then (17 : Int) else if decide ((0 : Nat) + n_1.toNat
    = (2 : Nat)) = true then (16 : Int) else if decide ((0 : Nat) + n_1.toNat = (1 : Nat)) = true then n.tmod (40 : Int) else if decide ((0 : Nat) + n_1.toNat = (0 :
    Nat)) = true then n else (0 : Int))) = true → True ∧ True ∧ true = false ∧ True) ∧ ((cmE (madM (rowL codS (comF (rowL codS l.length fun i => codS.enc (l.getD i codS.dft))).length
    fun i => codS.enc ((comF (rowL codS l.length fun i => codS.enc (l.getD i codS.dft))).getD i codS.dft))) #[(115 : UInt8), (111 : UInt8), (109 : UInt8), (101 : UInt8),
    (32 : UInt8), (100 : UInt8), (97 : UInt8), (116 : UInt8), (97 : UInt8)].toList (if decide ((0 : Nat) + n_1.toNat = (3 : Nat)) = true then (17 : Int) else if decide
    ((0 : Nat) + n_1.toNat = (2 : Nat)) = true then (16 : Int) else if decide ((0 : Nat) + n_1.toNat = (1 : Nat)) = true then n.tmod (40 : Int) else if decide ((0 :
    Nat) + n_1.toNat = (0 : Nat)) = true then n else (0 : Int)) != cmE (madM (rowL codS (comF (rowL codS l.length fun i => codS.enc (l.getD i codS.dft))).length fun
    i => codS.enc ((comF (rowL codS l.length fun i => codS.enc (l.getD i codS.dft))).getD i codS.dft))) #[(115 : UInt8), (111 : UInt8), (109 : UInt8), (101 : UInt8),
    (32 : UInt8), (100 : UInt8), (97 : UInt8), (116 : UInt8), (97 : UInt8)].toList (if decide ((0 : Nat) + n_1.toNat = (3 : Nat)) = true then (17 : Int) else if decide
    ((0 : Nat) + n_1.toNat = (2 : Nat)) = true then (16 : Int) else if decide ((0 : Nat) + n_1.toNat = (1 : Nat)) = true then n.tmod (40 : Int) else if decide ((0 :
    Nat) + n_1.toNat = (0 : Nat)) = true then n else (0 : Int))) = false → True ∧ ((0 : Int) ≤ W (n_1 + (1 : Int)) ∧ W (n_1 + (1 : Int)) ≤ (4 : Int)) ∧ ((4 : Int) -
    W (n_1 + (1 : Int))).toNat < ((4 : Int) - n_1).toNat ∧ ((l.length = l.length ∧ ∀ (i : Nat), i < l.length → sm (l.getD i codS.dft) ∧ True) ∧ (x.length = x.length
    ∧ ∀ (i : Nat), i < x.length → sm ((x.getD i codBit.dft).pos) ∧ sm ((x.getD i codBit.dft).val) ∧ True) ∧ n = n ∧ True ∧ True ∧ True ∧ True ∧ (sm ((comF (rowL codS
    l.length fun i => codS.enc (l.getD i codS.dft))).length) ∧ ∀ (i : Nat), i < (comF (rowL codS l.length fun i => codS.enc (l.getD i codS.dft))).length → sm ((comF
    (rowL codS l.length fun i => codS.enc (l.getD i codS.dft))).getD i codS.dft) ∧ True) ∧ sm (madM (rowL codS (comF (rowL codS l.length fun i => codS.enc (l.getD i
    codS.dft))).length fun i => codS.enc ((comF (rowL codS l.length fun i => codS.enc (l.getD i codS.dft))).getD i codS.dft))) ∧ true = true ∧ sm (#[(115 : UInt8), (111
    : UInt8), (109 : UInt8), (101 : UInt8), (32 : UInt8), (100 : UInt8), (97 : UInt8), (116 : UInt8), (97 : UInt8)].toList) ∧ sm (W (n_1 + (1 : Int))) ∧ True ∧ True
    ∧ True ∧ True ∧ True ∧ True ∧ (l.length = l.length ∧ ∀ (i : Nat), i < l.length → sm (l.getD i codS.dft) ∧ True) ∧ (sm ((comF (rowL codS l.length fun i => codS.enc
    (l.getD i codS.dft))).length) ∧ ∀ (i : Nat), i < (comF (rowL codS l.length fun i => codS.enc (l.getD i codS.dft))).length → sm ((comF (rowL codS l.length fun i =>
    codS.enc (l.getD i codS.dft))).getD i codS.dft) ∧ True) ∧ (sm (madM (rowL codS (comF (rowL codS l.length fun i => codS.enc (l.getD i codS.dft))).length fun i =>
    codS.enc ((comF (rowL codS l.length fun i => codS.enc (l.getD i codS.dft))).getD i codS.dft))) ∧ true = true ∧ True) ∧ (sm ((comF (rowL codS l.length fun i => codS.enc
    (l.getD i codS.dft))).length) ∧ ∀ (i : Nat), i < (comF (rowL codS l.length fun i => codS.enc (l.getD i codS.dft))).length → sm ((comF (rowL codS l.length fun i =>
    codS.enc (l.getD i codS.dft))).getD i codS.dft) ∧ True) ∧ (sm (madM (rowL codS (comF (rowL codS l.length fun i => codS.enc (l.getD i codS.dft))).length fun i =>
    codS.enc ((comF (rowL codS l.length fun i => codS.enc (l.getD i codS.dft))).getD i codS.dft))) ∧ true = true ∧ True) ∧ sm (madM (rowL codS (comF (rowL codS l.length
    fun i => codS.enc (l.getD i codS.dft))).length fun i => codS.enc ((comF (rowL codS l.length fun i => codS.enc (l.getD i codS.dft))).getD i codS.dft))) ∧ true = true
    ∧ true = true ∧ True ∧ (sm ((comF (rowL codS l.length fun i => codS.enc (l.getD i codS.dft))).length) ∧ ∀ (i : Nat), i < (comF (rowL codS l.length fun i => codS.enc
    (l.getD i codS.dft))).length → sm ((comF (rowL codS l.length fun i => codS.enc (l.getD i codS.dft))).getD i codS.dft) ∧ True) ∧ Eq (α := Int) ↑(comF (rowL codS l.length
    fun i => codS.enc (l.getD i codS.dft))).length ↑(comF (rowL codS l.length fun i => codS.enc (l.getD i codS.dft))).length ∧ True ∧ True ∧ True ∧ True ∧ True ∧ True
    ∧ True ∧ True ∧ True ∧ True ∧ True ∧ True ∧ True ∧ True ∧ True ∧ True ∧ True ∧ True ∧ True ∧ True ∧ True ∧ True ∧ True ∧ True ∧ True ∧ True ∧ True ∧ True ∧ True
    ∧ True ∧ True ∧ True ∧ True ∧ True ∧ True ∧ True ∧ True ∧ True ∧ True ∧ True ∧ True ∧ True ∧ True ∧ True ∧ True ∧ True ∧ True ∧ True ∧ True ∧ True ∧ True ∧ True
    ∧ True) ∧ True)))) ∧ (decide (n_1 < (4 : Int)) = false → (True ∧ True) ∧ True ∧ True ∧ true = true ∧ True)))) = vc4 l x n := by kernel_rfl
theorem vc5_eq (l : List Bs) (s : Bs) : (True ∧ True ∧ ((∀ (i : Nat), i < l.length → true = true ∧ True) ∧ (rowL codS l.length fun i => codS.enc (l.getD i codS.dft)).length ≤ (9223372036854775807 : Nat)
    ∧ ∀ (c : List UInt8), (c ∈ rowL codS l.length fun i => codS.enc (l.getD i codS.dft)) → c.length ≤ (9223372036854775807 : Nat)) ∧ True ∧ ((∀ (i : Nat), i < (comF
    (rowL codS l.length fun i => codS.enc (l.getD i codS.dft))).length → true = true ∧ True) ∧ (rowL codS (comF (rowL codS l.length fun i => codS.enc (l.getD i codS.dft))).length
    fun i => codS.enc ((comF (rowL codS l.length fun i => codS.enc (l.getD i codS.dft))).getD i codS.dft)).length ≤ (1000000 : Nat) ∧ ∀ (c : List UInt8), (c ∈ rowL codS
    (comF (rowL codS l.length fun i => codS.enc (l.getD i codS.dft))).length fun i => codS.enc ((comF (rowL codS l.length fun i => codS.enc (l.getD i codS.dft))).getD
    i codS.dft)) → c.length ≤ (1024 : Nat)) ∧ True ∧ True ∧ (True ∧ True) ∧ True ∧ (false = true → True ∧ (true = true → (decide (↑(List.length s) > (60 : Int)) = true
    → (True ∧ True) ∧ True ∧ True ∧ true = true ∧ True) ∧ (decide (↑(List.length s) > (60 : Int)) = false → True ∧ True ∧ true = false ∧ True)) ∧ (true = false → True
    ∧ True ∧ true = false ∧ True)) ∧ (false = false → ((curE (madM (rowL codS (comF (rowL codS l.length fun i => codS.enc (l.getD i codS.dft))).length fun i => codS.enc
    ((comF (rowL codS l.length fun i => codS.enc (l.getD i codS.dft))).getD i codS.dft))) != (0 : Int)) = true → True ∧ (true = true → (decide (↑(List.length s) > (60
    : Int)) = true → (True ∧ True) ∧ True ∧ True ∧ true = true ∧ True) ∧ (decide (↑(List.length s) > (60 : Int)) = false → True ∧ True ∧ true = false ∧ True)) ∧ (true
    = false → True ∧ True ∧ true = false ∧ True)) ∧ ((curE (madM (rowL codS (comF (rowL codS l.length fun i => codS.enc (l.getD i codS.dft))).length fun i => codS.enc
    ((comF (rowL codS l.length fun i => codS.enc (l.getD i codS.dft))).getD i codS.dft))) != (0 : Int)) = false → True ∧ (decide (↑(List.length s) > (60 : Int)) = true
    → (true = true → (decide (↑(List.length s) > (60 : Int)) = true → (True ∧ True) ∧ True ∧ True ∧ true = true ∧ True) ∧ (decide (↑(List.length s) > (60 : Int)) = false
    → True ∧ True ∧ true = false ∧ True)) ∧ (true = false → True ∧ True ∧ true = false ∧ True)) ∧ (decide (↑(List.length s) > (60 : Int)) = false → True ∧ (((-1 : Int)
    ≤ (-1 : Int) ∧ (-1 : Int) ≤ ↑(List.length s) + (10 : Int)) ∧ ((l.length = l.length ∧ ∀ (i : Nat), i < l.length → sm (l.getD i codS.dft) ∧ True) ∧ s = s ∧ True ∧
    True ∧ True ∧ sm (madM (rowL codS (comF (rowL codS l.length fun i => codS.enc (l.getD i codS.dft))).length fun i => codS.enc ((comF (rowL codS l.length fun i =>
    codS.enc (l.getD i codS.dft))).getD i codS.dft))) ∧ true = true ∧ sm (curD (madM (rowL codS (comF (rowL codS l.length fun i => codS.enc (l.getD i codS.dft))).length
    fun i => codS.enc ((comF (rowL codS l.length fun i => codS.enc (l.getD i codS.dft))).getD i codS.dft)))) ∧ sm (curE (madM (rowL codS (comF (rowL codS l.length fun
    i => codS.enc (l.getD i codS.dft))).length fun i => codS.enc ((comF (rowL codS l.length fun i => codS.enc (l.getD i codS.dft))).getD i codS.dft)))) ∧ sm ((-1 : Int))
    ∧ True ∧ True ∧ True ∧ True ∧ True ∧ True ∧ (sm (madM (rowL codS (comF (rowL codS l.length fun i => codS.enc (l.getD i codS.dft))).length fun i => codS.enc ((comF
    (rowL codS l.length fun i => codS.enc (l.getD i codS.dft))).getD i codS.dft))) ∧ true = true ∧ True) ∧ (l.length = l.length ∧ ∀ (i : Nat), i < l.length → sm (l.getD
    i codS.dft) ∧ True) ∧ (sm ((comF (rowL codS l.length fun i => codS.enc (l.getD i codS.dft))).length) ∧ ∀ (i : Nat), i < (comF (rowL codS l.length fun i => codS.enc
    (l.getD i codS.dft))).length → sm ((comF (rowL codS l.length fun i => codS.enc (l.getD i codS.dft))).getD i codS.dft) ∧ True) ∧ (sm (madM (rowL codS (comF (rowL
    codS l.length fun i => codS.enc (l.getD i codS.dft))).length fun i => codS.enc ((comF (rowL codS l.length fun i => codS.enc (l.getD i codS.dft))).getD i codS.dft)))
    ∧ true = true ∧ True) ∧ sm (madM (rowL codS (comF (rowL codS l.length fun i => codS.enc (l.getD i codS.dft))).length fun i => codS.enc ((comF (rowL codS l.length
    fun i => codS.enc (l.getD i codS.dft))).getD i codS.dft))) ∧ true = true ∧ (sm (curD (madM (rowL codS (comF (rowL codS l.length fun i => codS.enc (l.getD i codS.dft))).length
    fun i => codS.enc ((comF (rowL codS l.length fun i => codS.enc (l.getD i codS.dft))).getD i codS.dft)))) ∧ sm (curE (madM (rowL codS (comF (rowL codS l.length fun
    i => codS.enc (l.getD i codS.dft))).length fun i => codS.enc ((comF (rowL codS l.length fun i => codS.enc (l.getD i codS.dft))).getD i codS.dft)))) ∧ True) ∧ sm
    (madM (rowL codS (comF (rowL codS l.length fun i => codS.enc (l.getD i codS.dft))).length fun i => codS.enc ((comF (rowL codS l.length fun i => codS.enc (l.getD
    i codS.dft))).getD i codS.dft))) ∧ (sm (curD (madM (rowL codS (comF (rowL codS l.length fun i => codS.enc (l.getD i codS.dft))).length fun i => codS.enc ((comF (rowL
    codS l.length fun i => codS.enc (l.getD i codS.dft))).getD i codS.dft)))) ∧ sm (curE (madM (rowL codS (comF (rowL codS l.length fun i => codS.enc (l.getD i codS.dft))).length
    fun i => codS.enc ((comF (rowL codS l.length fun i => codS.enc (l.getD i codS.dft))).getD i codS.dft)))) ∧ True) ∧ sm (curD (madM (rowL codS (comF (rowL codS l.length
    fun i => codS.enc (l.getD i codS.dft))).length fun i => codS.enc ((comF (rowL codS l.length fun i => codS.enc (l.getD i codS.dft))).getD i codS.dft)))) ∧ sm (curE
    (madM (rowL codS (comF (rowL codS l.length fun i => codS.enc (l.getD i codS.dft))).length fun i => codS.enc ((comF (rowL codS l.length fun i => codS.enc (l.getD
    i codS.dft))).getD i codS.dft)))) ∧ true = true ∧ false = false ∧ True ∧ sm (curE (madM (rowL codS (comF (rowL codS l.length fun i => codS.enc (l.getD i codS.dft))).length
    fun i => codS.enc ((comF (rowL codS l.length fun i => codS.enc (l.getD i codS.dft))).getD i codS.dft)))) ∧ sm ((curE (madM (rowL codS (comF (rowL codS l.length fun
    i => codS.enc (l.getD i codS.dft))).length fun i => codS.enc ((comF (rowL codS l.length fun i => codS.enc (l.getD i codS.dft))).getD i codS.dft))) != (0 : Int)))
    ∧ sm ((curE (madM (rowL codS (comF (rowL codS l.length fun i => codS.enc (l.getD i codS.dft))).length fun i => codS.enc ((comF (rowL codS l.length fun i => codS.enc
    (l.getD i codS.dft))).getD i codS.dft))) != (0 : Int))) ∧ True ∧ s = s ∧ Eq (α := Int) ↑(List.length s) ↑(List.length s) ∧ sm (decide (↑(List.length s) > (60 : Int)))
    ∧ True ∧ True ∧ True ∧ True ∧ True ∧ True ∧ True ∧ True ∧ True ∧ True ∧ True ∧ True ∧ True ∧ True ∧ True ∧ True ∧ True ∧ True ∧ True ∧ True ∧ True ∧ True ∧ True
    ∧ True ∧ True ∧ True ∧ True ∧ True ∧ True ∧ True ∧ True ∧ True ∧ True ∧ True ∧ True ∧ True ∧ True ∧ True ∧ True ∧ True ∧ True ∧ True ∧ True ∧ True ∧ True ∧ True
    ∧ True ∧ True ∧ True ∧ True) ∧ True) ∧ ∀ (n : Int), (-1 : Int) ≤ n ∧ n ≤ ↑(List.length s) + (10 : Int) → True ∧ (decide (n ≤ W (↑(List.length s) + (9 : Int))) =
    true → True ∧ True ∧ True ∧ ((True ∧ True ∧ True) ∧ List.length s ≤ (1000000 : Nat) ∧ (-9223372036854775808 : Int) ≤ n ∧ n < (9223372036854775808 : Int)) ∧ True
    ∧ True ∧ (True ∧ True) ∧ True ∧ True ∧ True ∧ (decide (n ≥ W (↑(List.length s) + (8 : Int))) = true → True ∧ ((cmE (madM (rowL codS (comF (rowL codS l.length fun
    i => codS.enc (l.getD i codS.dft))).length fun i => codS.enc ((comF (rowL codS l.length fun i => codS.enc (l.getD i codS.dft))).getD i codS.dft))) s n != (0 : Int))
    = true → True ∧ True ∧ True ∧ true = false ∧ True) ∧ ((cmE (madM (rowL codS (comF (rowL codS l.length fun i => codS.enc (l.getD i codS.dft))).length fun i => codS.enc
    ((comF (rowL codS l.length fun i => codS.enc (l.getD i codS.dft))).getD i codS.dft))) s n != (0 : Int)) = false → ((curE (cmS (madM (rowL codS (comF (rowL codS l.length
    fun i => codS.enc (l.getD i codS.dft))).length fun i => codS.enc ((comF (rowL codS l.length fun i => codS.enc (l.getD i codS.dft))).getD i codS.dft))) s n) != (0
    : Int)) = true → True ∧ True ∧ True ∧ true = false ∧ True) ∧ ((curE (cmS (madM (rowL codS (comF (rowL codS l.length fun i => codS.enc (l.getD i codS.dft))).length
    fun i => codS.enc ((comF (rowL codS l.length fun i => codS.enc (l.getD i codS.dft))).getD i codS.dft))) s n) != (0 : Int)) = false → True ∧ ((!curD (cmS (madM (rowL
    codS (comF (rowL codS l.length fun i => codS.enc (l.getD i codS.dft))).length fun i => codS.enc ((comF (rowL codS l.length fun i => codS.enc (l.getD i codS.dft))).getD
    i codS.dft))) s n) == s) = true → True ∧ True ∧ true = false ∧ True) ∧ ((!curD (cmS (madM (rowL codS (comF (rowL codS l.length fun i => codS.enc (l.getD i codS.dft))).length
    fun i => codS.enc ((comF (rowL codS l.length fun i => codS.enc (l.getD i codS.dft))).getD i codS.dft))) s n) == s) = false → True ∧ ((-1 : Int) ≤ W (n + (1 : Int))
    ∧ W (n + (1 : Int)) ≤ ↑(List.length s) + (10 : Int)) ∧ (↑(List.length s) + (10 : Int) - W (n + (1 : Int))).toNat < (↑(List.length s) + (10 : Int) - n).toNat ∧ ((l.length
    = l.length ∧ ∀ (i : Nat), i < l.length → sm (l.getD i codS.dft) ∧ True) ∧ s = s ∧ True ∧ True ∧ True ∧ sm (madM (rowL codS (comF (rowL codS l.length fun i => codS.enc
    (l.getD i codS.dft))).length fun i => codS.enc ((comF (rowL codS l.length fun i => codS.enc (l.getD i codS.dft))).getD i codS.dft))) ∧ true = true ∧ sm (curD (madM
    (rowL codS (comF (rowL codS l.length fun i => codS.enc (l.getD i codS.dft))).length fun i => codS.enc ((comF (rowL codS l.length fun i => codS.enc (l.getD i codS.dft))).getD
    i codS.dft)))) ∧ sm (curE (madM (rowL codS (comF (rowL codS l.length fun i => codS.enc (l.getD i codS.dft))).length fun i => codS.enc ((comF (rowL codS l.length
    fun i => codS.enc (l.getD i codS.dft))).getD i codS.dft)))) ∧ sm (W (n + (1 : Int))) ∧ True ∧ True ∧ True ∧ True ∧ True ∧ True ∧ (sm (madM (rowL codS (comF (rowL
    codS l.length fun i => codS.enc (l.getD i codS.dft))).length fun i => codS.enc ((comF (rowL codS l.length fun i => codS.enc (l.getD i codS.dft))).getD i codS.dft)))
    ∧ true = true ∧ True) ∧ (l.length = l.length ∧ ∀ (i : Nat), i < l.length → sm (l.getD i codS.dft) ∧ True) ∧ (sm ((comF (rowL codS l.length fun i => codS.enc (l.getD
    i codS.dft))).length) ∧ ∀ (i : Nat), i < (comF (rowL codS l.length fun i => codS.enc (l.getD i codS.dft))).length → sm ((comF (rowL codS l.length fun i => codS.enc
    (l.getD i codS.dft))).getD i codS.dft) ∧ True) ∧ (sm (madM (rowL codS (comF (rowL codS l.length fun i => codS.enc (l.getD i codS.dft))).length fun i => codS.enc
    ((comF (rowL codS l.length fun i => codS.enc (l.getD i codS.dft))).getD i codS.dft))) ∧ true = true ∧ True) ∧ sm (madM (rowL codS (comF (rowL codS l.length fun i
    => codS.enc (l.getD i codS.dft))).length fun i => codS.enc ((comF (rowL codS l.length fun i => codS.enc (l.getD i codS.dft))).getD i codS.dft))) ∧ true = true ∧
    (sm (curD (madM (rowL codS (comF (rowL codS l.length fun i => codS.enc (l.getD i codS.dft))).length fun i => codS.enc ((comF (rowL codS l.length fun i => codS.enc
    (l.getD i codS.dft))).getD i codS.dft)))) ∧ sm (curE (madM (rowL codS (comF (rowL codS l.length fun i => codS.enc (l.getD i codS.dft))).length fun i => codS.enc
    ((comF (rowL codS l.length fun i => codS.enc (l.getD i codS.dft))).getD i codS.dft)))) ∧ True) ∧ sm (madM (rowL codS (comF (rowL codS l.length fun i => codS.enc
    (l.getD i codS.dft))).length fun i => codS.enc ((comF (rowL codS l.length fun i => codS.enc (l.getD i codS.dft))).getD i codS.dft))) ∧ (sm (curD (madM (rowL codS
    (comF (rowL codS l.length fun i => codS.enc (l.getD i codS.dft))).length fun i => codS.enc ((comF (rowL codS l.length fun i => codS.enc (l.getD i codS.dft))).getD
    i codS.dft)))) ∧ sm (curE (madM (rowL codS (comF (rowL codS l.length fun i => codS.enc (l.getD i codS.dft))).length fun i => codS.enc ((comF (rowL codS l.length
    fun i => codS.enc (l.getD i codS.dft))).getD i codS.dft)))) ∧ True) ∧ sm (curD (madM (rowL codS (comF (rowL codS l.length fun i => codS.enc (l.getD i codS.dft))).length
    fun i => codS.enc ((comF (rowL codS l.length fun i => codS.enc (l.getD i codS.dft))).getD i codS.dft)))) ∧ sm (curE (madM (rowL codS (comF (rowL codS l.length fun
    i => codS.enc (l.getD i codS.dft))).length fun i => codS.enc ((comF (rowL codS l.length fun i => codS.enc (l.getD i codS.dft))).getD i codS.dft)))) ∧ true = true
    ∧ false = false ∧ True ∧ sm (curE (madM (rowL codS (comF (rowL codS l.length fun i => codS.enc (l.getD i codS.dft))).length fun i => codS.enc ((comF (rowL codS l.length
    fun i => codS.enc (l.getD i codS.dft))).getD i codS.dft)))) ∧ sm ((curE (madM (rowL codS (comF (rowL codS l.length fun i => codS.enc (l.getD i codS.dft))).length
    fun i => codS.enc ((comF (rowL codS l.length fun i => codS.enc (l.getD i codS.dft))).getD i codS.dft))) != (0 : Int))) ∧ sm ((curE (madM (rowL codS (comF (rowL codS
    l.length fun i => codS.enc (l.getD i codS.dft))).length fun i => codS.enc ((comF (rowL codS l.length fun i => codS.enc (l.getD i codS.dft))).getD i codS.dft))) !=
    (0 : Int))) ∧ True ∧ s = s ∧ Eq (α := Int) ↑(List.length s) ↑(List.length s) ∧ sm (decide (↑(List.length s) > (60 : Int))) ∧ True ∧ True ∧ True ∧ True ∧ True ∧ True
    ∧ True ∧ True ∧ True ∧ True ∧ True ∧ True ∧ True ∧ True ∧ True ∧ True ∧ True ∧ True ∧ True ∧ True ∧ True ∧ True ∧ True ∧ True ∧ True ∧ True ∧ True ∧ True ∧ True
    ∧ True ∧ True ∧ True ∧ True ∧ True ∧ True ∧ True ∧ True ∧ True ∧ True ∧ True ∧ True ∧ True ∧ True ∧ True ∧ True ∧ True ∧ True ∧ True ∧ True ∧ True) ∧ True)))) ∧
    (decide (n ≥ W (↑(List.length s) + (8 : Int))) = false → ((cmE (madM (rowL codS (comF (rowL codS l.length fun i => codS.enc (l.getD i codS.dft))).length fun i =>
    codS.enc ((comF (rowL codS l.length fun i => codS.enc (l.getD i codS.dft))).getD i codS.dft))) s n != (61 : Int)) = true → True ∧ True ∧ True ∧ true = false ∧ True)
    ∧ ((cmE (madM (rowL codS (comF (rowL codS l.length fun i => codS.enc (l.getD i codS.dft))).length fun i => codS.enc ((comF (rowL codS l.length fun i => codS.enc
    (l.getD i codS.dft))).getD i codS.dft))) s n != (61 : Int)) = false → ((curE (cmS (madM (rowL codS (comF (rowL codS l.length fun i => codS.enc (l.getD i codS.dft))).length
    fun i => codS.enc ((comF (rowL codS l.length fun i => codS.enc (l.getD i codS.dft))).getD i codS.dft))) s n) != (0 : Int)) = true → True ∧ True ∧ True ∧ true = false
    ∧ True) ∧ ((curE (cmS (madM (rowL codS (comF (rowL codS l.length fun i => codS.enc (l.getD i codS.dft))).length fun i => codS.enc ((comF (rowL codS l.length fun
    i => codS.enc (l.getD i codS.dft))).getD i codS.dft))) s n) != (0 : Int)) = false → True ∧ ((!curD (cmS (madM (rowL codS (comF (rowL codS l.length fun i => codS.enc
    (l.getD i codS.dft))).length fun i => codS.enc ((comF (rowL codS l.length fun i => codS.enc (l.getD i codS.dft))).getD i codS.dft))) s n) == curD (madM (rowL codS
    (comF (rowL codS l.length fun i => codS.enc (l.getD i codS.dft))).length fun i => codS.enc ((comF (rowL codS l.length fun i => codS.enc (l.getD i codS.dft))).getD
    i codS.dft)))) = true → True ∧ True ∧ true = false ∧ True) ∧ ((!curD (cmS (madM (rowL codS (comF (rowL codS l.length fun i => codS.enc (l.getD i codS.dft))).length
    fun i => codS.enc ((comF (rowL codS l.length fun i => codS.enc (l.getD i codS.dft))).getD i codS.dft))) s n) == curD (madM (rowL codS (comF (rowL codS l.length fun
    i => codS.enc (l.getD i codS.dft))).length fun i => codS.enc ((comF (rowL codS l.length fun i => codS.enc (l.getD i codS.dft))).getD i codS.dft)))) = false → True
    ∧ ((-1 : Int) ≤ W (n + (1 : Int)) ∧ W (n + (1 : Int)) ≤ ↑(List.length s) + (10 : Int)) ∧ (↑(List.length s) + (10 : Int) - W (n + (1 : Int))).toNat < (↑(List.length
    s) + (10 : Int) - n).toNat ∧ ((l.length = l.length ∧ ∀ (i : Nat), i < l.length → sm (l.getD i codS.dft) ∧ True) ∧ s = s ∧ True ∧ True ∧ True ∧ sm (madM (rowL codS
    (comF (rowL codS l.length fun i => codS.enc (l.getD i codS.dft))).length fun i => codS.enc ((comF (rowL codS l.length fun i => codS.enc (l.getD i codS.dft))).getD
    i codS.dft))) ∧ true = true ∧ sm (curD (madM (rowL codS (comF (rowL codS l.length fun i => codS.enc (l.getD i codS.dft))).length fun i => codS.enc ((comF (rowL codS
    l.length fun i => codS.enc (l.getD i codS.dft))).getD i codS.dft)))) ∧ sm (curE (madM (rowL codS (comF (rowL codS l.length fun i => codS.enc (l.getD i codS.dft))).length
    fun i => codS.enc ((comF (rowL codS l.length fun i => codS.enc (l.getD i codS.dft))).getD i codS.dft)))) ∧ sm (W (n + (1 : Int))) ∧ True ∧ True ∧ True ∧ True ∧ True
    ∧ True ∧ (sm (madM (rowL codS (comF (rowL codS l.length fun i => codS.enc (l.getD i codS.dft))).length fun i => codS.enc ((comF (rowL codS l.length fun i => codS.enc
    (l.getD i codS.dft))).getD i codS.dft))) ∧ true = true ∧ True) ∧ (l.length = l.length ∧ ∀ (i : Nat), i < l.length → sm (l.getD i codS.dft) ∧ True) ∧ (sm ((comF (rowL
    codS l.length fun i => codS.enc (l.getD i codS.dft))).length) ∧ ∀ (i : Nat), i < (comF (rowL codS l.length fun i => codS.enc (l.getD i codS.dft))).length → sm ((comF
    (rowL codS l.length fun i => codS.enc (l.getD i codS.dft))).getD i codS.dft) ∧ True) ∧ (sm (madM (rowL codS (comF (rowL codS l.length fun i => codS.enc (l.getD i
    codS.dft))).length fun i => codS.enc ((comF (rowL codS l.length fun i => codS.enc (l.getD i codS.dft))).getD i codS.dft))) ∧ true = true ∧ True) ∧ sm (madM (rowL
    codS (comF (rowL codS l.length fun i => codS.enc (l.getD i codS.dft))).length fun i => codS.enc ((comF (rowL codS l.length fun i => codS.enc (l.getD i codS.dft))).getD
    i codS.dft))) ∧ true = true ∧ (sm (curD (madM (rowL codS (comF (rowL codS l.length fun i => codS.enc (l.getD i codS.dft))).length fun i => codS.enc ((comF (rowL
    codS l.length fun i => codS.enc (l.getD i codS.dft))).getD i codS.dft)))) ∧ sm (curE (madM (rowL codS (comF (rowL codS l.length fun i => codS.enc (l.getD i codS.dft))).length
    fun i => codS.enc ((comF (rowL codS l.length fun i => codS.enc (l.getD i codS.dft))).getD i codS.dft)))) ∧ True) ∧ sm (madM (rowL codS (comF (rowL codS l.length
    fun i => codS.enc (l.getD i codS.dft))).length fun i => codS.enc ((comF (rowL codS l.length fun i => codS.enc (l.getD i codS.dft))).getD i codS.dft))) ∧ (sm (curD
    (madM (rowL codS (comF (rowL codS l.length fun i => codS.enc (l.getD i codS.dft))).length fun i => codS.enc ((comF (rowL codS l.length fun i => codS.enc (l.getD
    i codS.dft))).getD i codS.dft)))) ∧ sm (curE (madM (rowL codS (comF (rowL codS l.length fun i => codS.enc (l.getD i codS.dft))).length fun i => codS.enc ((comF (rowL
    codS l.length fun i => codS.enc (l.getD i codS.dft))).getD i codS.dft)))) ∧ True) ∧ sm (curD (madM (rowL codS (comF (rowL codS l.length fun i => codS.enc (l.getD
    i codS.dft))).length fun i => codS.enc ((comF (rowL codS l.length fun i => codS.enc (l.getD i codS.dft))).getD i codS.dft)))) ∧ sm (curE (madM (rowL codS (comF (rowL
    codS l.length fun i => codS.enc (l.getD i codS.dft))).length fun i => codS.enc ((comF (rowL codS l.length fun i => codS.enc (l.getD i codS.dft))).getD i codS.dft))))
    ∧ true = true ∧ false = false ∧ True ∧ sm (curE (madM (rowL codS (comF (rowL codS l.length fun i => codS.enc (l.getD i codS.dft))).length fun i => codS.enc ((comF
    (rowL codS l.length fun i => codS.enc (l.getD i codS.dft))).getD i codS.dft)))) ∧ sm ((curE (madM (rowL codS (comF (rowL codS l.length fun i => codS.enc (l.getD
    i codS.dft))).length fun i => codS.enc ((comF (rowL codS l.length fun i => codS.enc (l.getD i codS.dft))).getD i codS.dft))) != (0 : Int))) ∧ sm ((curE (madM (rowL
    codS (comF (rowL codS l.length fun i => codS.enc (l.getD i codS.dft))).length fun i => codS.enc ((comF (rowL codS l.length fun i => codS.enc (l.getD i codS.dft))).getD
    i codS.dft))) != (0 : Int))) ∧ True ∧ s = s ∧ Eq (α := Int) ↑(List.length s) ↑(List.length s) ∧ sm (decide (↑(List.length s) > (60 : Int))) ∧ True ∧ True ∧ True
    ∧ True ∧ True ∧ True ∧ True ∧ True ∧ True ∧ True ∧ True ∧ True ∧ True ∧ True ∧ True ∧ True ∧ True ∧ True ∧ True ∧ True ∧ True ∧ True ∧ True ∧ True ∧ True ∧ True
    ∧ True ∧ True ∧ True ∧ True ∧ True ∧ True ∧ True ∧ True ∧ True ∧ True ∧ True ∧ True ∧ True ∧ True ∧ True ∧ True ∧ True ∧ True ∧ True ∧ True ∧ True ∧ True ∧ True
    ∧ True) ∧ True))))) ∧ (decide (n ≤ W (↑(List.length s) + (9 : Int))) = false → (True ∧ True) ∧ True ∧ True ∧ true = true ∧ True))))) = vc5 l s := by kernel_rfl
theorem t4 (l : List Bs) (x : List Bit) (n : Int) (hl : l.length ≤ 9223372036854775807) (hc : ∀ c ∈ l, c.length ≤ 9223372036854775807) (hx : x.length ≤ 9223372036854775807) (hb : ∀ b ∈ x, codBitW b) (n0 : -9223372036854775808 ≤ n) (n1 : n < 9223372036854775808) : vc4 l x n := by
  rw [← vc4_eq]
  simp [-List.getD_eq_getElem?_getD, W_def, by_def, selfS]
  have ml := (mad_len (com_all (l := l))).1
  have bd : ∀ (k z : Int), 0 ≤ z → z ≤ 2000 → (-9223372036854775808 ≤ if k.toNat = 3 then z + 8 else if k.toNat = 2 then z + 7 else if k.toNat = 1 then n.tmod 40 else if k ≤ 0 then n else 0) ∧ (if k.toNat = 3 then z + 8 else if k.toNat = 2 then z + 7 else if k.toNat = 1 then n.tmod 40 else if k ≤ 0 then n else 0) < 9223372036854775808 := fun k z z0 z1 => by
    have q1 : n.tmod 40 < 40 := Int.tmod_lt_of_pos n (by omega)
    have q2 : -40 < n.tmod 40 := Int.lt_tmod_of_pos n (by omega)
    repeat' split
    all_goals omega
  have wk : ∀ k : Int, 0 ≤ k → k < 4 → (0 ≤ W (k + 1) ∧ W (k + 1) ≤ 4) ∧ max (4 - W (k + 1)) 0 < 4 - k := fun k k0 k1 => by
    rw [W_id (n := k + 1) (by omega) (by omega)]; omega
  refine ⟨⟨hl, hc⟩, com_ok l, fun h0 => ?_, fun h0 k k0 k1 k2 => ?_⟩
  · have hz := com_all _ (mem_getD h0)
    have z1 : W (((comF l).getD 0 []).length + 1 + 8) = ((comF l).getD 0 []).length + 1 + 8 := W_id (by omega) (by omega)
    have z2 : W (((comF l).getD 0 []).length + 1 + 7) = ((comF l).getD 0 []).length + 1 + 7 := W_id (by omega) (by omega)
    rw [z1, z2]
    refine ⟨h0, by omega, fun k k0 k1 k2 => ?_⟩
    have b := bd k (((comF l).getD 0 []).length + 1) (by omega) (by omega)
    exact ⟨⟨k0, k2⟩, k2, fun _ => ⟨⟨ml, hx, hb⟩, ⟨by omega, b⟩, wk k k0 k2⟩, fun _ => ⟨⟨by omega, b⟩, wk k k0 k2⟩⟩
  · have b := bd k 9 (by omega) (by omega)
    exact ⟨⟨k0, k2⟩, k2, fun _ => ⟨⟨ml, hx, hb⟩, b, wk k k0 k2⟩, fun _ => ⟨b, wk k k0 k2⟩⟩
theorem t5 (l : List Bs) (s : Bs) (hl : l.length ≤ 9223372036854775807) (hc : ∀ c ∈ l, c.length ≤ 9223372036854775807) : vc5 l s := by
  rw [← vc5_eq]
  simp [-List.getD_eq_getElem?_getD, W_def, by_def, selfS]
  obtain ⟨ml, good⟩ := mad_len (com_all (l := l))
  refine ⟨⟨hl, hc⟩, com_ok l, fun h => absurd good h, fun _ hs => ⟨by omega, fun n n0 n1 n2 => ?_⟩⟩
  have c := cm_law (m := madM (comF l)) (d := s) (b := n) good (by omega)
  have e2 : W ((s.length : Int) + 8) = (s.length : Int) + 8 := W_id (by omega) (by omega)
  have e1 : W ((s.length : Int) + 9) = (s.length : Int) + 9 := W_id (by omega) (by omega)
  have e3 : W (n + 1) = n + 1 := W_id (by omega) (by omega)
  rw [e1] at n2
  rw [e2, e3]
  refine ⟨⟨by omega, by omega, by omega⟩, fun h => ?_, fun h => ?_⟩
  · have q := c.2.2.1 (by omega)
    exact ⟨q.1, fun _ => ⟨c.2.1, fun _ => ⟨q.2.1, fun _ => by omega⟩⟩⟩
  · have q := c.2.2.2 (by omega)
    exact ⟨q.1, fun _ => ⟨c.2.1, fun _ => ⟨q.2.1, fun _ => by omega⟩⟩⟩
end Go.Proofs.Nv
