import Derived.Test.YtkpgbnchidjapaaNvL
namespace Go.Proofs.Nv
set_option linter.unusedVariables false
set_option linter.unusedSimpArgs false
open Go Go.Sx Go.Proofs
set_option maxRecDepth 100000
set_option maxHeartbeats 4000000
-- ABBR: IntKind.i64.wrap ==> W
abbrev XM := Bs × Int × Bs × Bs × Int
def J6 (l : List Bs) (x : XM) : Prop := 0 ≤ x.2.2.2.2 ∧ x.2.2.2.2 ≤ l.length ∧ x.2.1 = 0 ∧ x.1 = madM (l.take x.2.2.2.2.toNat) ∧ x.2.2.2.1 = curD x.1 ∧ (0 < x.2.2.2.2 → x.2.2.1 = curD (madM (l.take (x.2.2.2.2.toNat - 1))))
attribute [irreducible] J6
noncomputable def A6 (l : List Bs) : List Ann := [⟨.unit, .list [.str (.tm 4), .int .i64 (.tm 5), .str (.tm 6), .str (.tm 7), .int .i64 (.tm 8)], fun _ (x : XM) => J6 (comF l) x, fun _ (x : XM) => ((comF l).length - x.2.2.2.2).toNat⟩]
noncomputable def vc6 (l : List Bs) : Prop := cva T14 Try.f6 (A6 l) [encR codS l] (.bool true)
theorem vc6_eq (l : List Bs) : (True ∧ True ∧ ((∀ (i : Nat), i < l.length → true = true ∧ True) ∧ (rowL codS l.length fun i => codS.enc (l.getD i codS.dft)).length ≤ (9223372036854775807 : Nat)
    ∧ ∀ (c : List UInt8), (c ∈ rowL codS l.length fun i => codS.enc (l.getD i codS.dft)) → c.length ≤ (9223372036854775807 : Nat)) ∧ True ∧ True ∧ (True ∧ (5 : Nat)
    ≤ (1000000 : Nat)) ∧ True ∧ True ∧ True ∧ (J6 (comF l) (fmtS #[(102 : UInt8), (105 : UInt8), (114 : UInt8), (115 : UInt8), (116 : UInt8)].toList, (0 : Int), Array.toList
    #[], #[(102 : UInt8), (105 : UInt8), (114 : UInt8), (115 : UInt8), (116 : UInt8)].toList, (0 : Int)) ∧ ((l.length = l.length ∧ ∀ (i : Nat), i < l.length → l.getD
    i codS.dft = l.getD i codS.dft ∧ True) ∧ True ∧ True ∧ ((comF (rowL codS l.length fun i => codS.enc (l.getD i codS.dft))).length = (comF (rowL codS l.length fun
    i => codS.enc (l.getD i codS.dft))).length ∧ ∀ (i : Nat), i < (comF (rowL codS l.length fun i => codS.enc (l.getD i codS.dft))).length → (comF (rowL codS l.length
    fun i => codS.enc (l.getD i codS.dft))).getD i codS.dft = (comF (rowL codS l.length fun i => codS.enc (l.getD i codS.dft))).getD i codS.dft ∧ True) ∧ fmtS #[(102
    : UInt8), (105 : UInt8), (114 : UInt8), (115 : UInt8), (116 : UInt8)].toList = fmtS #[(102 : UInt8), (105 : UInt8), (114 : UInt8), (115 : UInt8), (116 : UInt8)].toList
    ∧ (0 : Int) = (0 : Int) ∧ Eq (α := List UInt8) (Array.toList #[]) (Array.toList #[]) ∧ #[(102 : UInt8), (105 : UInt8), (114 : UInt8), (115 : UInt8), (116 : UInt8)].toList
    = #[(102 : UInt8), (105 : UInt8), (114 : UInt8), (115 : UInt8), (116 : UInt8)].toList ∧ (0 : Int) = (0 : Int) ∧ True ∧ True ∧ True ∧ True ∧ True ∧ True ∧ True ∧
    True ∧ (l.length = l.length ∧ ∀ (i : Nat), i < l.length → l.getD i codS.dft = l.getD i codS.dft ∧ True) ∧ ((comF (rowL codS l.length fun i => codS.enc (l.getD i
    codS.dft))).length = (comF (rowL codS l.length fun i => codS.enc (l.getD i codS.dft))).length ∧ ∀ (i : Nat), i < (comF (rowL codS l.length fun i => codS.enc (l.getD
    i codS.dft))).length → (comF (rowL codS l.length fun i => codS.enc (l.getD i codS.dft))).getD i codS.dft = (comF (rowL codS l.length fun i => codS.enc (l.getD i
    codS.dft))).getD i codS.dft ∧ True) ∧ (fmtS #[(102 : UInt8), (105 : UInt8), (114 : UInt8), (115 : UInt8), (116 : UInt8)].toList = fmtS #[(102 : UInt8), (105 : UInt8),
    (114 : UInt8), (115 : UInt8), (116 : UInt8)].toList ∧ (0 : Int) = (0 : Int) ∧ True) ∧ (fmtS #[(102 : UInt8), (105 : UInt8), (114 : UInt8), (115 : UInt8), (116 :
    UInt8)].toList = fmtS #[(102 : UInt8), (105 : UInt8), (114 : UInt8), (115 : UInt8), (116 : UInt8)].toList ∧ (0 : Int) = (0 : Int) ∧ True) ∧ fmtS #[(102 : UInt8),
    (105 : UInt8), (114 : UInt8), (115 : UInt8), (116 : UInt8)].toList = fmtS #[(102 : UInt8), (105 : UInt8), (114 : UInt8), (115 : UInt8), (116 : UInt8)].toList ∧ (0
    : Int) = (0 : Int) ∧ True ∧ True ∧ True ∧ True ∧ True ∧ True ∧ True ∧ True ∧ True ∧ True ∧ True ∧ True ∧ True ∧ True ∧ True ∧ True ∧ True ∧ True ∧ True ∧ True ∧
    True ∧ True ∧ True ∧ True ∧ True ∧ True ∧ True ∧ True ∧ True ∧ True ∧ True ∧ True ∧ True ∧ True ∧ True ∧ True ∧ True ∧ True ∧ True ∧ True ∧ True ∧ True ∧ True ∧
    True ∧ True ∧ True ∧ True ∧ True ∧ True ∧ True ∧ True ∧ True ∧ True ∧ True ∧ True ∧ True ∧ True ∧ True ∧ True ∧ True ∧ True ∧ True ∧ True ∧ True ∧ True ∧ True ∧
    True ∧ True ∧ True ∧ True ∧ True ∧ True ∧ True ∧ True ∧ True ∧ True ∧ True ∧ True ∧ True ∧ True ∧ True ∧ True ∧ True ∧ True ∧ True ∧ True ∧ True ∧ True ∧ True ∧
    True ∧ True ∧ True ∧ True ∧ True ∧ True ∧ True ∧ True ∧ True ∧ True ∧ True) ∧ True) ∧ ∀ (n : List UInt8) (n_1 : Int) (n_2 n_3 : List UInt8) (n_4 : Int), J6 (comF
    l) (n, n_1, n_2, n_3, n_4) → (decide (n_4 < ↑(comF (rowL codS l.length fun i => codS.enc (l.getD i codS.dft))).length) = true → True ∧ ((n_1 == (0 : Int)) = true
    → ((0 : Int) ≤ n_4 ∧ n_4 < ↑(comF (rowL codS l.length fun i => codS.enc (l.getD i codS.dft))).length) ∧ True ∧ True ∧ True ∧ ((True ∧ True ∧ True) ∧ ((comF (rowL
    codS l.length fun i => codS.enc (l.getD i codS.dft))).getD n_4.toNat codS.dft).length ≤ (1000000 : Nat) ∧ (-9223372036854775808 : Int) ≤ (1048576 : Int) ∧ (1048576
    : Int) < (9223372036854775808 : Int)) ∧ True ∧ ((0 : Int) ≤ n_4 ∧ n_4 < ↑(comF (rowL codS l.length fun i => codS.enc (l.getD i codS.dft))).length) ∧ IsT true ∧ True
    ∧ J6 (comF l) (cmS n ((comF (rowL codS l.length fun i => codS.enc (l.getD i codS.dft))).getD n_4.toNat codS.dft) (1048576 : Int), cmE n ((comF (rowL codS l.length
    fun i => codS.enc (l.getD i codS.dft))).getD n_4.toNat codS.dft) (1048576 : Int), n_3, (comF (rowL codS l.length fun i => codS.enc (l.getD i codS.dft))).getD n_4.toNat
    codS.dft, W (n_4 + (1 : Int))) ∧ (↑(comF l).length - W (n_4 + (1 : Int))).toNat < (↑(comF l).length - n_4).toNat ∧ ((l.length = l.length ∧ ∀ (i : Nat), i < l.length
    → l.getD i codS.dft = l.getD i codS.dft ∧ True) ∧ True ∧ True ∧ ((comF (rowL codS l.length fun i => codS.enc (l.getD i codS.dft))).length = (comF (rowL codS l.length
    fun i => codS.enc (l.getD i codS.dft))).length ∧ ∀ (i : Nat), i < (comF (rowL codS l.length fun i => codS.enc (l.getD i codS.dft))).length → (comF (rowL codS l.length
    fun i => codS.enc (l.getD i codS.dft))).getD i codS.dft = (comF (rowL codS l.length fun i => codS.enc (l.getD i codS.dft))).getD i codS.dft ∧ True) ∧ cmS n ((comF
    (rowL codS l.length fun i => codS.enc (l.getD i codS.dft))).getD n_4.toNat codS.dft) (1048576 : Int) = cmS n ((comF (rowL codS l.length fun i => codS.enc (l.getD
    i codS.dft))).getD n_4.toNat codS.dft) (1048576 : Int) ∧ cmE n ((comF (rowL codS l.length fun i => codS.enc (l.getD i codS.dft))).getD n_4.toNat codS.dft) (1048576
    : Int) = cmE n ((comF (rowL codS l.length fun i => codS.enc (l.getD i codS.dft))).getD n_4.toNat codS.dft) (1048576 : Int) ∧ n_3 = n_3 ∧ (comF (rowL codS l.length
    fun i => codS.enc (l.getD i codS.dft))).getD n_4.toNat codS.dft = (comF (rowL codS l.length fun i => codS.enc (l.getD i codS.dft))).getD n_4.toNat codS.dft ∧ W (n_4
    + (1 : Int)) = W (n_4 + (1 : Int)) ∧ True ∧ True ∧ True ∧ True ∧ True ∧ True ∧ True ∧ True ∧ (l.length = l.length ∧ ∀ (i : Nat), i < l.length → l.getD i codS.dft
    = l.getD i codS.dft ∧ True) ∧ ((comF (rowL codS l.length fun i => codS.enc (l.getD i codS.dft))).length = (comF (rowL codS l.length fun i => codS.enc (l.getD i codS.dft))).length
    ∧ ∀ (i : Nat), i < (comF (rowL codS l.length fun i => codS.enc (l.getD i codS.dft))).length → (comF (rowL codS l.length fun i => codS.enc (l.getD i codS.dft))).getD
    i codS.dft = (comF (rowL codS l.length fun i => codS.enc (l.getD i codS.dft))).getD i codS.dft ∧ True) ∧ (fmtS #[(102 : UInt8), (105 : UInt8), (114 : UInt8), (115
    : UInt8), (116 : UInt8)].toList = fmtS #[(102 : UInt8), (105 : UInt8), (114 : UInt8), (115 : UInt8), (116 : UInt8)].toList ∧ (0 : Int) = (0 : Int) ∧ True) ∧ (fmtS
    #[(102 : UInt8), (105 : UInt8), (114 : UInt8), (115 : UInt8), (116 : UInt8)].toList = fmtS #[(102 : UInt8), (105 : UInt8), (114 : UInt8), (115 : UInt8), (116 : UInt8)].toList
    ∧ (0 : Int) = (0 : Int) ∧ True) ∧ fmtS #[(102 : UInt8), (105 : UInt8), (114 : UInt8), (115 : UInt8), (116 : UInt8)].toList = fmtS #[(102 : UInt8), (105 : UInt8),
    (114 : UInt8), (115 : UInt8), (116 : UInt8)].toList ∧ (0 : Int) = (0 : Int) ∧ True ∧ True ∧ True ∧ True ∧ True ∧ True ∧ True ∧ True ∧ True ∧ True ∧ True ∧ True ∧
    True ∧ True ∧ True ∧ True ∧ True ∧ True ∧ True ∧ True ∧ True ∧ True ∧ True ∧ True ∧ True ∧ True ∧ True ∧ True ∧ True ∧ True ∧ True ∧ True ∧ True ∧ True ∧ True ∧
    True ∧ True ∧ True ∧ True ∧ True ∧ True ∧ True ∧ True ∧ True ∧ True ∧ True ∧ True ∧ True ∧ True ∧ True ∧ True ∧ True ∧ True ∧ True ∧ True ∧ True ∧ True ∧ True ∧
    True ∧ True ∧ True ∧ True ∧ True ∧ True ∧ True ∧ True ∧ True ∧ True ∧ True ∧ True ∧ True ∧ True ∧ True ∧ True ∧ True ∧ True ∧ True ∧ True ∧ True ∧ True ∧ True ∧
    True ∧ True ∧ True ∧ True ∧ True ∧ True ∧ True ∧ True ∧ True ∧ True ∧ True ∧ True ∧ True ∧ True ∧ True ∧ True ∧ True ∧ True ∧ True) ∧ True) ∧ ((n_1 == (0 : Int))
    = false → True ∧ ((n_1 != (0 : Int)) = true → True ∧ True ∧ true = false ∧ True) ∧ ((n_1 != (0 : Int)) = false → True ∧ (True ∧ True) ∧ True ∧ True ∧ (True ∧ True)
    ∧ True ∧ ((curE n != (0 : Int)) = true → True ∧ True ∧ True ∧ true = false ∧ True) ∧ ((curE n != (0 : Int)) = false → ((curE n != (0 : Int)) = true → True ∧ True
    ∧ True ∧ true = false ∧ True) ∧ ((curE n != (0 : Int)) = false → ((!curD n == n_3) = true → True ∧ True ∧ True ∧ true = false ∧ True) ∧ ((!curD n == n_3) = false
    → ((curN n != if W (↑(comF (rowL codS l.length fun i => codS.enc (l.getD i codS.dft))).length + (1 : Int)) < (2 : Int) then W (↑(comF (rowL codS l.length fun i =>
    codS.enc (l.getD i codS.dft))).length + (1 : Int)) else (2 : Int)) = true → True ∧ True ∧ True ∧ true = false ∧ True) ∧ ((curN n != if W (↑(comF (rowL codS l.length
    fun i => codS.enc (l.getD i codS.dft))).length + (1 : Int)) < (2 : Int) then W (↑(comF (rowL codS l.length fun i => codS.enc (l.getD i codS.dft))).length + (1 :
    Int)) else (2 : Int)) = false → (decide (curI n < (0 : Int)) = true → True ∧ True ∧ True ∧ true = false ∧ True) ∧ (decide (curI n < (0 : Int)) = false → (decide
    (curI n > (1 : Int)) = true → True ∧ True ∧ True ∧ true = false ∧ True) ∧ (decide (curI n > (1 : Int)) = false → True ∧ ((↑n.length != (2062 : Int)) = true → True
    ∧ True ∧ true = false ∧ True) ∧ ((↑n.length != (2062 : Int)) = false → True ∧ ((0 : Int) ≤ W (curI n * (1031 : Int)) ∧ W (curI n * (1031 : Int)) < ↑n.length) ∧ (0
    : Nat) + (W (curI n * (1031 : Int))).toNat < n.length ∧ True ∧ (0 : Nat) + n.length ≤ n.length ∧ (∀ (j : Nat), j < n.length → isByte ((fun (i' : Nat) => mergeL (decide
    (i' = (0 : Nat) + (W (curI n * (1031 : Int))).toNat)) (setL (byteSV n ((0 : Nat) + (W (curI n * (1031 : Int))).toNat)) (0 : Nat) [SV.int IntKind.u8 (0 : Int)]) (byteSV
    n i')) ((0 : Nat) + j)) = true) ∧ True ∧ (True ∧ True) ∧ True ∧ True ∧ ((↑(comF (rowL codS l.length fun i => codS.enc (l.getD i codS.dft))).length == (0 : Int))
    = true → ((curE (bytesOf n.length fun i => mergeL (decide ((0 : Nat) + i = (0 : Nat) + (W (curI n * (1031 : Int))).toNat)) (setL (byteSV n ((0 : Nat) + (W (curI
    n * (1031 : Int))).toNat)) (0 : Nat) [SV.int IntKind.u8 (0 : Int)]) (byteSV n ((0 : Nat) + i))) == (62 : Int)) = true → (True ∧ True) ∧ True ∧ True ∧ true = true
    ∧ True) ∧ ((curE (bytesOf n.length fun i => mergeL (decide ((0 : Nat) + i = (0 : Nat) + (W (curI n * (1031 : Int))).toNat)) (setL (byteSV n ((0 : Nat) + (W (curI
    n * (1031 : Int))).toNat)) (0 : Nat) [SV.int IntKind.u8 (0 : Int)]) (byteSV n ((0 : Nat) + i))) == (62 : Int)) = false → True ∧ True ∧ true = false ∧ True)) ∧ ((↑(comF
    (rowL codS l.length fun i => codS.enc (l.getD i codS.dft))).length == (0 : Int)) = false → ((curE (bytesOf n.length fun i => mergeL (decide ((0 : Nat) + i = (0 :
    Nat) + (W (curI n * (1031 : Int))).toNat)) (setL (byteSV n ((0 : Nat) + (W (curI n * (1031 : Int))).toNat)) (0 : Nat) [SV.int IntKind.u8 (0 : Int)]) (byteSV n ((0
    : Nat) + i))) == (0 : Int)) = true → ((curD (bytesOf n.length fun i => mergeL (decide ((0 : Nat) + i = (0 : Nat) + (W (curI n * (1031 : Int))).toNat)) (setL (byteSV
    n ((0 : Nat) + (W (curI n * (1031 : Int))).toNat)) (0 : Nat) [SV.int IntKind.u8 (0 : Int)]) (byteSV n ((0 : Nat) + i))) == n_2) = true → (True ∧ True) ∧ True ∧ True
    ∧ true = true ∧ True) ∧ ((curD (bytesOf n.length fun i => mergeL (decide ((0 : Nat) + i = (0 : Nat) + (W (curI n * (1031 : Int))).toNat)) (setL (byteSV n ((0 : Nat)
    + (W (curI n * (1031 : Int))).toNat)) (0 : Nat) [SV.int IntKind.u8 (0 : Int)]) (byteSV n ((0 : Nat) + i))) == n_2) = false → True ∧ True ∧ true = false ∧ True))
    ∧ ((curE (bytesOf n.length fun i => mergeL (decide ((0 : Nat) + i = (0 : Nat) + (W (curI n * (1031 : Int))).toNat)) (setL (byteSV n ((0 : Nat) + (W (curI n * (1031
    : Int))).toNat)) (0 : Nat) [SV.int IntKind.u8 (0 : Int)]) (byteSV n ((0 : Nat) + i))) == (0 : Int)) = false → True ∧ True ∧ true = false ∧ True)))))))))))) ∧ (decide
    (n_4 < ↑(comF (rowL codS l.length fun i => codS.enc (l.getD i codS.dft))).length) = false → True ∧ True ∧ ((n_1 != (0 : Int)) = true → True ∧ True ∧ true = false
    ∧ True) ∧ ((n_1 != (0 : Int)) = false → True ∧ (True ∧ True) ∧ True ∧ True ∧ (True ∧ True) ∧ True ∧ ((curE n != (0 : Int)) = true → True ∧ True ∧ True ∧ true = false
    ∧ True) ∧ ((curE n != (0 : Int)) = false → ((curE n != (0 : Int)) = true → True ∧ True ∧ True ∧ true = false ∧ True) ∧ ((curE n != (0 : Int)) = false → ((!curD n
    == n_3) = true → True ∧ True ∧ True ∧ true = false ∧ True) ∧ ((!curD n == n_3) = false → ((curN n != if W (↑(comF (rowL codS l.length fun i => codS.enc (l.getD i
    codS.dft))).length + (1 : Int)) < (2 : Int) then W (↑(comF (rowL codS l.length fun i => codS.enc (l.getD i codS.dft))).length + (1 : Int)) else (2 : Int)) = true
    → True ∧ True ∧ True ∧ true = false ∧ True) ∧ ((curN n != if W (↑(comF (rowL codS l.length fun i => codS.enc (l.getD i codS.dft))).length + (1 : Int)) < (2 : Int)
    then W (↑(comF (rowL codS l.length fun i => codS.enc (l.getD i codS.dft))).length + (1 : Int)) else (2 : Int)) = false → (decide (curI n < (0 : Int)) = true → True
    ∧ True ∧ True ∧ true = false ∧ True) ∧ (decide (curI n < (0 : Int)) = false → (decide (curI n > (1 : Int)) = true → True ∧ True ∧ True ∧ true = false ∧ True) ∧ (decide
    (curI n > (1 : Int)) = false → True ∧ ((↑n.length != (2062 : Int)) = true → True ∧ True ∧ true = false ∧ True) ∧ ((↑n.length != (2062 : Int)) = false → True ∧ ((0
    : Int) ≤ W (curI n * (1031 : Int)) ∧ W (curI n * (1031 : Int)) < ↑n.length) ∧ (0 : Nat) + (W (curI n * (1031 : Int))).toNat < n.length ∧ True ∧ (0 : Nat) + n.length
    ≤ n.length ∧ (∀ (j : Nat), j < n.length → isByte ((fun (i' : Nat) => mergeL (decide (i' = (0 : Nat) + (W (curI n * (1031 : Int))).toNat)) (setL (byteSV n ((0 : Nat)
    + (W (curI n * (1031 : Int))).toNat)) (0 : Nat) [SV.int IntKind.u8 (0 : Int)]) (byteSV n i')) ((0 : Nat) + j)) = true) ∧ True ∧ (True ∧ True) ∧ True ∧ True ∧ ((↑(comF
    (rowL codS l.length fun i => codS.enc (l.getD i codS.dft))).length == (0 : Int)) = true → ((curE (bytesOf n.length fun i => mergeL (decide ((0 : Nat) + i = (0 :
    Nat) + (W (curI n * (1031 : Int))).toNat)) (setL (byteSV n ((0 : Nat) + (W (curI n * (1031 : Int))).toNat)) (0 : Nat) [SV.int IntKind.u8 (0 : Int)]) (byteSV n ((0
    : Nat) + i))) == (62 : Int)) = true → (True ∧ True) ∧ True ∧ True ∧ true = true ∧ True) ∧ ((curE (bytesOf n.length fun i => mergeL (decide ((0 : Nat) + i = (0 :
    Nat) + (W (curI n * (1031 : Int))).toNat)) (setL (byteSV n ((0 : Nat) + (W (curI n * (1031 : Int))).toNat)) (0 : Nat) [SV.int IntKind.u8 (0 : Int)]) (byteSV n ((0
    : Nat) + i))) == (62 : Int)) = false → True ∧ True ∧ true = false ∧ True)) ∧ ((↑(comF (rowL codS l.length fun i => codS.enc (l.getD i codS.dft))).length == (0 :
    Int)) = false → ((curE (bytesOf n.length fun i => mergeL (decide ((0 : Nat) + i = (0 : Nat) + (W (curI n * (1031 : Int))).toNat)) (setL (byteSV n ((0 : Nat) + (W
    (curI n * (1031 : Int))).toNat)) (0 : Nat) [SV.int IntKind.u8 (0 : Int)]) (byteSV n ((0 : Nat) + i))) == (0 : Int)) = true → ((curD (bytesOf n.length fun i => mergeL
    (decide ((0 : Nat) + i = (0 : Nat) + (W (curI n * (1031 : Int))).toNat)) (setL (byteSV n ((0 : Nat) + (W (curI n * (1031 : Int))).toNat)) (0 : Nat) [SV.int IntKind.u8
    (0 : Int)]) (byteSV n ((0 : Nat) + i))) == n_2) = true → (True ∧ True) ∧ True ∧ True ∧ true = true ∧ True) ∧ ((curD (bytesOf n.length fun i => mergeL (decide ((0
    : Nat) + i = (0 : Nat) + (W (curI n * (1031 : Int))).toNat)) (setL (byteSV n ((0 : Nat) + (W (curI n * (1031 : Int))).toNat)) (0 : Nat) [SV.int IntKind.u8 (0 : Int)])
    (byteSV n ((0 : Nat) + i))) == n_2) = false → True ∧ True ∧ true = false ∧ True)) ∧ ((curE (bytesOf n.length fun i => mergeL (decide ((0 : Nat) + i = (0 : Nat) +
    (W (curI n * (1031 : Int))).toNat)) (setL (byteSV n ((0 : Nat) + (W (curI n * (1031 : Int))).toNat)) (0 : Nat) [SV.int IntKind.u8 (0 : Int)]) (byteSV n ((0 : Nat)
    + i))) == (0 : Int)) = false → True ∧ True ∧ true = false ∧ True)))))))))))) = vc6 l := by kernel_rfl
def zap (m : Bs) (k : Nat) : Bs := m.set k 0
theorem zap_eq {m : Bs} (k : Nat) : (bytesOf m.length fun i => mergeL (decide (i = k)) (setL (byteSV m k) 0 [SV.int IntKind.u8 0]) (byteSV m i)) = zap m k := by
  simp only [bytesOf]
  refine list_of (by simp [zap]) fun j hj => ?_
  rw [mrg0]
  simp only [Sx.byteOf, zap]
  by_cases q : j = k
  · subst q
    simp [List.getD_eq_getElem?_getD, hj]
  · rw [decide_eq_false q, if_neg (by decide)]
    simp only [by']
    rw [ofNat_by]
    simp [List.getD_eq_getElem?_getD, List.getElem?_set, Ne.symm q]
theorem zap_len (m : Bs) (k : Nat) : (zap m k).length = m.length := by simp [zap]
theorem zap_at (m : Bs) {k j : Nat} (h : ¬ k = j) : (zap m k).getD j 0 = m.getD j 0 := by
  simp [zap, List.getD_eq_getElem?_getD, List.getElem?_set, h]
theorem zap_self {m : Bs} {k : Nat} (h : k < m.length) : (zap m k).getD k 0 = 0 := by
  simp [zap, List.getD_eq_getElem?_getD, h]
theorem zap_law {m : Bs} (h : curE m = 0) : (rdB (slS m (1 - curI m)) = true → curE (zap m (curI m * 1031).toNat) = 0 ∧ curD (zap m (curI m * 1031).toNat) = datS (slS m (1 - curI m))) ∧
    (rdB (slS m (1 - curI m)) = false → curE (zap m (curI m * 1031).toNat) = 62) := by
  have c := curI_bd m
  obtain ⟨hl, _⟩ := curE_ok h
  have l' : (zap m (curI m * 1031).toNat).length = 2062 := by rw [zap_len, hl]
  have hs : slS (zap m (curI m * 1031).toNat) (1 - curI m) = slS m (1 - curI m) := sl_ext hl l' (by omega) (by omega) fun k hk => zap_at m (by omega)
  have hb : rdB (slS (zap m (curI m * 1031).toNat) (curI m)) = false := by
    refine slot_bad ?_
    simp only [by']
    rw [sl_at c.1 (by omega), Nat.add_zero, zap_self (by omega)]; rfl
  generalize zap m (curI m * 1031).toNat = z at *
  rcases (show curI m = 0 ∨ curI m = 1 by omega) with q | q
  · rw [q] at hs hb ⊢
    refine ⟨fun g => ?_, fun g => ?_⟩
    · obtain ⟨c1, c2, c3⟩ := cur_of l' hb (show rdB (slS z 1) = true by rw [← g]; exact congrArg rdB hs)
      simp at c1 c3
      refine ⟨c3, ?_⟩
      rw [curD_of c3, c1]; exact congrArg datS hs
    · obtain ⟨c1, c2, c3⟩ := cur_of l' hb (show rdB (slS z 1) = false by rw [← g]; exact congrArg rdB hs)
      simpa using c3
  · rw [q] at hs hb ⊢
    refine ⟨fun g => ?_, fun g => ?_⟩
    · obtain ⟨c1, c2, c3⟩ := cur_of l' (show rdB (slS z 0) = true by rw [← g]; exact congrArg rdB hs) hb
      simp at c1 c3
      refine ⟨c3, ?_⟩
      rw [curD_of c3, c1]; exact congrArg datS hs
    · obtain ⟨c1, c2, c3⟩ := cur_of l' (show rdB (slS z 0) = false by rw [← g]; exact congrArg rdB hs) hb
      simpa using c3
theorem other_bad {m : Bs} (h : curE m = 0) (hn : curN m = 1) : rdB (slS m (1 - curI m)) = false := by
  obtain ⟨hl, _⟩ := curE_ok h
  obtain ⟨c1, c2, c3⟩ := cur_of (m := m) hl rfl rfl
  cases h0 : rdB (slS m 0) <;> cases h1 : rdB (slS m 1) <;> simp [h0, h1] at c1 c2 c3
  · omega
  · rw [c1]; exact h0
  · rw [c1]; exact h1
  · omega
theorem other_good {m d : Bs} {b : Int} (h : curE m = 0) (hd : d.length ≤ 1024) (hb : (d.length : Int) + 8 ≤ b) : rdB (slS (cmS m d b) (1 - curI (cmS m d b))) = true ∧ datS (slS (cmS m d b) (1 - curI (cmS m d b))) = curD m := by
  have c := (cm_law (b := b) h hd).2.2.1 hb
  rw [c.2.2.1, show 1 - (1 - curI m) = curI m by omega, cm_same h hd]
  exact ⟨(curE_ok h).2, (curD_of h).symm⟩
theorem t6 (l : List Bs) (hl : l.length ≤ 9223372036854775807) (hc : ∀ c ∈ l, c.length ≤ 9223372036854775807) : vc6 l := by
  rw [← vc6_eq]
  simp [-List.getD_eq_getElem?_getD, W_def, by_def, selfS]
  have cl := com_ok l
  have cn := com_len l
  generalize comF l = k at *
  refine ⟨⟨hl, hc⟩, ?_, fun m e p q i hJ => ⟨fun h => ⟨fun h2 => ?_, fun h2 => ?_⟩, fun h => ?_⟩⟩
  · have f := fmt_law first_len
    simp only [J6]
    exact ⟨by omega, by omega, trivial, by rw [show (0 : Int).toNat = 0 from rfl, List.take_zero, mad_nil]; rfl, f.2.2.2.2.2.symm, fun g => by omega⟩
  · simp only [J6] at hJ ⊢
    obtain ⟨i0, i1, e0, hm, hq, hp⟩ := hJ
    have hz := cl.2 _ (mem_getD (show i.toNat < k.length by omega))
    have hg := mad_good cl.2 i.toNat (by omega)
    rw [← hm] at hg
    have c := cm_law (b := 1048576) hg.2 hz
    have c2 := c.2.2.1 (by omega)
    rw [W_id (n := i + 1) (by omega) (by omega)]
    refine ⟨⟨i0, h⟩, by omega, ⟨i0, h⟩, ⟨by omega, by omega, c2.1, ?_, c2.2.1.symm, fun _ => ?_⟩, by omega⟩
    · rw [show (i + 1).toNat = i.toNat + 1 by omega, mad_take (by omega), ← hm]
    · rw [show (i + 1).toNat - 1 = i.toNat by omega, ← hm]; exact hq
  · simp only [J6] at hJ
    exact absurd hJ.2.2.1 h2
  · simp only [J6] at hJ
    obtain ⟨i0, i1, e0, hm, hq, hp⟩ := hJ
    have hi : i.toNat = k.length := by omega
    have hg := mad_good cl.2 i.toNat (by omega)
    rw [← hm] at hg
    have b := curI_bd m
    rw [W_id (n := (k.length : Int) + 1) (by omega) (by omega), W_id (n := curI m * 1031) (by omega) (by omega), zap_eq]
    have zl := zap_law hg.2
    have hN : (k = [] → curN m = 1 ∧ rdB (slS m (1 - curI m)) = false) ∧ (¬ k = [] → curN m = 2 ∧ rdB (slS m (1 - curI m)) = true ∧ datS (slS m (1 - curI m)) = p) := by
      refine ⟨fun g => ?_, fun g => ?_⟩
      · subst g
        rw [hi] at hm
        have hm : m = fmtS firstB := by rw [hm]; exact mad_nil
        have f := fmt_law first_len
        rw [← hm] at f
        exact ⟨f.2.2.2.2.1, other_bad f.2.2.1 f.2.2.2.2.1⟩
      · have hk : 0 < k.length := List.length_pos_iff.2 g
        have hz := cl.2 _ (mem_getD (show i.toNat - 1 < k.length by omega))
        have hg2 := mad_good cl.2 (i.toNat - 1) (by omega)
        have hm2 : m = cmS (madM (k.take (i.toNat - 1))) (k.getD (i.toNat - 1) []) 1048576 := by
          rw [← mad_take (by omega), show i.toNat - 1 + 1 = i.toNat by omega]; exact hm
        have c := (cm_law (b := 1048576) hg2.2 hz).2.2.1 (by omega)
        have o := other_good (b := 1048576) hg2.2 hz (by omega)
        rw [← hm2] at c o
        exact ⟨c.2.2.2, o.1, by rw [o.2]; exact (hp (by omega)).symm⟩
    have hcn : curN m = if (k.length : Int) + 1 < 2 then (k.length : Int) + 1 else 2 := by
      by_cases g : k = []
      · rw [(hN.1 g).1, g]; rfl
      · have hk : 0 < k.length := List.length_pos_iff.2 g
        rw [(hN.2 g).1, if_neg (by omega)]
    refine ⟨e0, fun _ => ⟨hg.2, fun _ => ⟨hg.2, fun _ => ⟨hq.symm, fun _ => ⟨hcn, fun _ => ⟨b.1, fun _ => ⟨b.2, fun _ => ⟨by omega, fun _ => ⟨by omega, by omega, fun j hj => by rw [mrg0]; rfl, fun g => zl.2 (hN.1 g).2, fun g => ⟨fun _ => ?_, ?_⟩⟩⟩⟩⟩⟩⟩⟩⟩⟩
    · rw [(zl.1 (hN.2 g).2.1).2]; exact (hN.2 g).2.2
    · exact (zl.1 (hN.2 g).2.1).1
end Go.Proofs.Nv
