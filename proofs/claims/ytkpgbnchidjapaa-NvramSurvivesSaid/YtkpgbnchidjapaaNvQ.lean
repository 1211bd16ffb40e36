import Derived.Test.YtkpgbnchidjapaaNvO
namespace Go.Proofs.Nv
set_option linter.unusedVariables false
set_option linter.unusedSimpArgs false
open Go Go.Sx Go.Proofs
set_option maxRecDepth 100000
set_option maxHeartbeats 4000000
-- ABBR: IntKind.i64.wrap ==> W
noncomputable def A8 (s : Bs) (n : Int) : List Ann := [⟨.unit, .int .i64 (.tm 5), fun _ (x : Int) => 0 ≤ x ∧ x ≤ 2, fun _ (x : Int) => (2 - x).toNat⟩]
noncomputable def vc8 (s : Bs) (n : Int) : Prop := cva T14 Try.f8 (A8 s n) [.str s, .int .u8 n] (.bool true)
abbrev XK := Bs × Int × Int
def J9 (l : List Bs) (n : Int) (x : XK) : Prop := 0 ≤ x.2.2 ∧ x.2.2 ≤ n ∧ x.1 = wantR l x.2.2 ∧ x.2.1 = usedR (l.take x.2.2.toNat)
attribute [irreducible] J9
noncomputable def A9 (l : List Bs) (b : Int) : List Ann := [⟨.unit, .list [.str (.tm 11), .int .i64 (.tm 12), .int .i64 (.tm 13)], fun _ (x : XK) => J9 (comF l) (rnN (fmtS firstB) (comF l) b) x, fun _ (x : XK) => (rnN (fmtS firstB) (comF l) b - x.2.2).toNat⟩]
noncomputable def vc9 (l : List Bs) (b : Int) : Prop := cva T14 Try.f9 (A9 l b) [encR codS l, .int .u16 b] (.bool true)
noncomputable def A10 (l : List Bs) (n : Int) (s : Bs) : List Ann := [⟨.unit, .int .i64 (.tm 10), fun _ (x : Int) => 0 ≤ x ∧ x ≤ 3, fun _ (x : Int) => (3 - x).toNat⟩]
noncomputable def vc10 (l : List Bs) (n : Int) (s : Bs) : Prop := cva T14 Try.f10 (A10 l n s) [encR codS l, iS n, .str s] (.bool true)
theorem vc8_eq (s : Bs) (n : Int) : (True ∧ True ∧ (((0 : Int) ≤ (0 : Int) ∧ (0 : Int) ≤ (2 : Int)) ∧ (s = s ∧ n = n ∧ True ∧ True ∧ True ∧ (0 : Int) = (0 : Int) ∧ True ∧ True ∧ True ∧ True ∧ True ∧
    True ∧ True ∧ True ∧ True ∧ True ∧ True ∧ True ∧ True ∧ True ∧ True ∧ True ∧ True ∧ True ∧ True ∧ True ∧ True ∧ True ∧ True ∧ True ∧ True ∧ True ∧ True ∧ True ∧
    True ∧ True ∧ True ∧ True ∧ True ∧ True ∧ True ∧ True ∧ True ∧ True ∧ True ∧ True ∧ True ∧ True ∧ True ∧ True ∧ True ∧ True ∧ True ∧ True ∧ True ∧ True ∧ True ∧
    True ∧ True ∧ True ∧ True ∧ True ∧ True ∧ True ∧ True ∧ True ∧ True ∧ True ∧ True ∧ True) ∧ True) ∧ ∀ (n_1 : Int), (0 : Int) ≤ n_1 ∧ n_1 ≤ (2 : Int) → True ∧ (decide
    (n_1 < (2 : Int)) = true → True ∧ True ∧ ((n_1 == (1 : Int)) = true → True ∧ True ∧ ((True ∧ True) ∧ List.length s ≤ (9223372036854775807 : Nat) ∧ (0 : Int) ≤ n
    ∧ n < (256 : Int)) ∧ True ∧ True ∧ (decide (↑(List.length (datF s n)) > (3000 : Int)) = true → True ∧ ((0 : Int) ≤ W (n_1 + (1 : Int)) ∧ W (n_1 + (1 : Int)) ≤ (2
    : Int)) ∧ ((2 : Int) - W (n_1 + (1 : Int))).toNat < ((2 : Int) - n_1).toNat ∧ (s = s ∧ n = n ∧ True ∧ True ∧ True ∧ W (n_1 + (1 : Int)) = W (n_1 + (1 : Int)) ∧ True
    ∧ True ∧ True ∧ True ∧ True ∧ True ∧ True ∧ True ∧ True ∧ True ∧ True ∧ True ∧ True ∧ True ∧ True ∧ True ∧ True ∧ True ∧ True ∧ True ∧ True ∧ True ∧ True ∧ True
    ∧ True ∧ True ∧ True ∧ True ∧ True ∧ True ∧ True ∧ True ∧ True ∧ True ∧ True ∧ True ∧ True ∧ True ∧ True ∧ True ∧ True ∧ True ∧ True ∧ True ∧ True ∧ True ∧ True
    ∧ True ∧ True ∧ True ∧ True ∧ True ∧ True ∧ True ∧ True ∧ True ∧ True ∧ True ∧ True ∧ True ∧ True ∧ True ∧ True ∧ True) ∧ True) ∧ (decide (↑(List.length (datF s
    n)) > (3000 : Int)) = false → True ∧ (True ∧ List.length (datF s n) ≤ (1000000 : Nat)) ∧ True ∧ True ∧ (True ∧ List.length (datF s n) ≤ (1000000 : Nat)) ∧ True ∧
    ((!fmtS (datF s n) == fmtS (datF s n)) = true → True ∧ True ∧ True ∧ true = false ∧ True) ∧ ((!fmtS (datF s n) == fmtS (datF s n)) = false → ((fmtE (datF s n) !=
    fmtE (datF s n)) = true → True ∧ True ∧ True ∧ true = false ∧ True) ∧ ((fmtE (datF s n) != fmtE (datF s n)) = false → True ∧ (True ∧ List.length (datF s n) ≤ (1000000
    : Nat)) ∧ True ∧ (((8 : Int) + ↑(List.length (datF s n)) != W (↑(List.length (datF s n)) + (8 : Int))) = true → True ∧ True ∧ true = false ∧ True) ∧ (((8 : Int)
    + ↑(List.length (datF s n)) != W (↑(List.length (datF s n)) + (8 : Int))) = false → True ∧ (True ∧ True) ∧ True ∧ ((fmtE (datF s n) == (0 : Int)) = true → ((curE
    (fmtS (datF s n)) != (0 : Int)) = true → True ∧ True ∧ True ∧ true = false ∧ True) ∧ ((curE (fmtS (datF s n)) != (0 : Int)) = false → True ∧ ((!curD (fmtS (datF
    s n)) == datF s n) = true → True ∧ True ∧ true = false ∧ True) ∧ ((!curD (fmtS (datF s n)) == datF s n) = false → True ∧ ((0 : Int) ≤ W (n_1 + (1 : Int)) ∧ W (n_1
    + (1 : Int)) ≤ (2 : Int)) ∧ ((2 : Int) - W (n_1 + (1 : Int))).toNat < ((2 : Int) - n_1).toNat ∧ (s = s ∧ n = n ∧ True ∧ True ∧ True ∧ W (n_1 + (1 : Int)) = W (n_1
    + (1 : Int)) ∧ True ∧ True ∧ True ∧ True ∧ True ∧ True ∧ True ∧ True ∧ True ∧ True ∧ True ∧ True ∧ True ∧ True ∧ True ∧ True ∧ True ∧ True ∧ True ∧ True ∧ True ∧
    True ∧ True ∧ True ∧ True ∧ True ∧ True ∧ True ∧ True ∧ True ∧ True ∧ True ∧ True ∧ True ∧ True ∧ True ∧ True ∧ True ∧ True ∧ True ∧ True ∧ True ∧ True ∧ True ∧
    True ∧ True ∧ True ∧ True ∧ True ∧ True ∧ True ∧ True ∧ True ∧ True ∧ True ∧ True ∧ True ∧ True ∧ True ∧ True ∧ True ∧ True ∧ True ∧ True) ∧ True))) ∧ ((fmtE (datF
    s n) == (0 : Int)) = false → True ∧ True ∧ ((0 : Int) ≤ W (n_1 + (1 : Int)) ∧ W (n_1 + (1 : Int)) ≤ (2 : Int)) ∧ ((2 : Int) - W (n_1 + (1 : Int))).toNat < ((2 :
    Int) - n_1).toNat ∧ (s = s ∧ n = n ∧ True ∧ True ∧ True ∧ W (n_1 + (1 : Int)) = W (n_1 + (1 : Int)) ∧ True ∧ True ∧ True ∧ True ∧ True ∧ True ∧ True ∧ True ∧ True
    ∧ True ∧ True ∧ True ∧ True ∧ True ∧ True ∧ True ∧ True ∧ True ∧ True ∧ True ∧ True ∧ True ∧ True ∧ True ∧ True ∧ True ∧ True ∧ True ∧ True ∧ True ∧ True ∧ True
    ∧ True ∧ True ∧ True ∧ True ∧ True ∧ True ∧ True ∧ True ∧ True ∧ True ∧ True ∧ True ∧ True ∧ True ∧ True ∧ True ∧ True ∧ True ∧ True ∧ True ∧ True ∧ True ∧ True
    ∧ True ∧ True ∧ True ∧ True ∧ True ∧ True ∧ True ∧ True ∧ True) ∧ True)))))) ∧ ((n_1 == (1 : Int)) = false → True ∧ (decide (↑(List.length s) > (3000 : Int)) = true
    → True ∧ ((0 : Int) ≤ W (n_1 + (1 : Int)) ∧ W (n_1 + (1 : Int)) ≤ (2 : Int)) ∧ ((2 : Int) - W (n_1 + (1 : Int))).toNat < ((2 : Int) - n_1).toNat ∧ (s = s ∧ n = n
    ∧ True ∧ True ∧ True ∧ W (n_1 + (1 : Int)) = W (n_1 + (1 : Int)) ∧ True ∧ True ∧ True ∧ True ∧ True ∧ True ∧ True ∧ True ∧ True ∧ True ∧ True ∧ True ∧ True ∧ True
    ∧ True ∧ True ∧ True ∧ True ∧ True ∧ True ∧ True ∧ True ∧ True ∧ True ∧ True ∧ True ∧ True ∧ True ∧ True ∧ True ∧ True ∧ True ∧ True ∧ True ∧ True ∧ True ∧ True
    ∧ True ∧ True ∧ True ∧ True ∧ True ∧ True ∧ True ∧ True ∧ True ∧ True ∧ True ∧ True ∧ True ∧ True ∧ True ∧ True ∧ True ∧ True ∧ True ∧ True ∧ True ∧ True ∧ True
    ∧ True ∧ True ∧ True ∧ True) ∧ True) ∧ (decide (↑(List.length s) > (3000 : Int)) = false → True ∧ (True ∧ List.length s ≤ (1000000 : Nat)) ∧ True ∧ True ∧ (True
    ∧ List.length s ≤ (1000000 : Nat)) ∧ True ∧ ((!fmtS s == fmtS s) = true → True ∧ True ∧ True ∧ true = false ∧ True) ∧ ((!fmtS s == fmtS s) = false → ((fmtE s !=
    fmtE s) = true → True ∧ True ∧ True ∧ true = false ∧ True) ∧ ((fmtE s != fmtE s) = false → True ∧ (True ∧ List.length s ≤ (1000000 : Nat)) ∧ True ∧ (((8 : Int) +
    ↑(List.length s) != W (↑(List.length s) + (8 : Int))) = true → True ∧ True ∧ true = false ∧ True) ∧ (((8 : Int) + ↑(List.length s) != W (↑(List.length s) + (8 :
    Int))) = false → True ∧ (True ∧ True) ∧ True ∧ ((fmtE s == (0 : Int)) = true → ((curE (fmtS s) != (0 : Int)) = true → True ∧ True ∧ True ∧ true = false ∧ True) ∧
    ((curE (fmtS s) != (0 : Int)) = false → True ∧ ((!curD (fmtS s) == s) = true → True ∧ True ∧ true = false ∧ True) ∧ ((!curD (fmtS s) == s) = false → True ∧ ((0 :
    Int) ≤ W (n_1 + (1 : Int)) ∧ W (n_1 + (1 : Int)) ≤ (2 : Int)) ∧ ((2 : Int) - W (n_1 + (1 : Int))).toNat < ((2 : Int) - n_1).toNat ∧ (s = s ∧ n = n ∧ True ∧ True
    ∧ True ∧ W (n_1 + (1 : Int)) = W (n_1 + (1 : Int)) ∧ True ∧ True ∧ True ∧ True ∧ True ∧ True ∧ True ∧ True ∧ True ∧ True ∧ True ∧ True ∧ True ∧ True ∧ True ∧ True
    ∧ True ∧ True ∧ True ∧ True ∧ True ∧ True ∧ True ∧ True ∧ True ∧ True ∧ True ∧ True ∧ True ∧ True ∧ True ∧ True ∧ True ∧ True ∧ True ∧ True ∧ True ∧ True ∧ True
    ∧ True ∧ True ∧ True ∧ True ∧ True ∧ True ∧ True ∧ True ∧ True ∧ True ∧ True ∧ True ∧ True ∧ True ∧ True ∧ True ∧ True ∧ True ∧ True ∧ True ∧ True ∧ True ∧ True
    ∧ True ∧ True) ∧ True))) ∧ ((fmtE s == (0 : Int)) = false → True ∧ True ∧ ((0 : Int) ≤ W (n_1 + (1 : Int)) ∧ W (n_1 + (1 : Int)) ≤ (2 : Int)) ∧ ((2 : Int) - W (n_1
    + (1 : Int))).toNat < ((2 : Int) - n_1).toNat ∧ (s = s ∧ n = n ∧ True ∧ True ∧ True ∧ W (n_1 + (1 : Int)) = W (n_1 + (1 : Int)) ∧ True ∧ True ∧ True ∧ True ∧ True
    ∧ True ∧ True ∧ True ∧ True ∧ True ∧ True ∧ True ∧ True ∧ True ∧ True ∧ True ∧ True ∧ True ∧ True ∧ True ∧ True ∧ True ∧ True ∧ True ∧ True ∧ True ∧ True ∧ True
    ∧ True ∧ True ∧ True ∧ True ∧ True ∧ True ∧ True ∧ True ∧ True ∧ True ∧ True ∧ True ∧ True ∧ True ∧ True ∧ True ∧ True ∧ True ∧ True ∧ True ∧ True ∧ True ∧ True
    ∧ True ∧ True ∧ True ∧ True ∧ True ∧ True ∧ True ∧ True ∧ True ∧ True ∧ True ∧ True ∧ True) ∧ True))))))) ∧ (decide (n_1 < (2 : Int)) = false → (True ∧ True) ∧ True
    ∧ True ∧ true = true ∧ True)) = vc8 s n := by kernel_rfl
theorem vc9_eq (l : List Bs) (b : Int) : (True ∧ True ∧ ((∀ (i : Nat), i < l.length → true = true ∧ True) ∧ (rowL codS l.length fun i => codS.enc (l.getD i codS.dft)).length ≤ (9223372036854775807 : Nat)
    ∧ ∀ (c : List UInt8), (c ∈ rowL codS l.length fun i => codS.enc (l.getD i codS.dft)) → c.length ≤ (9223372036854775807 : Nat)) ∧ True ∧ True ∧ (True ∧ (5 : Nat)
    ≤ (1000000 : Nat)) ∧ True ∧ True ∧ (false = true → True ∧ True ∧ true = false ∧ True) ∧ (false = false → True ∧ True ∧ True ∧ ((True ∧ (∀ (i : Nat), i < (comF (rowL
    codS l.length fun i => codS.enc (l.getD i codS.dft))).length → true = true ∧ True) ∧ True) ∧ (rowL codS (comF (rowL codS l.length fun i => codS.enc (l.getD i codS.dft))).length
    fun i => codS.enc ((comF (rowL codS l.length fun i => codS.enc (l.getD i codS.dft))).getD i codS.dft)).length ≤ (1000000 : Nat) ∧ (∀ (c : List UInt8), (c ∈ rowL
    codS (comF (rowL codS l.length fun i => codS.enc (l.getD i codS.dft))).length fun i => codS.enc ((comF (rowL codS l.length fun i => codS.enc (l.getD i codS.dft))).getD
    i codS.dft)) → c.length ≤ (1000000 : Nat)) ∧ (-9223372036854775808 : Int) ≤ W b ∧ W b < (9223372036854775808 : Int)) ∧ True ∧ (decide (rnN (fmtS #[(102 : UInt8),
    (105 : UInt8), (114 : UInt8), (115 : UInt8), (116 : UInt8)].toList) (rowL codS (comF (rowL codS l.length fun i => codS.enc (l.getD i codS.dft))).length fun i =>
    codS.enc ((comF (rowL codS l.length fun i => codS.enc (l.getD i codS.dft))).getD i codS.dft)) (W b) < (0 : Int)) = true → True ∧ True ∧ True ∧ true = false ∧ True)
    ∧ (decide (rnN (fmtS #[(102 : UInt8), (105 : UInt8), (114 : UInt8), (115 : UInt8), (116 : UInt8)].toList) (rowL codS (comF (rowL codS l.length fun i => codS.enc
    (l.getD i codS.dft))).length fun i => codS.enc ((comF (rowL codS l.length fun i => codS.enc (l.getD i codS.dft))).getD i codS.dft)) (W b) < (0 : Int)) = false →
    (decide (rnN (fmtS #[(102 : UInt8), (105 : UInt8), (114 : UInt8), (115 : UInt8), (116 : UInt8)].toList) (rowL codS (comF (rowL codS l.length fun i => codS.enc (l.getD
    i codS.dft))).length fun i => codS.enc ((comF (rowL codS l.length fun i => codS.enc (l.getD i codS.dft))).getD i codS.dft)) (W b) > ↑(comF (rowL codS l.length fun
    i => codS.enc (l.getD i codS.dft))).length) = true → True ∧ True ∧ True ∧ true = false ∧ True) ∧ (decide (rnN (fmtS #[(102 : UInt8), (105 : UInt8), (114 : UInt8),
    (115 : UInt8), (116 : UInt8)].toList) (rowL codS (comF (rowL codS l.length fun i => codS.enc (l.getD i codS.dft))).length fun i => codS.enc ((comF (rowL codS l.length
    fun i => codS.enc (l.getD i codS.dft))).getD i codS.dft)) (W b) > ↑(comF (rowL codS l.length fun i => codS.enc (l.getD i codS.dft))).length) = false → ((!(rnE (fmtS
    #[(102 : UInt8), (105 : UInt8), (114 : UInt8), (115 : UInt8), (116 : UInt8)].toList) (rowL codS (comF (rowL codS l.length fun i => codS.enc (l.getD i codS.dft))).length
    fun i => codS.enc ((comF (rowL codS l.length fun i => codS.enc (l.getD i codS.dft))).getD i codS.dft)) (W b) == (0 : Int)) == (rnN (fmtS #[(102 : UInt8), (105 :
    UInt8), (114 : UInt8), (115 : UInt8), (116 : UInt8)].toList) (rowL codS (comF (rowL codS l.length fun i => codS.enc (l.getD i codS.dft))).length fun i => codS.enc
    ((comF (rowL codS l.length fun i => codS.enc (l.getD i codS.dft))).getD i codS.dft)) (W b) == ↑(comF (rowL codS l.length fun i => codS.enc (l.getD i codS.dft))).length))
    = true → True ∧ True ∧ True ∧ true = false ∧ True) ∧ ((!(rnE (fmtS #[(102 : UInt8), (105 : UInt8), (114 : UInt8), (115 : UInt8), (116 : UInt8)].toList) (rowL codS
    (comF (rowL codS l.length fun i => codS.enc (l.getD i codS.dft))).length fun i => codS.enc ((comF (rowL codS l.length fun i => codS.enc (l.getD i codS.dft))).getD
    i codS.dft)) (W b) == (0 : Int)) == (rnN (fmtS #[(102 : UInt8), (105 : UInt8), (114 : UInt8), (115 : UInt8), (116 : UInt8)].toList) (rowL codS (comF (rowL codS l.length
    fun i => codS.enc (l.getD i codS.dft))).length fun i => codS.enc ((comF (rowL codS l.length fun i => codS.enc (l.getD i codS.dft))).getD i codS.dft)) (W b) == ↑(comF
    (rowL codS l.length fun i => codS.enc (l.getD i codS.dft))).length)) = false → ((rnE (fmtS #[(102 : UInt8), (105 : UInt8), (114 : UInt8), (115 : UInt8), (116 : UInt8)].toList)
    (rowL codS (comF (rowL codS l.length fun i => codS.enc (l.getD i codS.dft))).length fun i => codS.enc ((comF (rowL codS l.length fun i => codS.enc (l.getD i codS.dft))).getD
    i codS.dft)) (W b) != (0 : Int)) = true → True ∧ ((rnE (fmtS #[(102 : UInt8), (105 : UInt8), (114 : UInt8), (115 : UInt8), (116 : UInt8)].toList) (rowL codS (comF
    (rowL codS l.length fun i => codS.enc (l.getD i codS.dft))).length fun i => codS.enc ((comF (rowL codS l.length fun i => codS.enc (l.getD i codS.dft))).getD i codS.dft))
    (W b) != (61 : Int)) = true → True ∧ True ∧ true = false ∧ True) ∧ ((rnE (fmtS #[(102 : UInt8), (105 : UInt8), (114 : UInt8), (115 : UInt8), (116 : UInt8)].toList)
    (rowL codS (comF (rowL codS l.length fun i => codS.enc (l.getD i codS.dft))).length fun i => codS.enc ((comF (rowL codS l.length fun i => codS.enc (l.getD i codS.dft))).getD
    i codS.dft)) (W b) != (61 : Int)) = false → True ∧ True ∧ (J9 (comF l) (rnN (fmtS firstB) (comF l) b) (#[(102 : UInt8), (105 : UInt8), (114 : UInt8), (115 : UInt8),
    (116 : UInt8)].toList, (0 : Int), (0 : Int)) ∧ ((l.length = l.length ∧ ∀ (i : Nat), i < l.length → l.getD i codS.dft = l.getD i codS.dft ∧ True) ∧ b = b ∧ True ∧
    True ∧ True ∧ ((comF (rowL codS l.length fun i => codS.enc (l.getD i codS.dft))).length = (comF (rowL codS l.length fun i => codS.enc (l.getD i codS.dft))).length
    ∧ ∀ (i : Nat), i < (comF (rowL codS l.length fun i => codS.enc (l.getD i codS.dft))).length → (comF (rowL codS l.length fun i => codS.enc (l.getD i codS.dft))).getD
    i codS.dft = (comF (rowL codS l.length fun i => codS.enc (l.getD i codS.dft))).getD i codS.dft ∧ True) ∧ fmtS #[(102 : UInt8), (105 : UInt8), (114 : UInt8), (115
    : UInt8), (116 : UInt8)].toList = fmtS #[(102 : UInt8), (105 : UInt8), (114 : UInt8), (115 : UInt8), (116 : UInt8)].toList ∧ (0 : Int) = (0 : Int) ∧ rnM (fmtS #[(102
    : UInt8), (105 : UInt8), (114 : UInt8), (115 : UInt8), (116 : UInt8)].toList) (rowL codS (comF (rowL codS l.length fun i => codS.enc (l.getD i codS.dft))).length
    fun i => codS.enc ((comF (rowL codS l.length fun i => codS.enc (l.getD i codS.dft))).getD i codS.dft)) (W b) = rnM (fmtS #[(102 : UInt8), (105 : UInt8), (114 : UInt8),
    (115 : UInt8), (116 : UInt8)].toList) (rowL codS (comF (rowL codS l.length fun i => codS.enc (l.getD i codS.dft))).length fun i => codS.enc ((comF (rowL codS l.length
    fun i => codS.enc (l.getD i codS.dft))).getD i codS.dft)) (W b) ∧ rnN (fmtS #[(102 : UInt8), (105 : UInt8), (114 : UInt8), (115 : UInt8), (116 : UInt8)].toList)
    (rowL codS (comF (rowL codS l.length fun i => codS.enc (l.getD i codS.dft))).length fun i => codS.enc ((comF (rowL codS l.length fun i => codS.enc (l.getD i codS.dft))).getD
    i codS.dft)) (W b) = rnN (fmtS #[(102 : UInt8), (105 : UInt8), (114 : UInt8), (115 : UInt8), (116 : UInt8)].toList) (rowL codS (comF (rowL codS l.length fun i =>
    codS.enc (l.getD i codS.dft))).length fun i => codS.enc ((comF (rowL codS l.length fun i => codS.enc (l.getD i codS.dft))).getD i codS.dft)) (W b) ∧ rnE (fmtS #[(102
    : UInt8), (105 : UInt8), (114 : UInt8), (115 : UInt8), (116 : UInt8)].toList) (rowL codS (comF (rowL codS l.length fun i => codS.enc (l.getD i codS.dft))).length
    fun i => codS.enc ((comF (rowL codS l.length fun i => codS.enc (l.getD i codS.dft))).getD i codS.dft)) (W b) = rnE (fmtS #[(102 : UInt8), (105 : UInt8), (114 : UInt8),
    (115 : UInt8), (116 : UInt8)].toList) (rowL codS (comF (rowL codS l.length fun i => codS.enc (l.getD i codS.dft))).length fun i => codS.enc ((comF (rowL codS l.length
    fun i => codS.enc (l.getD i codS.dft))).getD i codS.dft)) (W b) ∧ #[(102 : UInt8), (105 : UInt8), (114 : UInt8), (115 : UInt8), (116 : UInt8)].toList = #[(102 :
    UInt8), (105 : UInt8), (114 : UInt8), (115 : UInt8), (116 : UInt8)].toList ∧ (0 : Int) = (0 : Int) ∧ (0 : Int) = (0 : Int) ∧ True ∧ True ∧ True ∧ True ∧ True ∧ True
    ∧ (l.length = l.length ∧ ∀ (i : Nat), i < l.length → l.getD i codS.dft = l.getD i codS.dft ∧ True) ∧ ((comF (rowL codS l.length fun i => codS.enc (l.getD i codS.dft))).length
    = (comF (rowL codS l.length fun i => codS.enc (l.getD i codS.dft))).length ∧ ∀ (i : Nat), i < (comF (rowL codS l.length fun i => codS.enc (l.getD i codS.dft))).length
    → (comF (rowL codS l.length fun i => codS.enc (l.getD i codS.dft))).getD i codS.dft = (comF (rowL codS l.length fun i => codS.enc (l.getD i codS.dft))).getD i codS.dft
    ∧ True) ∧ (fmtS #[(102 : UInt8), (105 : UInt8), (114 : UInt8), (115 : UInt8), (116 : UInt8)].toList = fmtS #[(102 : UInt8), (105 : UInt8), (114 : UInt8), (115 :
    UInt8), (116 : UInt8)].toList ∧ (0 : Int) = (0 : Int) ∧ True) ∧ (fmtS #[(102 : UInt8), (105 : UInt8), (114 : UInt8), (115 : UInt8), (116 : UInt8)].toList = fmtS
    #[(102 : UInt8), (105 : UInt8), (114 : UInt8), (115 : UInt8), (116 : UInt8)].toList ∧ (0 : Int) = (0 : Int) ∧ True) ∧ fmtS #[(102 : UInt8), (105 : UInt8), (114 :
    UInt8), (115 : UInt8), (116 : UInt8)].toList = fmtS #[(102 : UInt8), (105 : UInt8), (114 : UInt8), (115 : UInt8), (116 : UInt8)].toList ∧ (0 : Int) = (0 : Int) ∧
    (0 : Int) = (0 : Int) ∧ True ∧ (rnM (fmtS #[(102 : UInt8), (105 : UInt8), (114 : UInt8), (115 : UInt8), (116 : UInt8)].toList) (rowL codS (comF (rowL codS l.length
    fun i => codS.enc (l.getD i codS.dft))).length fun i => codS.enc ((comF (rowL codS l.length fun i => codS.enc (l.getD i codS.dft))).getD i codS.dft)) (W b) = rnM
    (fmtS #[(102 : UInt8), (105 : UInt8), (114 : UInt8), (115 : UInt8), (116 : UInt8)].toList) (rowL codS (comF (rowL codS l.length fun i => codS.enc (l.getD i codS.dft))).length
    fun i => codS.enc ((comF (rowL codS l.length fun i => codS.enc (l.getD i codS.dft))).getD i codS.dft)) (W b) ∧ rnN (fmtS #[(102 : UInt8), (105 : UInt8), (114 : UInt8),
    (115 : UInt8), (116 : UInt8)].toList) (rowL codS (comF (rowL codS l.length fun i => codS.enc (l.getD i codS.dft))).length fun i => codS.enc ((comF (rowL codS l.length
    fun i => codS.enc (l.getD i codS.dft))).getD i codS.dft)) (W b) = rnN (fmtS #[(102 : UInt8), (105 : UInt8), (114 : UInt8), (115 : UInt8), (116 : UInt8)].toList)
    (rowL codS (comF (rowL codS l.length fun i => codS.enc (l.getD i codS.dft))).length fun i => codS.enc ((comF (rowL codS l.length fun i => codS.enc (l.getD i codS.dft))).getD
    i codS.dft)) (W b) ∧ rnE (fmtS #[(102 : UInt8), (105 : UInt8), (114 : UInt8), (115 : UInt8), (116 : UInt8)].toList) (rowL codS (comF (rowL codS l.length fun i =>
    codS.enc (l.getD i codS.dft))).length fun i => codS.enc ((comF (rowL codS l.length fun i => codS.enc (l.getD i codS.dft))).getD i codS.dft)) (W b) = rnE (fmtS #[(102
    : UInt8), (105 : UInt8), (114 : UInt8), (115 : UInt8), (116 : UInt8)].toList) (rowL codS (comF (rowL codS l.length fun i => codS.enc (l.getD i codS.dft))).length
    fun i => codS.enc ((comF (rowL codS l.length fun i => codS.enc (l.getD i codS.dft))).getD i codS.dft)) (W b) ∧ True) ∧ fmtS #[(102 : UInt8), (105 : UInt8), (114
    : UInt8), (115 : UInt8), (116 : UInt8)].toList = fmtS #[(102 : UInt8), (105 : UInt8), (114 : UInt8), (115 : UInt8), (116 : UInt8)].toList ∧ ((comF (rowL codS l.length
    fun i => codS.enc (l.getD i codS.dft))).length = (comF (rowL codS l.length fun i => codS.enc (l.getD i codS.dft))).length ∧ ∀ (i : Nat), i < (comF (rowL codS l.length
    fun i => codS.enc (l.getD i codS.dft))).length → (comF (rowL codS l.length fun i => codS.enc (l.getD i codS.dft))).getD i codS.dft = (comF (rowL codS l.length fun
    i => codS.enc (l.getD i codS.dft))).getD i codS.dft ∧ True) ∧ b = b ∧ W b = W b ∧ (rnM (fmtS #[(102 : UInt8), (105 : UInt8), (114 : UInt8), (115 : UInt8), (116 :
    UInt8)].toList) (rowL codS (comF (rowL codS l.length fun i => codS.enc (l.getD i codS.dft))).length fun i => codS.enc ((comF (rowL codS l.length fun i => codS.enc
    (l.getD i codS.dft))).getD i codS.dft)) (W b) = rnM (fmtS #[(102 : UInt8), (105 : UInt8), (114 : UInt8), (115 : UInt8), (116 : UInt8)].toList) (rowL codS (comF (rowL
    codS l.length fun i => codS.enc (l.getD i codS.dft))).length fun i => codS.enc ((comF (rowL codS l.length fun i => codS.enc (l.getD i codS.dft))).getD i codS.dft))
    (W b) ∧ rnN (fmtS #[(102 : UInt8), (105 : UInt8), (114 : UInt8), (115 : UInt8), (116 : UInt8)].toList) (rowL codS (comF (rowL codS l.length fun i => codS.enc (l.getD
    i codS.dft))).length fun i => codS.enc ((comF (rowL codS l.length fun i => codS.enc (l.getD i codS.dft))).getD i codS.dft)) (W b) = rnN (fmtS #[(102 : UInt8), (105
    : UInt8), (114 : UInt8), (115 : UInt8), (116 : UInt8)].toList) (rowL codS (comF (rowL codS l.length fun i => codS.enc (l.getD i codS.dft))).length fun i => codS.enc
    ((comF (rowL codS l.length fun i => codS.enc (l.getD i codS.dft))).getD i codS.dft)) (W b) ∧ rnE (fmtS #[(102 : UInt8), (105 : UInt8), (114 : UInt8), (115 : UInt8),
    (116 : UInt8)].toList) (rowL codS (comF (rowL codS l.length fun i => codS.enc (l.getD i codS.dft))).length fun i => codS.enc ((comF (rowL codS l.length fun i =>
    codS.enc (l.getD i codS.dft))).getD i codS.dft)) (W b) = rnE (fmtS #[(102 : UInt8), (105 : UInt8), (114 : UInt8), (115 : UInt8), (116 : UInt8)].toList) (rowL codS
    (comF (rowL codS l.length fun i => codS.enc (l.getD i codS.dft))).length fun i => codS.enc ((comF (rowL codS l.length fun i => codS.enc (l.getD i codS.dft))).getD
    i codS.dft)) (W b) ∧ True) ∧ rnM (fmtS #[(102 : UInt8), (105 : UInt8), (114 : UInt8), (115 : UInt8), (116 : UInt8)].toList) (rowL codS (comF (rowL codS l.length
    fun i => codS.enc (l.getD i codS.dft))).length fun i => codS.enc ((comF (rowL codS l.length fun i => codS.enc (l.getD i codS.dft))).getD i codS.dft)) (W b) = rnM
    (fmtS #[(102 : UInt8), (105 : UInt8), (114 : UInt8), (115 : UInt8), (116 : UInt8)].toList) (rowL codS (comF (rowL codS l.length fun i => codS.enc (l.getD i codS.dft))).length
    fun i => codS.enc ((comF (rowL codS l.length fun i => codS.enc (l.getD i codS.dft))).getD i codS.dft)) (W b) ∧ rnN (fmtS #[(102 : UInt8), (105 : UInt8), (114 : UInt8),
    (115 : UInt8), (116 : UInt8)].toList) (rowL codS (comF (rowL codS l.length fun i => codS.enc (l.getD i codS.dft))).length fun i => codS.enc ((comF (rowL codS l.length
    fun i => codS.enc (l.getD i codS.dft))).getD i codS.dft)) (W b) = rnN (fmtS #[(102 : UInt8), (105 : UInt8), (114 : UInt8), (115 : UInt8), (116 : UInt8)].toList)
    (rowL codS (comF (rowL codS l.length fun i => codS.enc (l.getD i codS.dft))).length fun i => codS.enc ((comF (rowL codS l.length fun i => codS.enc (l.getD i codS.dft))).getD
    i codS.dft)) (W b) ∧ rnE (fmtS #[(102 : UInt8), (105 : UInt8), (114 : UInt8), (115 : UInt8), (116 : UInt8)].toList) (rowL codS (comF (rowL codS l.length fun i =>
    codS.enc (l.getD i codS.dft))).length fun i => codS.enc ((comF (rowL codS l.length fun i => codS.enc (l.getD i codS.dft))).getD i codS.dft)) (W b) = rnE (fmtS #[(102
    : UInt8), (105 : UInt8), (114 : UInt8), (115 : UInt8), (116 : UInt8)].toList) (rowL codS (comF (rowL codS l.length fun i => codS.enc (l.getD i codS.dft))).length
    fun i => codS.enc ((comF (rowL codS l.length fun i => codS.enc (l.getD i codS.dft))).getD i codS.dft)) (W b) ∧ rnN (fmtS #[(102 : UInt8), (105 : UInt8), (114 : UInt8),
    (115 : UInt8), (116 : UInt8)].toList) (rowL codS (comF (rowL codS l.length fun i => codS.enc (l.getD i codS.dft))).length fun i => codS.enc ((comF (rowL codS l.length
    fun i => codS.enc (l.getD i codS.dft))).getD i codS.dft)) (W b) = rnN (fmtS #[(102 : UInt8), (105 : UInt8), (114 : UInt8), (115 : UInt8), (116 : UInt8)].toList)
    (rowL codS (comF (rowL codS l.length fun i => codS.enc (l.getD i codS.dft))).length fun i => codS.enc ((comF (rowL codS l.length fun i => codS.enc (l.getD i codS.dft))).getD
    i codS.dft)) (W b) ∧ decide (rnN (fmtS #[(102 : UInt8), (105 : UInt8), (114 : UInt8), (115 : UInt8), (116 : UInt8)].toList) (rowL codS (comF (rowL codS l.length
    fun i => codS.enc (l.getD i codS.dft))).length fun i => codS.enc ((comF (rowL codS l.length fun i => codS.enc (l.getD i codS.dft))).getD i codS.dft)) (W b) < (0
    : Int)) = decide (rnN (fmtS #[(102 : UInt8), (105 : UInt8), (114 : UInt8), (115 : UInt8), (116 : UInt8)].toList) (rowL codS (comF (rowL codS l.length fun i => codS.enc
    (l.getD i codS.dft))).length fun i => codS.enc ((comF (rowL codS l.length fun i => codS.enc (l.getD i codS.dft))).getD i codS.dft)) (W b) < (0 : Int)) ∧ True ∧ rnN
    (fmtS #[(102 : UInt8), (105 : UInt8), (114 : UInt8), (115 : UInt8), (116 : UInt8)].toList) (rowL codS (comF (rowL codS l.length fun i => codS.enc (l.getD i codS.dft))).length
    fun i => codS.enc ((comF (rowL codS l.length fun i => codS.enc (l.getD i codS.dft))).getD i codS.dft)) (W b) = rnN (fmtS #[(102 : UInt8), (105 : UInt8), (114 : UInt8),
    (115 : UInt8), (116 : UInt8)].toList) (rowL codS (comF (rowL codS l.length fun i => codS.enc (l.getD i codS.dft))).length fun i => codS.enc ((comF (rowL codS l.length
    fun i => codS.enc (l.getD i codS.dft))).getD i codS.dft)) (W b) ∧ ((comF (rowL codS l.length fun i => codS.enc (l.getD i codS.dft))).length = (comF (rowL codS l.length
    fun i => codS.enc (l.getD i codS.dft))).length ∧ ∀ (i : Nat), i < (comF (rowL codS l.length fun i => codS.enc (l.getD i codS.dft))).length → (comF (rowL codS l.length
    fun i => codS.enc (l.getD i codS.dft))).getD i codS.dft = (comF (rowL codS l.length fun i => codS.enc (l.getD i codS.dft))).getD i codS.dft ∧ True) ∧ Eq (α := Int)
    ↑(comF (rowL codS l.length fun i => codS.enc (l.getD i codS.dft))).length ↑(comF (rowL codS l.length fun i => codS.enc (l.getD i codS.dft))).length ∧ decide (rnN
    (fmtS #[(102 : UInt8), (105 : UInt8), (114 : UInt8), (115 : UInt8), (116 : UInt8)].toList) (rowL codS (comF (rowL codS l.length fun i => codS.enc (l.getD i codS.dft))).length
    fun i => codS.enc ((comF (rowL codS l.length fun i => codS.enc (l.getD i codS.dft))).getD i codS.dft)) (W b) > ↑(comF (rowL codS l.length fun i => codS.enc (l.getD
    i codS.dft))).length) = decide (rnN (fmtS #[(102 : UInt8), (105 : UInt8), (114 : UInt8), (115 : UInt8), (116 : UInt8)].toList) (rowL codS (comF (rowL codS l.length
    fun i => codS.enc (l.getD i codS.dft))).length fun i => codS.enc ((comF (rowL codS l.length fun i => codS.enc (l.getD i codS.dft))).getD i codS.dft)) (W b) > ↑(comF
    (rowL codS l.length fun i => codS.enc (l.getD i codS.dft))).length) ∧ decide (rnN (fmtS #[(102 : UInt8), (105 : UInt8), (114 : UInt8), (115 : UInt8), (116 : UInt8)].toList)
    (rowL codS (comF (rowL codS l.length fun i => codS.enc (l.getD i codS.dft))).length fun i => codS.enc ((comF (rowL codS l.length fun i => codS.enc (l.getD i codS.dft))).getD
    i codS.dft)) (W b) > ↑(comF (rowL codS l.length fun i => codS.enc (l.getD i codS.dft))).length) = decide (rnN (fmtS #[(102 : UInt8), (105 : UInt8), (114 : UInt8),
    (115 : UInt8), (116 : UInt8)].toList) (rowL codS (comF (rowL codS l.length fun i => codS.enc (l.getD i codS.dft))).length fun i => codS.enc ((comF (rowL codS l.length
    fun i => codS.enc (l.getD i codS.dft))).getD i codS.dft)) (W b) > ↑(comF (rowL codS l.length fun i => codS.enc (l.getD i codS.dft))).length) ∧ True ∧ rnE (fmtS #[(102
    : UInt8), (105 : UInt8), (114 : UInt8), (115 : UInt8), (116 : UInt8)].toList) (rowL codS (comF (rowL codS l.length fun i => codS.enc (l.getD i codS.dft))).length
    fun i => codS.enc ((comF (rowL codS l.length fun i => codS.enc (l.getD i codS.dft))).getD i codS.dft)) (W b) = rnE (fmtS #[(102 : UInt8), (105 : UInt8), (114 : UInt8),
    (115 : UInt8), (116 : UInt8)].toList) (rowL codS (comF (rowL codS l.length fun i => codS.enc (l.getD i codS.dft))).length fun i => codS.enc ((comF (rowL codS l.length
    fun i => codS.enc (l.getD i codS.dft))).getD i codS.dft)) (W b) ∧ (rnE (fmtS #[(102 : UInt8), (105 : UInt8), (114 : UInt8), (115 : UInt8), (116 : UInt8)].toList)
    (rowL codS (comF (rowL codS l.length fun i => codS.enc (l.getD i codS.dft))).length fun i => codS.enc ((comF (rowL codS l.length fun i => codS.enc (l.getD i codS.dft))).getD
    i codS.dft)) (W b) == (0 : Int)) = (rnE (fmtS #[(102 : UInt8), (105 : UInt8), (114 : UInt8), (115 : UInt8), (116 : UInt8)].toList) (rowL codS (comF (rowL codS l.length
    fun i => codS.enc (l.getD i codS.dft))).length fun i => codS.enc ((comF (rowL codS l.length fun i => codS.enc (l.getD i codS.dft))).getD i codS.dft)) (W b) == (0
    : Int)) ∧ rnN (fmtS #[(102 : UInt8), (105 : UInt8), (114 : UInt8), (115 : UInt8), (116 : UInt8)].toList) (rowL codS (comF (rowL codS l.length fun i => codS.enc (l.getD
    i codS.dft))).length fun i => codS.enc ((comF (rowL codS l.length fun i => codS.enc (l.getD i codS.dft))).getD i codS.dft)) (W b) = rnN (fmtS #[(102 : UInt8), (105
    : UInt8), (114 : UInt8), (115 : UInt8), (116 : UInt8)].toList) (rowL codS (comF (rowL codS l.length fun i => codS.enc (l.getD i codS.dft))).length fun i => codS.enc
    ((comF (rowL codS l.length fun i => codS.enc (l.getD i codS.dft))).getD i codS.dft)) (W b) ∧ ((comF (rowL codS l.length fun i => codS.enc (l.getD i codS.dft))).length
    = (comF (rowL codS l.length fun i => codS.enc (l.getD i codS.dft))).length ∧ ∀ (i : Nat), i < (comF (rowL codS l.length fun i => codS.enc (l.getD i codS.dft))).length
    → (comF (rowL codS l.length fun i => codS.enc (l.getD i codS.dft))).getD i codS.dft = (comF (rowL codS l.length fun i => codS.enc (l.getD i codS.dft))).getD i codS.dft
    ∧ True) ∧ Eq (α := Int) ↑(comF (rowL codS l.length fun i => codS.enc (l.getD i codS.dft))).length ↑(comF (rowL codS l.length fun i => codS.enc (l.getD i codS.dft))).length
    ∧ (rnN (fmtS #[(102 : UInt8), (105 : UInt8), (114 : UInt8), (115 : UInt8), (116 : UInt8)].toList) (rowL codS (comF (rowL codS l.length fun i => codS.enc (l.getD
    i codS.dft))).length fun i => codS.enc ((comF (rowL codS l.length fun i => codS.enc (l.getD i codS.dft))).getD i codS.dft)) (W b) == ↑(comF (rowL codS l.length fun
    i => codS.enc (l.getD i codS.dft))).length) = (rnN (fmtS #[(102 : UInt8), (105 : UInt8), (114 : UInt8), (115 : UInt8), (116 : UInt8)].toList) (rowL codS (comF (rowL
    codS l.length fun i => codS.enc (l.getD i codS.dft))).length fun i => codS.enc ((comF (rowL codS l.length fun i => codS.enc (l.getD i codS.dft))).getD i codS.dft))
    (W b) == ↑(comF (rowL codS l.length fun i => codS.enc (l.getD i codS.dft))).length) ∧ (!(rnE (fmtS #[(102 : UInt8), (105 : UInt8), (114 : UInt8), (115 : UInt8),
    (116 : UInt8)].toList) (rowL codS (comF (rowL codS l.length fun i => codS.enc (l.getD i codS.dft))).length fun i => codS.enc ((comF (rowL codS l.length fun i =>
    codS.enc (l.getD i codS.dft))).getD i codS.dft)) (W b) == (0 : Int)) == (rnN (fmtS #[(102 : UInt8), (105 : UInt8), (114 : UInt8), (115 : UInt8), (116 : UInt8)].toList)
    (rowL codS (comF (rowL codS l.length fun i => codS.enc (l.getD i codS.dft))).length fun i => codS.enc ((comF (rowL codS l.length fun i => codS.enc (l.getD i codS.dft))).getD
    i codS.dft)) (W b) == ↑(comF (rowL codS l.length fun i => codS.enc (l.getD i codS.dft))).length)) = !(rnE (fmtS #[(102 : UInt8), (105 : UInt8), (114 : UInt8), (115
    : UInt8), (116 : UInt8)].toList) (rowL codS (comF (rowL codS l.length fun i => codS.enc (l.getD i codS.dft))).length fun i => codS.enc ((comF (rowL codS l.length
    fun i => codS.enc (l.getD i codS.dft))).getD i codS.dft)) (W b) == (0 : Int)) == (rnN (fmtS #[(102 : UInt8), (105 : UInt8), (114 : UInt8), (115 : UInt8), (116 :
    UInt8)].toList) (rowL codS (comF (rowL codS l.length fun i => codS.enc (l.getD i codS.dft))).length fun i => codS.enc ((comF (rowL codS l.length fun i => codS.enc
    (l.getD i codS.dft))).getD i codS.dft)) (W b) == ↑(comF (rowL codS l.length fun i => codS.enc (l.getD i codS.dft))).length) ∧ (!(rnE (fmtS #[(102 : UInt8), (105
    : UInt8), (114 : UInt8), (115 : UInt8), (116 : UInt8)].toList) (rowL codS (comF (rowL codS l.length fun i => codS.enc (l.getD i codS.dft))).length fun i => codS.enc
    ((comF (rowL codS l.length fun i => codS.enc (l.getD i codS.dft))).getD i codS.dft)) (W b) == (0 : Int)) == (rnN (fmtS #[(102 : UInt8), (105 : UInt8), (114 : UInt8),
    (115 : UInt8), (116 : UInt8)].toList) (rowL codS (comF (rowL codS l.length fun i => codS.enc (l.getD i codS.dft))).length fun i => codS.enc ((comF (rowL codS l.length
    fun i => codS.enc (l.getD i codS.dft))).getD i codS.dft)) (W b) == ↑(comF (rowL codS l.length fun i => codS.enc (l.getD i codS.dft))).length)) = !(rnE (fmtS #[(102
    : UInt8), (105 : UInt8), (114 : UInt8), (115 : UInt8), (116 : UInt8)].toList) (rowL codS (comF (rowL codS l.length fun i => codS.enc (l.getD i codS.dft))).length
    fun i => codS.enc ((comF (rowL codS l.length fun i => codS.enc (l.getD i codS.dft))).getD i codS.dft)) (W b) == (0 : Int)) == (rnN (fmtS #[(102 : UInt8), (105 :
    UInt8), (114 : UInt8), (115 : UInt8), (116 : UInt8)].toList) (rowL codS (comF (rowL codS l.length fun i => codS.enc (l.getD i codS.dft))).length fun i => codS.enc
    ((comF (rowL codS l.length fun i => codS.enc (l.getD i codS.dft))).getD i codS.dft)) (W b) == ↑(comF (rowL codS l.length fun i => codS.enc (l.getD i codS.dft))).length)
    ∧ True ∧ rnE (fmtS #[(102 : UInt8), (105 : UInt8), (114 : UInt8), (115 : UInt8), (116 : UInt8)].toList) (rowL codS (comF (rowL codS l.length fun i => codS.enc (l.getD
    i codS.dft))).length fun i => codS.enc ((comF (rowL codS l.length fun i => codS.enc (l.getD i codS.dft))).getD i codS.dft)) (W b) = rnE (fmtS #[(102 : UInt8), (105
    : UInt8), (114 : UInt8), (115 : UInt8), (116 : UInt8)].toList) (rowL codS (comF (rowL codS l.length fun i => codS.enc (l.getD i codS.dft))).length fun i => codS.enc
    ((comF (rowL codS l.length fun i => codS.enc (l.getD i codS.dft))).getD i codS.dft)) (W b) ∧ (rnE (fmtS #[(102 : UInt8), (105 : UInt8), (114 : UInt8), (115 : UInt8),
    (116 : UInt8)].toList) (rowL codS (comF (rowL codS l.length fun i => codS.enc (l.getD i codS.dft))).length fun i => codS.enc ((comF (rowL codS l.length fun i =>
    codS.enc (l.getD i codS.dft))).getD i codS.dft)) (W b) != (0 : Int)) = (rnE (fmtS #[(102 : UInt8), (105 : UInt8), (114 : UInt8), (115 : UInt8), (116 : UInt8)].toList)
    (rowL codS (comF (rowL codS l.length fun i => codS.enc (l.getD i codS.dft))).length fun i => codS.enc ((comF (rowL codS l.length fun i => codS.enc (l.getD i codS.dft))).getD
    i codS.dft)) (W b) != (0 : Int)) ∧ True ∧ rnE (fmtS #[(102 : UInt8), (105 : UInt8), (114 : UInt8), (115 : UInt8), (116 : UInt8)].toList) (rowL codS (comF (rowL codS
    l.length fun i => codS.enc (l.getD i codS.dft))).length fun i => codS.enc ((comF (rowL codS l.length fun i => codS.enc (l.getD i codS.dft))).getD i codS.dft)) (W
    b) = rnE (fmtS #[(102 : UInt8), (105 : UInt8), (114 : UInt8), (115 : UInt8), (116 : UInt8)].toList) (rowL codS (comF (rowL codS l.length fun i => codS.enc (l.getD
    i codS.dft))).length fun i => codS.enc ((comF (rowL codS l.length fun i => codS.enc (l.getD i codS.dft))).getD i codS.dft)) (W b) ∧ (rnE (fmtS #[(102 : UInt8), (105
    : UInt8), (114 : UInt8), (115 : UInt8), (116 : UInt8)].toList) (rowL codS (comF (rowL codS l.length fun i => codS.enc (l.getD i codS.dft))).length fun i => codS.enc
    ((comF (rowL codS l.length fun i => codS.enc (l.getD i codS.dft))).getD i codS.dft)) (W b) != (61 : Int)) = (rnE (fmtS #[(102 : UInt8), (105 : UInt8), (114 : UInt8),
    (115 : UInt8), (116 : UInt8)].toList) (rowL codS (comF (rowL codS l.length fun i => codS.enc (l.getD i codS.dft))).length fun i => codS.enc ((comF (rowL codS l.length
    fun i => codS.enc (l.getD i codS.dft))).getD i codS.dft)) (W b) != (61 : Int)) ∧ (rnE (fmtS #[(102 : UInt8), (105 : UInt8), (114 : UInt8), (115 : UInt8), (116 :
    UInt8)].toList) (rowL codS (comF (rowL codS l.length fun i => codS.enc (l.getD i codS.dft))).length fun i => codS.enc ((comF (rowL codS l.length fun i => codS.enc
    (l.getD i codS.dft))).getD i codS.dft)) (W b) != (61 : Int)) = (rnE (fmtS #[(102 : UInt8), (105 : UInt8), (114 : UInt8), (115 : UInt8), (116 : UInt8)].toList) (rowL
    codS (comF (rowL codS l.length fun i => codS.enc (l.getD i codS.dft))).length fun i => codS.enc ((comF (rowL codS l.length fun i => codS.enc (l.getD i codS.dft))).getD
    i codS.dft)) (W b) != (61 : Int)) ∧ True ∧ True ∧ True ∧ True ∧ True ∧ True ∧ True ∧ True ∧ True ∧ True ∧ True ∧ True ∧ True ∧ True ∧ True ∧ True ∧ True ∧ True ∧
    True ∧ True ∧ True ∧ True ∧ True ∧ True ∧ True ∧ True ∧ True ∧ True ∧ True ∧ True ∧ True ∧ True ∧ True ∧ True ∧ True ∧ True ∧ True ∧ True ∧ True ∧ True ∧ True ∧
    True ∧ True ∧ True ∧ True ∧ True ∧ True ∧ True ∧ True ∧ True ∧ True ∧ True ∧ True ∧ True ∧ True ∧ True ∧ True ∧ True ∧ True ∧ True ∧ True ∧ True ∧ True ∧ True ∧
    True ∧ True ∧ True ∧ True ∧ True ∧ True ∧ True ∧ True ∧ True ∧ True ∧ True ∧ True ∧ True) ∧ True) ∧ ∀ (n : List UInt8) (n_1 n_2 : Int), J9 (comF l) (rnN (fmtS firstB)
    (comF l) b) (n, n_1, n_2) → True ∧ (decide (n_2 < rnN (fmtS #[(102 : UInt8), (105 : UInt8), (114 : UInt8), (115 : UInt8), (116 : UInt8)].toList) (rowL codS (comF
    (rowL codS l.length fun i => codS.enc (l.getD i codS.dft))).length fun i => codS.enc ((comF (rowL codS l.length fun i => codS.enc (l.getD i codS.dft))).getD i codS.dft))
    (W b)) = true → ((0 : Int) ≤ n_2 ∧ n_2 < ↑(comF (rowL codS l.length fun i => codS.enc (l.getD i codS.dft))).length) ∧ True ∧ ((0 : Int) ≤ n_2 ∧ n_2 < ↑(comF (rowL
    codS l.length fun i => codS.enc (l.getD i codS.dft))).length) ∧ True ∧ True ∧ J9 (comF l) (rnN (fmtS firstB) (comF l) b) ((comF (rowL codS l.length fun i => codS.enc
    (l.getD i codS.dft))).getD n_2.toNat codS.dft, W (W (n_1 + ↑((comF (rowL codS l.length fun i => codS.enc (l.getD i codS.dft))).getD n_2.toNat codS.dft).length) +
    (8 : Int)), W (n_2 + (1 : Int))) ∧ (rnN (fmtS firstB) (comF l) b - W (n_2 + (1 : Int))).toNat < (rnN (fmtS firstB) (comF l) b - n_2).toNat ∧ ((l.length = l.length
    ∧ ∀ (i : Nat), i < l.length → l.getD i codS.dft = l.getD i codS.dft ∧ True) ∧ b = b ∧ True ∧ True ∧ True ∧ ((comF (rowL codS l.length fun i => codS.enc (l.getD i
    codS.dft))).length = (comF (rowL codS l.length fun i => codS.enc (l.getD i codS.dft))).length ∧ ∀ (i : Nat), i < (comF (rowL codS l.length fun i => codS.enc (l.getD
    i codS.dft))).length → (comF (rowL codS l.length fun i => codS.enc (l.getD i codS.dft))).getD i codS.dft = (comF (rowL codS l.length fun i => codS.enc (l.getD i
    codS.dft))).getD i codS.dft ∧ True) ∧ fmtS #[(102 : UInt8), (105 : UInt8), (114 : UInt8), (115 : UInt8), (116 : UInt8)].toList = fmtS #[(102 : UInt8), (105 : UInt8),
    (114 : UInt8), (115 : UInt8), (116 : UInt8)].toList ∧ (0 : Int) = (0 : Int) ∧ rnM (fmtS #[(102 : UInt8), (105 : UInt8), (114 : UInt8), (115 : UInt8), (116 : UInt8)].toList)
    (rowL codS (comF (rowL codS l.length fun i => codS.enc (l.getD i codS.dft))).length fun i => codS.enc ((comF (rowL codS l.length fun i => codS.enc (l.getD i codS.dft))).getD
    i codS.dft)) (W b) = rnM (fmtS #[(102 : UInt8), (105 : UInt8), (114 : UInt8), (115 : UInt8), (116 : UInt8)].toList) (rowL codS (comF (rowL codS l.length fun i =>
    codS.enc (l.getD i codS.dft))).length fun i => codS.enc ((comF (rowL codS l.length fun i => codS.enc (l.getD i codS.dft))).getD i codS.dft)) (W b) ∧ rnN (fmtS #[(102
    : UInt8), (105 : UInt8), (114 : UInt8), (115 : UInt8), (116 : UInt8)].toList) (rowL codS (comF (rowL codS l.length fun i => codS.enc (l.getD i codS.dft))).length
    fun i => codS.enc ((comF (rowL codS l.length fun i => codS.enc (l.getD i codS.dft))).getD i codS.dft)) (W b) = rnN (fmtS #[(102 : UInt8), (105 : UInt8), (114 : UInt8),
    (115 : UInt8), (116 : UInt8)].toList) (rowL codS (comF (rowL codS l.length fun i => codS.enc (l.getD i codS.dft))).length fun i => codS.enc ((comF (rowL codS l.length
    fun i => codS.enc (l.getD i codS.dft))).getD i codS.dft)) (W b) ∧ rnE (fmtS #[(102 : UInt8), (105 : UInt8), (114 : UInt8), (115 : UInt8), (116 : UInt8)].toList)
    (rowL codS (comF (rowL codS l.length fun i => codS.enc (l.getD i codS.dft))).length fun i => codS.enc ((comF (rowL codS l.length fun i => codS.enc (l.getD i codS.dft))).getD
    i codS.dft)) (W b) = rnE (fmtS #[(102 : UInt8), (105 : UInt8), (114 : UInt8), (115 : UInt8), (116 : UInt8)].toList) (rowL codS (comF (rowL codS l.length fun i =>
    codS.enc (l.getD i codS.dft))).length fun i => codS.enc ((comF (rowL codS l.length fun i => codS.enc (l.getD i codS.dft))).getD i codS.dft)) (W b) ∧ (comF (rowL
    codS l.length fun i => codS.enc (l.getD i codS.dft))).getD n_2.toNat codS.dft = (comF (rowL codS l.length fun i => codS.enc (l.getD i codS.dft))).getD n_2.toNat
    codS.dft ∧ W (W (n_1 + ↑((comF (rowL codS l.length fun i => codS.enc (l.getD i codS.dft))).getD n_2.toNat codS.dft).length) + (8 : Int)) = W (W (n_1 + ↑((comF (rowL
    codS l.length fun i => codS.enc (l.getD i codS.dft))).getD n_2.toNat codS.dft).length) + (8 : Int)) ∧ W (n_2 + (1 : Int)) = W (n_2 + (1 : Int)) ∧ True ∧ True ∧ True
    ∧ True ∧ True ∧ True ∧ (l.length = l.length ∧ ∀ (i : Nat), i < l.length → l.getD i codS.dft = l.getD i codS.dft ∧ True) ∧ ((comF (rowL codS l.length fun i => codS.enc
    (l.getD i codS.dft))).length = (comF (rowL codS l.length fun i => codS.enc (l.getD i codS.dft))).length ∧ ∀ (i : Nat), i < (comF (rowL codS l.length fun i => codS.enc
    (l.getD i codS.dft))).length → (comF (rowL codS l.length fun i => codS.enc (l.getD i codS.dft))).getD i codS.dft = (comF (rowL codS l.length fun i => codS.enc (l.getD
    i codS.dft))).getD i codS.dft ∧ True) ∧ (fmtS #[(102 : UInt8), (105 : UInt8), (114 : UInt8), (115 : UInt8), (116 : UInt8)].toList = fmtS #[(102 : UInt8), (105 :
    UInt8), (114 : UInt8), (115 : UInt8), (116 : UInt8)].toList ∧ (0 : Int) = (0 : Int) ∧ True) ∧ (fmtS #[(102 : UInt8), (105 : UInt8), (114 : UInt8), (115 : UInt8),
    (116 : UInt8)].toList = fmtS #[(102 : UInt8), (105 : UInt8), (114 : UInt8), (115 : UInt8), (116 : UInt8)].toList ∧ (0 : Int) = (0 : Int) ∧ True) ∧ fmtS #[(102 :
    UInt8), (105 : UInt8), (114 : UInt8), (115 : UInt8), (116 : UInt8)].toList = fmtS #[(102 : UInt8), (105 : UInt8), (114 : UInt8), (115 : UInt8), (116 : UInt8)].toList
    ∧ (0 : Int) = (0 : Int) ∧ (0 : Int) = (0 : Int) ∧ True ∧ (rnM (fmtS #[(102 : UInt8), (105 : UInt8), (114 : UInt8), (115 : UInt8), (116 : UInt8)].toList) (rowL codS
    (comF (rowL codS l.length fun i => codS.enc (l.getD i codS.dft))).length fun i => codS.enc ((comF (rowL codS l.length fun i => codS.enc (l.getD i codS.dft))).getD
    i codS.dft)) (W b) = rnM (fmtS #[(102 : UInt8), (105 : UInt8), (114 : UInt8), (115 : UInt8), (116 : UInt8)].toList) (rowL codS (comF (rowL codS l.length fun i =>
    codS.enc (l.getD i codS.dft))).length fun i => codS.enc ((comF (rowL codS l.length fun i => codS.enc (l.getD i codS.dft))).getD i codS.dft)) (W b) ∧ rnN (fmtS #[(102
    : UInt8), (105 : UInt8), (114 : UInt8), (115 : UInt8), (116 : UInt8)].toList) (rowL codS (comF (rowL codS l.length fun i => codS.enc (l.getD i codS.dft))).length
    fun i => codS.enc ((comF (rowL codS l.length fun i => codS.enc (l.getD i codS.dft))).getD i codS.dft)) (W b) = rnN (fmtS #[(102 : UInt8), (105 : UInt8), (114 : UInt8),
    (115 : UInt8), (116 : UInt8)].toList) (rowL codS (comF (rowL codS l.length fun i => codS.enc (l.getD i codS.dft))).length fun i => codS.enc ((comF (rowL codS l.length
    fun i => codS.enc (l.getD i codS.dft))).getD i codS.dft)) (W b) ∧ rnE (fmtS #[(102 : UInt8), (105 : UInt8), (114 : UInt8), (115 : UInt8), (116 : UInt8)].toList)
    (rowL codS (comF (rowL codS l.length fun i => codS.enc (l.getD i codS.dft))).length fun i => codS.enc ((comF (rowL codS l.length fun i => codS.enc (l.getD i codS.dft))).getD
    i codS.dft)) (W b) = rnE (fmtS #[(102 : UInt8), (105 : UInt8), (114 : UInt8), (115 : UInt8), (116 : UInt8)].toList) (rowL codS (comF (rowL codS l.length fun i =>
    codS.enc (l.getD i codS.dft))).length fun i => codS.enc ((comF (rowL codS l.length fun i => codS.enc (l.getD i codS.dft))).getD i codS.dft)) (W b) ∧ True) ∧ fmtS
    #[(102 : UInt8), (105 : UInt8), (114 : UInt8), (115 : UInt8), (116 : UInt8)].toList = fmtS #[(102 : UInt8), (105 : UInt8), (114 : UInt8), (115 : UInt8), (116 : UInt8)].toList
    ∧ ((comF (rowL codS l.length fun i => codS.enc (l.getD i codS.dft))).length = (comF (rowL codS l.length fun i => codS.enc (l.getD i codS.dft))).length ∧ ∀ (i : Nat),
    i < (comF (rowL codS l.length fun i => codS.enc (l.getD i codS.dft))).length → (comF (rowL codS l.length fun i => codS.enc (l.getD i codS.dft))).getD i codS.dft
    = (comF (rowL codS l.length fun i => codS.enc (l.getD i codS.dft))).getD i codS.dft ∧ True) ∧ b = b ∧ W b = W b ∧ (rnM (fmtS #[(102 : UInt8), (105 : UInt8), (114
    : UInt8), (115 : UInt8), (116 : UInt8)].toList) (rowL codS (comF (rowL codS l.length fun i => codS.enc (l.getD i codS.dft))).length fun i => codS.enc ((comF (rowL
    codS l.length fun i => codS.enc (l.getD i codS.dft))).getD i codS.dft)) (W b) = rnM (fmtS #[(102 : UInt8), (105 : UInt8), (114 : UInt8), (115 : UInt8), (116 : UInt8)].toList)
    (rowL codS (comF (rowL codS l.length fun i => codS.enc (l.getD i codS.dft))).length fun i => codS.enc ((comF (rowL codS l.length fun i => codS.enc (l.getD i codS.dft))).getD
    i codS.dft)) (W b) ∧ rnN (fmtS #[(102 : UInt8), (105 : UInt8), (114 : UInt8), (115 : UInt8), (116 : UInt8)].toList) (rowL codS (comF (rowL codS l.length fun i =>
    codS.enc (l.getD i codS.dft))).length fun i => codS.enc ((comF (rowL codS l.length fun i => codS.enc (l.getD i codS.dft))).getD i codS.dft)) (W b) = rnN (fmtS #[(102
    : UInt8), (105 : UInt8), (114 : UInt8), (115 : UInt8), (116 : UInt8)].toList) (rowL codS (comF (rowL codS l.length fun i => codS.enc (l.getD i codS.dft))).length
    fun i => codS.enc ((comF (rowL codS l.length fun i => codS.enc (l.getD i codS.dft))).getD i codS.dft)) (W b) ∧ rnE (fmtS #[(102 : UInt8), (105 : UInt8), (114 : UInt8),
    (115 : UInt8), (116 : UInt8)].toList) (rowL codS (comF (rowL codS l.length fun i => codS.enc (l.getD i codS.dft))).length fun i => codS.enc ((comF (rowL codS l.length
    fun i => codS.enc (l.getD i codS.dft))).getD i codS.dft)) (W b) = rnE (fmtS #[(102 : UInt8), (105 : UInt8), (114 : UInt8), (115 : UInt8), (116 : UInt8)].toList)
    (rowL codS (comF (rowL codS l.length fun i => codS.enc (l.getD i codS.dft))).length fun i => codS.enc ((comF (rowL codS l.length fun i => codS.enc (l.getD i codS.dft))).getD
    i codS.dft)) (W b) ∧ True) ∧ rnM (fmtS #[(102 : UInt8), (105 : UInt8), (114 : UInt8), (115 : UInt8), (116 : UInt8)].toList) (rowL codS (comF (rowL codS l.length
    fun i => codS.enc (l.getD i codS.dft))).length fun i => codS.enc ((comF (rowL codS l.length fun i => codS.enc (l.getD i codS.dft))).getD i codS.dft)) (W b) = rnM
    (fmtS #[(102 : UInt8), (105 : UInt8), (114 : UInt8), (115 : UInt8), (116 : UInt8)].toList) (rowL codS (comF (rowL codS l.length fun i => codS.enc (l.getD i codS.dft))).length
    fun i => codS.enc ((comF (rowL codS l.length fun i => codS.enc (l.getD i codS.dft))).getD i codS.dft)) (W b) ∧ rnN (fmtS #[(102 : UInt8), (105 : UInt8), (114 : UInt8),
    (115 : UInt8), (116 : UInt8)].toList) (rowL codS (comF (rowL codS l.length fun i => codS.enc (l.getD i codS.dft))).length fun i => codS.enc ((comF (rowL codS l.length
    fun i => codS.enc (l.getD i codS.dft))).getD i codS.dft)) (W b) = rnN (fmtS #[(102 : UInt8), (105 : UInt8), (114 : UInt8), (115 : UInt8), (116 : UInt8)].toList)
    (rowL codS (comF (rowL codS l.length fun i => codS.enc (l.getD i codS.dft))).length fun i => codS.enc ((comF (rowL codS l.length fun i => codS.enc (l.getD i codS.dft))).getD
    i codS.dft)) (W b) ∧ rnE (fmtS #[(102 : UInt8), (105 : UInt8), (114 : UInt8), (115 : UInt8), (116 : UInt8)].toList) (rowL codS (comF (rowL codS l.length fun i =>
    codS.enc (l.getD i codS.dft))).length fun i => codS.enc ((comF (rowL codS l.length fun i => codS.enc (l.getD i codS.dft))).getD i codS.dft)) (W b) = rnE (fmtS #[(102
    : UInt8), (105 : UInt8), (114 : UInt8), (115 : UInt8), (116 : UInt8)].toList) (rowL codS (comF (rowL codS l.length fun i => codS.enc (l.getD i codS.dft))).length
    fun i => codS.enc ((comF (rowL codS l.length fun i => codS.enc (l.getD i codS.dft))).getD i codS.dft)) (W b) ∧ rnN (fmtS #[(102 : UInt8), (105 : UInt8), (114 : UInt8),
    (115 : UInt8), (116 : UInt8)].toList) (rowL codS (comF (rowL codS l.length fun i => codS.enc (l.getD i codS.dft))).length fun i => codS.enc ((comF (rowL codS l.length
    fun i => codS.enc (l.getD i codS.dft))).getD i codS.dft)) (W b) = rnN (fmtS #[(102 : UInt8), (105 : UInt8), (114 : UInt8), (115 : UInt8), (116 : UInt8)].toList)
    (rowL codS (comF (rowL codS l.length fun i => codS.enc (l.getD i codS.dft))).length fun i => codS.enc ((comF (rowL codS l.length fun i => codS.enc (l.getD i codS.dft))).getD
    i codS.dft)) (W b) ∧ decide (rnN (fmtS #[(102 : UInt8), (105 : UInt8), (114 : UInt8), (115 : UInt8), (116 : UInt8)].toList) (rowL codS (comF (rowL codS l.length
    fun i => codS.enc (l.getD i codS.dft))).length fun i => codS.enc ((comF (rowL codS l.length fun i => codS.enc (l.getD i codS.dft))).getD i codS.dft)) (W b) < (0
    : Int)) = decide (rnN (fmtS #[(102 : UInt8), (105 : UInt8), (114 : UInt8), (115 : UInt8), (116 : UInt8)].toList) (rowL codS (comF (rowL codS l.length fun i => codS.enc
    (l.getD i codS.dft))).length fun i => codS.enc ((comF (rowL codS l.length fun i => codS.enc (l.getD i codS.dft))).getD i codS.dft)) (W b) < (0 : Int)) ∧ True ∧ rnN
    (fmtS #[(102 : UInt8), (105 : UInt8), (114 : UInt8), (115 : UInt8), (116 : UInt8)].toList) (rowL codS (comF (rowL codS l.length fun i => codS.enc (l.getD i codS.dft))).length
    fun i => codS.enc ((comF (rowL codS l.length fun i => codS.enc (l.getD i codS.dft))).getD i codS.dft)) (W b) = rnN (fmtS #[(102 : UInt8), (105 : UInt8), (114 : UInt8),
    (115 : UInt8), (116 : UInt8)].toList) (rowL codS (comF (rowL codS l.length fun i => codS.enc (l.getD i codS.dft))).length fun i => codS.enc ((comF (rowL codS l.length
    fun i => codS.enc (l.getD i codS.dft))).getD i codS.dft)) (W b) ∧ ((comF (rowL codS l.length fun i => codS.enc (l.getD i codS.dft))).length = (comF (rowL codS l.length
    fun i => codS.enc (l.getD i codS.dft))).length ∧ ∀ (i : Nat), i < (comF (rowL codS l.length fun i => codS.enc (l.getD i codS.dft))).length → (comF (rowL codS l.length
    fun i => codS.enc (l.getD i codS.dft))).getD i codS.dft = (comF (rowL codS l.length fun i => codS.enc (l.getD i codS.dft))).getD i codS.dft ∧ True) ∧ Eq (α := Int)
    ↑(comF (rowL codS l.length fun i => codS.enc (l.getD i codS.dft))).length ↑(comF (rowL codS l.length fun i => codS.enc (l.getD i codS.dft))).length ∧ decide (rnN
    (fmtS #[(102 : UInt8), (105 : UInt8), (114 : UInt8), (115 : UInt8), (116 : UInt8)].toList) (rowL codS (comF (rowL codS l.length fun i => codS.enc (l.getD i codS.dft))).length
    fun i => codS.enc ((comF (rowL codS l.length fun i => codS.enc (l.getD i codS.dft))).getD i codS.dft)) (W b) > ↑(comF (rowL codS l.length fun i => codS.enc (l.getD
    i codS.dft))).length) = decide (rnN (fmtS #[(102 : UInt8), (105 : UInt8), (114 : UInt8), (115 : UInt8), (116 : UInt8)].toList) (rowL codS (comF (rowL codS l.length
    fun i => codS.enc (l.getD i codS.dft))).length fun i => codS.enc ((comF (rowL codS l.length fun i => codS.enc (l.getD i codS.dft))).getD i codS.dft)) (W b) > ↑(comF
    (rowL codS l.length fun i => codS.enc (l.getD i codS.dft))).length) ∧ decide (rnN (fmtS #[(102 : UInt8), (105 : UInt8), (114 : UInt8), (115 : UInt8), (116 : UInt8)].toList)
    (rowL codS (comF (rowL codS l.length fun i => codS.enc (l.getD i codS.dft))).length fun i => codS.enc ((comF (rowL codS l.length fun i => codS.enc (l.getD i codS.dft))).getD
    i codS.dft)) (W b) > ↑(comF (rowL codS l.length fun i => codS.enc (l.getD i codS.dft))).length) = decide (rnN (fmtS #[(102 : UInt8), (105 : UInt8), (114 : UInt8),
    (115 : UInt8), (116 : UInt8)].toList) (rowL codS (comF (rowL codS l.length fun i => codS.enc (l.getD i codS.dft))).length fun i => codS.enc ((comF (rowL codS l.length
    fun i => codS.enc (l.getD i codS.dft))).getD i codS.dft)) (W b) > ↑(comF (rowL codS l.length fun i => codS.enc (l.getD i codS.dft))).length) ∧ True ∧ rnE (fmtS #[(102
    : UInt8), (105 : UInt8), (114 : UInt8), (115 : UInt8), (116 : UInt8)].toList) (rowL codS (comF (rowL codS l.length fun i => codS.enc (l.getD i codS.dft))).length
    fun i => codS.enc ((comF (rowL codS l.length fun i => codS.enc (l.getD i codS.dft))).getD i codS.dft)) (W b) = rnE (fmtS #[(102 : UInt8), (105 : UInt8), (114 : UInt8),
    (115 : UInt8), (116 : UInt8)].toList) (rowL codS (comF (rowL codS l.length fun i => codS.enc (l.getD i codS.dft))).length fun i => codS.enc ((comF (rowL codS l.length
    fun i => codS.enc (l.getD i codS.dft))).getD i codS.dft)) (W b) ∧ (rnE (fmtS #[(102 : UInt8), (105 : UInt8), (114 : UInt8), (115 : UInt8), (116 : UInt8)].toList)
    (rowL codS (comF (rowL codS l.length fun i => codS.enc (l.getD i codS.dft))).length fun i => codS.enc ((comF (rowL codS l.length fun i => codS.enc (l.getD i codS.dft))).getD
    i codS.dft)) (W b) == (0 : Int)) = (rnE (fmtS #[(102 : UInt8), (105 : UInt8), (114 : UInt8), (115 : UInt8), (116 : UInt8)].toList) (rowL codS (comF (rowL codS l.length
    fun i => codS.enc (l.getD i codS.dft))).length fun i => codS.enc ((comF (rowL codS l.length fun i => codS.enc (l.getD i codS.dft))).getD i codS.dft)) (W b) == (0
    : Int)) ∧ rnN (fmtS #[(102 : UInt8), (105 : UInt8), (114 : UInt8), (115 : UInt8), (116 : UInt8)].toList) (rowL codS (comF (rowL codS l.length fun i => codS.enc (l.getD
    i codS.dft))).length fun i => codS.enc ((comF (rowL codS l.length fun i => codS.enc (l.getD i codS.dft))).getD i codS.dft)) (W b) = rnN (fmtS #[(102 : UInt8), (105
    : UInt8), (114 : UInt8), (115 : UInt8), (116 : UInt8)].toList) (rowL codS (comF (rowL codS l.length fun i => codS.enc (l.getD i codS.dft))).length fun i => codS.enc
    ((comF (rowL codS l.length fun i => codS.enc (l.getD i codS.dft))).getD i codS.dft)) (W b) ∧ ((comF (rowL codS l.length fun i => codS.enc (l.getD i codS.dft))).length
    = (comF (rowL codS l.length fun i => codS.enc (l.getD i codS.dft))).length ∧ ∀ (i : Nat), i < (comF (rowL codS l.length fun i => codS.enc (l.getD i codS.dft))).length
    → (comF (rowL codS l.length fun i => codS.enc (l.getD i codS.dft))).getD i codS.dft = (comF (rowL codS l.length fun i => codS.enc (l.getD i codS.dft))).getD i codS.dft
    ∧ True) ∧ Eq (α := Int) ↑(comF (rowL codS l.length fun i => codS.enc (l.getD i codS.dft))).length ↑(comF (rowL codS l.length fun i => codS.enc (l.getD i codS.dft))).length
    ∧ (rnN (fmtS #[(102 : UInt8), (105 : UInt8), (114 : UInt8), (115 : UInt8), (116 : UInt8)].toList) (rowL codS (comF (rowL codS l.length fun i => codS.enc (l.getD
    i codS.dft))).length fun i => codS.enc ((comF (rowL codS l.length fun i => codS.enc (l.getD i codS.dft))).getD i codS.dft)) (W b) == ↑(comF (rowL codS l.length fun
    i => codS.enc (l.getD i codS.dft))).length) = (rnN (fmtS #[(102 : UInt8), (105 : UInt8), (114 : UInt8), (115 : UInt8), (116 : UInt8)].toList) (rowL codS (comF (rowL
    codS l.length fun i => codS.enc (l.getD i codS.dft))).length fun i => codS.enc ((comF (rowL codS l.length fun i => codS.enc (l.getD i codS.dft))).getD i codS.dft))
    (W b) == ↑(comF (rowL codS l.length fun i => codS.enc (l.getD i codS.dft))).length) ∧ (!(rnE (fmtS #[(102 : UInt8), (105 : UInt8), (114 : UInt8), (115 : UInt8),
    (116 : UInt8)].toList) (rowL codS (comF (rowL codS l.length fun i => codS.enc (l.getD i codS.dft))).length fun i => codS.enc ((comF (rowL codS l.length fun i =>
    codS.enc (l.getD i codS.dft))).getD i codS.dft)) (W b) == (0 : Int)) == (rnN (fmtS #[(102 : UInt8), (105 : UInt8), (114 : UInt8), (115 : UInt8), (116 : UInt8)].toList)
    (rowL codS (comF (rowL codS l.length fun i => codS.enc (l.getD i codS.dft))).length fun i => codS.enc ((comF (rowL codS l.length fun i => codS.enc (l.getD i codS.dft))).getD
    i codS.dft)) (W b) == ↑(comF (rowL codS l.length fun i => codS.enc (l.getD i codS.dft))).length)) = !(rnE (fmtS #[(102 : UInt8), (105 : UInt8), (114 : UInt8), (115
    : UInt8), (116 : UInt8)].toList) (rowL codS (comF (rowL codS l.length fun i => codS.enc (l.getD i codS.dft))).length fun i => codS.enc ((comF (rowL codS l.length
    fun i => codS.enc (l.getD i codS.dft))).getD i codS.dft)) (W b) == (0 : Int)) == (rnN (fmtS #[(102 : UInt8), (105 : UInt8), (114 : UInt8), (115 : UInt8), (116 :
    UInt8)].toList) (rowL codS (comF (rowL codS l.length fun i => codS.enc (l.getD i codS.dft))).length fun i => codS.enc ((comF (rowL codS l.length fun i => codS.enc
    (l.getD i codS.dft))).getD i codS.dft)) (W b) == ↑(comF (rowL codS l.length fun i => codS.enc (l.getD i codS.dft))).length) ∧ (!(rnE (fmtS #[(102 : UInt8), (105
    : UInt8), (114 : UInt8), (115 : UInt8), (116 : UInt8)].toList) (rowL codS (comF (rowL codS l.length fun i => codS.enc (l.getD i codS.dft))).length fun i => codS.enc
    ((comF (rowL codS l.length fun i => codS.enc (l.getD i codS.dft))).getD i codS.dft)) (W b) == (0 : Int)) == (rnN (fmtS #[(102 : UInt8), (105 : UInt8), (114 : UInt8),
    (115 : UInt8), (116 : UInt8)].toList) (rowL codS (comF (rowL codS l.length fun i => codS.enc (l.getD i codS.dft))).length fun i => codS.enc ((comF (rowL codS l.length
    fun i => codS.enc (l.getD i codS.dft))).getD i codS.dft)) (W b) == ↑(comF (rowL codS l.length fun i => codS.enc (l.getD i codS.dft))).length)) = !(rnE (fmtS #[(102
    : UInt8), (105 : UInt8), (114 : UInt8), (115 : UInt8), (116 : UInt8)].toList) (rowL codS (comF (rowL codS l.length fun i => codS.enc (l.getD i codS.dft))).length
    fun i => codS.enc ((comF (rowL codS l.length fun i => codS.enc (l.getD i codS.dft))).getD i codS.dft)) (W b) == (0 : Int)) == (rnN (fmtS #[(102 : UInt8), (105 :
    UInt8), (114 : UInt8), (115 : UInt8), (116 : UInt8)].toList) (rowL codS (comF (rowL codS l.length fun i => codS.enc (l.getD i codS.dft))).length fun i => codS.enc
    ((comF (rowL codS l.length fun i => codS.enc (l.getD i codS.dft))).getD i codS.dft)) (W b) == ↑(comF (rowL codS l.length fun i => codS.enc (l.getD i codS.dft))).length)
    ∧ True ∧ rnE (fmtS #[(102 : UInt8), (105 : UInt8), (114 : UInt8), (115 : UInt8), (116 : UInt8)].toList) (rowL codS (comF (rowL codS l.length fun i => codS.enc (l.getD
    i codS.dft))).length fun i => codS.enc ((comF (rowL codS l.length fun i => codS.enc (l.getD i codS.dft))).getD i codS.dft)) (W b) = rnE (fmtS #[(102 : UInt8), (105
    : UInt8), (114 : UInt8), (115 : UInt8), (116 : UInt8)].toList) (rowL codS (comF (rowL codS l.length fun i => codS.enc (l.getD i codS.dft))).length fun i => codS.enc
    ((comF (rowL codS l.length fun i => codS.enc (l.getD i codS.dft))).getD i codS.dft)) (W b) ∧ (rnE (fmtS #[(102 : UInt8), (105 : UInt8), (114 : UInt8), (115 : UInt8),
    (116 : UInt8)].toList) (rowL codS (comF (rowL codS l.length fun i => codS.enc (l.getD i codS.dft))).length fun i => codS.enc ((comF (rowL codS l.length fun i =>
    codS.enc (l.getD i codS.dft))).getD i codS.dft)) (W b) != (0 : Int)) = (rnE (fmtS #[(102 : UInt8), (105 : UInt8), (114 : UInt8), (115 : UInt8), (116 : UInt8)].toList)
    (rowL codS (comF (rowL codS l.length fun i => codS.enc (l.getD i codS.dft))).length fun i => codS.enc ((comF (rowL codS l.length fun i => codS.enc (l.getD i codS.dft))).getD
    i codS.dft)) (W b) != (0 : Int)) ∧ True ∧ rnE (fmtS #[(102 : UInt8), (105 : UInt8), (114 : UInt8), (115 : UInt8), (116 : UInt8)].toList) (rowL codS (comF (rowL codS
    l.length fun i => codS.enc (l.getD i codS.dft))).length fun i => codS.enc ((comF (rowL codS l.length fun i => codS.enc (l.getD i codS.dft))).getD i codS.dft)) (W
    b) = rnE (fmtS #[(102 : UInt8), (105 : UInt8), (114 : UInt8), (115 : UInt8), (116 : UInt8)].toList) (rowL codS (comF (rowL codS l.length fun i => codS.enc (l.getD
    i codS.dft))).length fun i => codS.enc ((comF (rowL codS l.length fun i => codS.enc (l.getD i codS.dft))).getD i codS.dft)) (W b) ∧ (rnE (fmtS #[(102 : UInt8), (105
    : UInt8), (114 : UInt8), (115 : UInt8), (116 : UInt8)].toList) (rowL codS (comF (rowL codS l.length fun i => codS.enc (l.getD i codS.dft))).length fun i => codS.enc
    ((comF (rowL codS l.length fun i => codS.enc (l.getD i codS.dft))).getD i codS.dft)) (W b) != (61 : Int)) = (rnE (fmtS #[(102 : UInt8), (105 : UInt8), (114 : UInt8),
    (115 : UInt8), (116 : UInt8)].toList) (rowL codS (comF (rowL codS l.length fun i => codS.enc (l.getD i codS.dft))).length fun i => codS.enc ((comF (rowL codS l.length
    fun i => codS.enc (l.getD i codS.dft))).getD i codS.dft)) (W b) != (61 : Int)) ∧ (rnE (fmtS #[(102 : UInt8), (105 : UInt8), (114 : UInt8), (115 : UInt8), (116 :
    UInt8)].toList) (rowL codS (comF (rowL codS l.length fun i => codS.enc (l.getD i codS.dft))).length fun i => codS.enc ((comF (rowL codS l.length fun i => codS.enc
    (l.getD i codS.dft))).getD i codS.dft)) (W b) != (61 : Int)) = (rnE (fmtS #[(102 : UInt8), (105 : UInt8), (114 : UInt8), (115 : UInt8), (116 : UInt8)].toList) (rowL
    codS (comF (rowL codS l.length fun i => codS.enc (l.getD i codS.dft))).length fun i => codS.enc ((comF (rowL codS l.length fun i => codS.enc (l.getD i codS.dft))).getD
    i codS.dft)) (W b) != (61 : Int)) ∧ True ∧ True ∧ True ∧ True ∧ True ∧ True ∧ True ∧ True ∧ True ∧ True ∧ True ∧ True ∧ True ∧ True ∧ True ∧ True ∧ True ∧ True ∧
    True ∧ True ∧ True ∧ True ∧ True ∧ True ∧ True ∧ True ∧ True ∧ True ∧ True ∧ True ∧ True ∧ True ∧ True ∧ True ∧ True ∧ True ∧ True ∧ True ∧ True ∧ True ∧ True ∧
    True ∧ True ∧ True ∧ True ∧ True ∧ True ∧ True ∧ True ∧ True ∧ True ∧ True ∧ True ∧ True ∧ True ∧ True ∧ True ∧ True ∧ True ∧ True ∧ True ∧ True ∧ True ∧ True ∧
    True ∧ True ∧ True ∧ True ∧ True ∧ True ∧ True ∧ True ∧ True ∧ True ∧ True ∧ True ∧ True) ∧ True) ∧ (decide (n_2 < rnN (fmtS #[(102 : UInt8), (105 : UInt8), (114
    : UInt8), (115 : UInt8), (116 : UInt8)].toList) (rowL codS (comF (rowL codS l.length fun i => codS.enc (l.getD i codS.dft))).length fun i => codS.enc ((comF (rowL
    codS l.length fun i => codS.enc (l.getD i codS.dft))).getD i codS.dft)) (W b)) = false → (decide (n_1 > W b) = true → True ∧ True ∧ True ∧ true = false ∧ True) ∧
    (decide (n_1 > W b) = false → (decide (rnN (fmtS #[(102 : UInt8), (105 : UInt8), (114 : UInt8), (115 : UInt8), (116 : UInt8)].toList) (rowL codS (comF (rowL codS
    l.length fun i => codS.enc (l.getD i codS.dft))).length fun i => codS.enc ((comF (rowL codS l.length fun i => codS.enc (l.getD i codS.dft))).getD i codS.dft)) (W
    b) < ↑(comF (rowL codS l.length fun i => codS.enc (l.getD i codS.dft))).length) = true → ((0 : Int) ≤ rnN (fmtS #[(102 : UInt8), (105 : UInt8), (114 : UInt8), (115
    : UInt8), (116 : UInt8)].toList) (rowL codS (comF (rowL codS l.length fun i => codS.enc (l.getD i codS.dft))).length fun i => codS.enc ((comF (rowL codS l.length
    fun i => codS.enc (l.getD i codS.dft))).getD i codS.dft)) (W b) ∧ rnN (fmtS #[(102 : UInt8), (105 : UInt8), (114 : UInt8), (115 : UInt8), (116 : UInt8)].toList)
    (rowL codS (comF (rowL codS l.length fun i => codS.enc (l.getD i codS.dft))).length fun i => codS.enc ((comF (rowL codS l.length fun i => codS.enc (l.getD i codS.dft))).getD
    i codS.dft)) (W b) < ↑(comF (rowL codS l.length fun i => codS.enc (l.getD i codS.dft))).length) ∧ True ∧ (decide (W (W (n_1 + ↑((comF (rowL codS l.length fun i =>
    codS.enc (l.getD i codS.dft))).getD (rnN (fmtS #[(102 : UInt8), (105 : UInt8), (114 : UInt8), (115 : UInt8), (116 : UInt8)].toList) (rowL codS (comF (rowL codS l.length
    fun i => codS.enc (l.getD i codS.dft))).length fun i => codS.enc ((comF (rowL codS l.length fun i => codS.enc (l.getD i codS.dft))).getD i codS.dft)) (W b)).toNat
    codS.dft).length) + (8 : Int)) ≤ W b) = true → True ∧ True ∧ true = false ∧ True) ∧ (decide (W (W (n_1 + ↑((comF (rowL codS l.length fun i => codS.enc (l.getD i
    codS.dft))).getD (rnN (fmtS #[(102 : UInt8), (105 : UInt8), (114 : UInt8), (115 : UInt8), (116 : UInt8)].toList) (rowL codS (comF (rowL codS l.length fun i => codS.enc
    (l.getD i codS.dft))).length fun i => codS.enc ((comF (rowL codS l.length fun i => codS.enc (l.getD i codS.dft))).getD i codS.dft)) (W b)).toNat codS.dft).length)
    + (8 : Int)) ≤ W b) = false → True ∧ (True ∧ True) ∧ True ∧ ((curE (rnM (fmtS #[(102 : UInt8), (105 : UInt8), (114 : UInt8), (115 : UInt8), (116 : UInt8)].toList)
    (rowL codS (comF (rowL codS l.length fun i => codS.enc (l.getD i codS.dft))).length fun i => codS.enc ((comF (rowL codS l.length fun i => codS.enc (l.getD i codS.dft))).getD
    i codS.dft)) (W b)) != (0 : Int)) = true → True ∧ True ∧ True ∧ true = false ∧ True) ∧ ((curE (rnM (fmtS #[(102 : UInt8), (105 : UInt8), (114 : UInt8), (115 : UInt8),
    (116 : UInt8)].toList) (rowL codS (comF (rowL codS l.length fun i => codS.enc (l.getD i codS.dft))).length fun i => codS.enc ((comF (rowL codS l.length fun i =>
    codS.enc (l.getD i codS.dft))).getD i codS.dft)) (W b)) != (0 : Int)) = false → True ∧ ((!curD (rnM (fmtS #[(102 : UInt8), (105 : UInt8), (114 : UInt8), (115 : UInt8),
    (116 : UInt8)].toList) (rowL codS (comF (rowL codS l.length fun i => codS.enc (l.getD i codS.dft))).length fun i => codS.enc ((comF (rowL codS l.length fun i =>
    codS.enc (l.getD i codS.dft))).getD i codS.dft)) (W b)) == n) = true → True ∧ True ∧ true = false ∧ True) ∧ ((!curD (rnM (fmtS #[(102 : UInt8), (105 : UInt8), (114
    : UInt8), (115 : UInt8), (116 : UInt8)].toList) (rowL codS (comF (rowL codS l.length fun i => codS.enc (l.getD i codS.dft))).length fun i => codS.enc ((comF (rowL
    codS l.length fun i => codS.enc (l.getD i codS.dft))).getD i codS.dft)) (W b)) == n) = false → True ∧ True ∧ True ∧ ((True ∧ True ∧ True) ∧ #[(97 : UInt8), (103
    : UInt8), (97 : UInt8), (105 : UInt8), (110 : UInt8)].toList.length ≤ (1000000 : Nat) ∧ (-9223372036854775808 : Int) ≤ (13 : Int) ∧ (13 : Int) < (9223372036854775808
    : Int)) ∧ True ∧ True ∧ (True ∧ True) ∧ True ∧ ((cmE (rnM (fmtS #[(102 : UInt8), (105 : UInt8), (114 : UInt8), (115 : UInt8), (116 : UInt8)].toList) (rowL codS (comF
    (rowL codS l.length fun i => codS.enc (l.getD i codS.dft))).length fun i => codS.enc ((comF (rowL codS l.length fun i => codS.enc (l.getD i codS.dft))).getD i codS.dft))
    (W b)) #[(97 : UInt8), (103 : UInt8), (97 : UInt8), (105 : UInt8), (110 : UInt8)].toList (13 : Int) == (0 : Int)) = true → ((curE (cmS (rnM (fmtS #[(102 : UInt8),
    (105 : UInt8), (114 : UInt8), (115 : UInt8), (116 : UInt8)].toList) (rowL codS (comF (rowL codS l.length fun i => codS.enc (l.getD i codS.dft))).length fun i =>
    codS.enc ((comF (rowL codS l.length fun i => codS.enc (l.getD i codS.dft))).getD i codS.dft)) (W b)) #[(97 : UInt8), (103 : UInt8), (97 : UInt8), (105 : UInt8),
    (110 : UInt8)].toList (13 : Int)) == (0 : Int)) = true → ((curD (cmS (rnM (fmtS #[(102 : UInt8), (105 : UInt8), (114 : UInt8), (115 : UInt8), (116 : UInt8)].toList)
    (rowL codS (comF (rowL codS l.length fun i => codS.enc (l.getD i codS.dft))).length fun i => codS.enc ((comF (rowL codS l.length fun i => codS.enc (l.getD i codS.dft))).getD
    i codS.dft)) (W b)) #[(97 : UInt8), (103 : UInt8), (97 : UInt8), (105 : UInt8), (110 : UInt8)].toList (13 : Int)) == #[(97 : UInt8), (103 : UInt8), (97 : UInt8),
    (105 : UInt8), (110 : UInt8)].toList) = true → (True ∧ True) ∧ True ∧ True ∧ true = true ∧ True) ∧ ((curD (cmS (rnM (fmtS #[(102 : UInt8), (105 : UInt8), (114 :
    UInt8), (115 : UInt8), (116 : UInt8)].toList) (rowL codS (comF (rowL codS l.length fun i => codS.enc (l.getD i codS.dft))).length fun i => codS.enc ((comF (rowL
    codS l.length fun i => codS.enc (l.getD i codS.dft))).getD i codS.dft)) (W b)) #[(97 : UInt8), (103 : UInt8), (97 : UInt8), (105 : UInt8), (110 : UInt8)].toList
    (13 : Int)) == #[(97 : UInt8), (103 : UInt8), (97 : UInt8), (105 : UInt8), (110 : UInt8)].toList) = false → True ∧ True ∧ true = false ∧ True)) ∧ ((curE (cmS (rnM
    (fmtS #[(102 : UInt8), (105 : UInt8), (114 : UInt8), (115 : UInt8), (116 : UInt8)].toList) (rowL codS (comF (rowL codS l.length fun i => codS.enc (l.getD i codS.dft))).length
    fun i => codS.enc ((comF (rowL codS l.length fun i => codS.enc (l.getD i codS.dft))).getD i codS.dft)) (W b)) #[(97 : UInt8), (103 : UInt8), (97 : UInt8), (105 :
    UInt8), (110 : UInt8)].toList (13 : Int)) == (0 : Int)) = false → True ∧ True ∧ true = false ∧ True)) ∧ ((cmE (rnM (fmtS #[(102 : UInt8), (105 : UInt8), (114 : UInt8),
    (115 : UInt8), (116 : UInt8)].toList) (rowL codS (comF (rowL codS l.length fun i => codS.enc (l.getD i codS.dft))).length fun i => codS.enc ((comF (rowL codS l.length
    fun i => codS.enc (l.getD i codS.dft))).getD i codS.dft)) (W b)) #[(97 : UInt8), (103 : UInt8), (97 : UInt8), (105 : UInt8), (110 : UInt8)].toList (13 : Int) ==
    (0 : Int)) = false → True ∧ True ∧ true = false ∧ True))))) ∧ (decide (rnN (fmtS #[(102 : UInt8), (105 : UInt8), (114 : UInt8), (115 : UInt8), (116 : UInt8)].toList)
    (rowL codS (comF (rowL codS l.length fun i => codS.enc (l.getD i codS.dft))).length fun i => codS.enc ((comF (rowL codS l.length fun i => codS.enc (l.getD i codS.dft))).getD
    i codS.dft)) (W b) < ↑(comF (rowL codS l.length fun i => codS.enc (l.getD i codS.dft))).length) = false → True ∧ True ∧ (True ∧ True) ∧ True ∧ ((curE (rnM (fmtS
    #[(102 : UInt8), (105 : UInt8), (114 : UInt8), (115 : UInt8), (116 : UInt8)].toList) (rowL codS (comF (rowL codS l.length fun i => codS.enc (l.getD i codS.dft))).length
    fun i => codS.enc ((comF (rowL codS l.length fun i => codS.enc (l.getD i codS.dft))).getD i codS.dft)) (W b)) != (0 : Int)) = true → True ∧ True ∧ True ∧ true =
    false ∧ True) ∧ ((curE (rnM (fmtS #[(102 : UInt8), (105 : UInt8), (114 : UInt8), (115 : UInt8), (116 : UInt8)].toList) (rowL codS (comF (rowL codS l.length fun i
    => codS.enc (l.getD i codS.dft))).length fun i => codS.enc ((comF (rowL codS l.length fun i => codS.enc (l.getD i codS.dft))).getD i codS.dft)) (W b)) != (0 : Int))
    = false → True ∧ ((!curD (rnM (fmtS #[(102 : UInt8), (105 : UInt8), (114 : UInt8), (115 : UInt8), (116 : UInt8)].toList) (rowL codS (comF (rowL codS l.length fun
    i => codS.enc (l.getD i codS.dft))).length fun i => codS.enc ((comF (rowL codS l.length fun i => codS.enc (l.getD i codS.dft))).getD i codS.dft)) (W b)) == n) =
    true → True ∧ True ∧ true = false ∧ True) ∧ ((!curD (rnM (fmtS #[(102 : UInt8), (105 : UInt8), (114 : UInt8), (115 : UInt8), (116 : UInt8)].toList) (rowL codS (comF
    (rowL codS l.length fun i => codS.enc (l.getD i codS.dft))).length fun i => codS.enc ((comF (rowL codS l.length fun i => codS.enc (l.getD i codS.dft))).getD i codS.dft))
    (W b)) == n) = false → True ∧ True ∧ True ∧ ((True ∧ True ∧ True) ∧ #[(97 : UInt8), (103 : UInt8), (97 : UInt8), (105 : UInt8), (110 : UInt8)].toList.length ≤ (1000000
    : Nat) ∧ (-9223372036854775808 : Int) ≤ (13 : Int) ∧ (13 : Int) < (9223372036854775808 : Int)) ∧ True ∧ True ∧ (True ∧ True) ∧ True ∧ ((cmE (rnM (fmtS #[(102 : UInt8),
    (105 : UInt8), (114 : UInt8), (115 : UInt8), (116 : UInt8)].toList) (rowL codS (comF (rowL codS l.length fun i => codS.enc (l.getD i codS.dft))).length fun i =>
    codS.enc ((comF (rowL codS l.length fun i => codS.enc (l.getD i codS.dft))).getD i codS.dft)) (W b)) #[(97 : UInt8), (103 : UInt8), (97 : UInt8), (105 : UInt8),
    (110 : UInt8)].toList (13 : Int) == (0 : Int)) = true → ((curE (cmS (rnM (fmtS #[(102 : UInt8), (105 : UInt8), (114 : UInt8), (115 : UInt8), (116 : UInt8)].toList)
    (rowL codS (comF (rowL codS l.length fun i => codS.enc (l.getD i codS.dft))).length fun i => codS.enc ((comF (rowL codS l.length fun i => codS.enc (l.getD i codS.dft))).getD
    i codS.dft)) (W b)) #[(97 : UInt8), (103 : UInt8), (97 : UInt8), (105 : UInt8), (110 : UInt8)].toList (13 : Int)) == (0 : Int)) = true → ((curD (cmS (rnM (fmtS #[(102
    : UInt8), (105 : UInt8), (114 : UInt8), (115 : UInt8), (116 : UInt8)].toList) (rowL codS (comF (rowL codS l.length fun i => codS.enc (l.getD i codS.dft))).length
    fun i => codS.enc ((comF (rowL codS l.length fun i => codS.enc (l.getD i codS.dft))).getD i codS.dft)) (W b)) #[(97 : UInt8), (103 : UInt8), (97 : UInt8), (105 :
    UInt8), (110 : UInt8)].toList (13 : Int)) == #[(97 : UInt8), (103 : UInt8), (97 : UInt8), (105 : UInt8), (110 : UInt8)].toList) = true → (True ∧ True) ∧ True ∧ True
    ∧ true = true ∧ True) ∧ ((curD (cmS (rnM (fmtS #[(102 : UInt8), (105 : UInt8), (114 : UInt8), (115 : UInt8), (116 : UInt8)].toList) (rowL codS (comF (rowL codS l.length
    fun i => codS.enc (l.getD i codS.dft))).length fun i => codS.enc ((comF (rowL codS l.length fun i => codS.enc (l.getD i codS.dft))).getD i codS.dft)) (W b)) #[(97
    : UInt8), (103 : UInt8), (97 : UInt8), (105 : UInt8), (110 : UInt8)].toList (13 : Int)) == #[(97 : UInt8), (103 : UInt8), (97 : UInt8), (105 : UInt8), (110 : UInt8)].toList)
    = false → True ∧ True ∧ true = false ∧ True)) ∧ ((curE (cmS (rnM (fmtS #[(102 : UInt8), (105 : UInt8), (114 : UInt8), (115 : UInt8), (116 : UInt8)].toList) (rowL
    codS (comF (rowL codS l.length fun i => codS.enc (l.getD i codS.dft))).length fun i => codS.enc ((comF (rowL codS l.length fun i => codS.enc (l.getD i codS.dft))).getD
    i codS.dft)) (W b)) #[(97 : UInt8), (103 : UInt8), (97 : UInt8), (105 : UInt8), (110 : UInt8)].toList (13 : Int)) == (0 : Int)) = false → True ∧ True ∧ true = false
    ∧ True)) ∧ ((cmE (rnM (fmtS #[(102 : UInt8), (105 : UInt8), (114 : UInt8), (115 : UInt8), (116 : UInt8)].toList) (rowL codS (comF (rowL codS l.length fun i => codS.enc
    (l.getD i codS.dft))).length fun i => codS.enc ((comF (rowL codS l.length fun i => codS.enc (l.getD i codS.dft))).getD i codS.dft)) (W b)) #[(97 : UInt8), (103 :
    UInt8), (97 : UInt8), (105 : UInt8), (110 : UInt8)].toList (13 : Int) == (0 : Int)) = false → True ∧ True ∧ true = false ∧ True)))))))) ∧ ((rnE (fmtS #[(102 : UInt8),
    (105 : UInt8), (114 : UInt8), (115 : UInt8), (116 : UInt8)].toList) (rowL codS (comF (rowL codS l.length fun i => codS.enc (l.getD i codS.dft))).length fun i =>
    codS.enc ((comF (rowL codS l.length fun i => codS.enc (l.getD i codS.dft))).getD i codS.dft)) (W b) != (0 : Int)) = false → True ∧ True ∧ True ∧ (J9 (comF l) (rnN
    (fmtS firstB) (comF l) b) (#[(102 : UInt8), (105 : UInt8), (114 : UInt8), (115 : UInt8), (116 : UInt8)].toList, (0 : Int), (0 : Int)) ∧ ((l.length = l.length ∧ ∀
    (i : Nat), i < l.length → l.getD i codS.dft = l.getD i codS.dft ∧ True) ∧ b = b ∧ True ∧ True ∧ True ∧ ((comF (rowL codS l.length fun i => codS.enc (l.getD i codS.dft))).length
    = (comF (rowL codS l.length fun i => codS.enc (l.getD i codS.dft))).length ∧ ∀ (i : Nat), i < (comF (rowL codS l.length fun i => codS.enc (l.getD i codS.dft))).length
    → (comF (rowL codS l.length fun i => codS.enc (l.getD i codS.dft))).getD i codS.dft = (comF (rowL codS l.length fun i => codS.enc (l.getD i codS.dft))).getD i codS.dft
    ∧ True) ∧ fmtS #[(102 : UInt8), (105 : UInt8), (114 : UInt8), (115 : UInt8), (116 : UInt8)].toList = fmtS #[(102 : UInt8), (105 : UInt8), (114 : UInt8), (115 : UInt8),
    (116 : UInt8)].toList ∧ (0 : Int) = (0 : Int) ∧ rnM (fmtS #[(102 : UInt8), (105 : UInt8), (114 : UInt8), (115 : UInt8), (116 : UInt8)].toList) (rowL codS (comF (rowL
    codS l.length fun i => codS.enc (l.getD i codS.dft))).length fun i => codS.enc ((comF (rowL codS l.length fun i => codS.enc (l.getD i codS.dft))).getD i codS.dft))
    (W b) = rnM (fmtS #[(102 : UInt8), (105 : UInt8), (114 : UInt8), (115 : UInt8), (116 : UInt8)].toList) (rowL codS (comF (rowL codS l.length fun i => codS.enc (l.getD
    i codS.dft))).length fun i => codS.enc ((comF (rowL codS l.length fun i => codS.enc (l.getD i codS.dft))).getD i codS.dft)) (W b) ∧ rnN (fmtS #[(102 : UInt8), (105
    : UInt8), (114 : UInt8), (115 : UInt8), (116 : UInt8)].toList) (rowL codS (comF (rowL codS l.length fun i => codS.enc (l.getD i codS.dft))).length fun i => codS.enc
    ((comF (rowL codS l.length fun i => codS.enc (l.getD i codS.dft))).getD i codS.dft)) (W b) = rnN (fmtS #[(102 : UInt8), (105 : UInt8), (114 : UInt8), (115 : UInt8),
    (116 : UInt8)].toList) (rowL codS (comF (rowL codS l.length fun i => codS.enc (l.getD i codS.dft))).length fun i => codS.enc ((comF (rowL codS l.length fun i =>
    codS.enc (l.getD i codS.dft))).getD i codS.dft)) (W b) ∧ rnE (fmtS #[(102 : UInt8), (105 : UInt8), (114 : UInt8), (115 : UInt8), (116 : UInt8)].toList) (rowL codS
    (comF (rowL codS l.length fun i => codS.enc (l.getD i codS.dft))).length fun i => codS.enc ((comF (rowL codS l.length fun i => codS.enc (l.getD i codS.dft))).getD
    i codS.dft)) (W b) = rnE (fmtS #[(102 : UInt8), (105 : UInt8), (114 : UInt8), (115 : UInt8), (116 : UInt8)].toList) (rowL codS (comF (rowL codS l.length fun i =>
    codS.enc (l.getD i codS.dft))).length fun i => codS.enc ((comF (rowL codS l.length fun i => codS.enc (l.getD i codS.dft))).getD i codS.dft)) (W b) ∧ #[(102 : UInt8),
    (105 : UInt8), (114 : UInt8), (115 : UInt8), (116 : UInt8)].toList = #[(102 : UInt8), (105 : UInt8), (114 : UInt8), (115 : UInt8), (116 : UInt8)].toList ∧ (0 : Int)
    = (0 : Int) ∧ (0 : Int) = (0 : Int) ∧ True ∧ True ∧ True ∧ True ∧ True ∧ True ∧ (l.length = l.length ∧ ∀ (i : Nat), i < l.length → l.getD i codS.dft = l.getD i codS.dft
    ∧ True) ∧ ((comF (rowL codS l.length fun i => codS.enc (l.getD i codS.dft))).length = (comF (rowL codS l.length fun i => codS.enc (l.getD i codS.dft))).length ∧
    ∀ (i : Nat), i < (comF (rowL codS l.length fun i => codS.enc (l.getD i codS.dft))).length → (comF (rowL codS l.length fun i => codS.enc (l.getD i codS.dft))).getD
    i codS.dft = (comF (rowL codS l.length fun i => codS.enc (l.getD i codS.dft))).getD i codS.dft ∧ True) ∧ (fmtS #[(102 : UInt8), (105 : UInt8), (114 : UInt8), (115
    : UInt8), (116 : UInt8)].toList = fmtS #[(102 : UInt8), (105 : UInt8), (114 : UInt8), (115 : UInt8), (116 : UInt8)].toList ∧ (0 : Int) = (0 : Int) ∧ True) ∧ (fmtS
    #[(102 : UInt8), (105 : UInt8), (114 : UInt8), (115 : UInt8), (116 : UInt8)].toList = fmtS #[(102 : UInt8), (105 : UInt8), (114 : UInt8), (115 : UInt8), (116 : UInt8)].toList
    ∧ (0 : Int) = (0 : Int) ∧ True) ∧ fmtS #[(102 : UInt8), (105 : UInt8), (114 : UInt8), (115 : UInt8), (116 : UInt8)].toList = fmtS #[(102 : UInt8), (105 : UInt8),
    (114 : UInt8), (115 : UInt8), (116 : UInt8)].toList ∧ (0 : Int) = (0 : Int) ∧ (0 : Int) = (0 : Int) ∧ True ∧ (rnM (fmtS #[(102 : UInt8), (105 : UInt8), (114 : UInt8),
    (115 : UInt8), (116 : UInt8)].toList) (rowL codS (comF (rowL codS l.length fun i => codS.enc (l.getD i codS.dft))).length fun i => codS.enc ((comF (rowL codS l.length
    fun i => codS.enc (l.getD i codS.dft))).getD i codS.dft)) (W b) = rnM (fmtS #[(102 : UInt8), (105 : UInt8), (114 : UInt8), (115 : UInt8), (116 : UInt8)].toList)
    (rowL codS (comF (rowL codS l.length fun i => codS.enc (l.getD i codS.dft))).length fun i => codS.enc ((comF (rowL codS l.length fun i => codS.enc (l.getD i codS.dft))).getD
    i codS.dft)) (W b) ∧ rnN (fmtS #[(102 : UInt8), (105 : UInt8), (114 : UInt8), (115 : UInt8), (116 : UInt8)].toList) (rowL codS (comF (rowL codS l.length fun i =>
    codS.enc (l.getD i codS.dft))).length fun i => codS.enc ((comF (rowL codS l.length fun i => codS.enc (l.getD i codS.dft))).getD i codS.dft)) (W b) = rnN (fmtS #[(102
    : UInt8), (105 : UInt8), (114 : UInt8), (115 : UInt8), (116 : UInt8)].toList) (rowL codS (comF (rowL codS l.length fun i => codS.enc (l.getD i codS.dft))).length
    fun i => codS.enc ((comF (rowL codS l.length fun i => codS.enc (l.getD i codS.dft))).getD i codS.dft)) (W b) ∧ rnE (fmtS #[(102 : UInt8), (105 : UInt8), (114 : UInt8),
    (115 : UInt8), (116 : UInt8)].toList) (rowL codS (comF (rowL codS l.length fun i => codS.enc (l.getD i codS.dft))).length fun i => codS.enc ((comF (rowL codS l.length
    fun i => codS.enc (l.getD i codS.dft))).getD i codS.dft)) (W b) = rnE (fmtS #[(102 : UInt8), (105 : UInt8), (114 : UInt8), (115 : UInt8), (116 : UInt8)].toList)
    (rowL codS (comF (rowL codS l.length fun i => codS.enc (l.getD i codS.dft))).length fun i => codS.enc ((comF (rowL codS l.length fun i => codS.enc (l.getD i codS.dft))).getD
    i codS.dft)) (W b) ∧ True) ∧ fmtS #[(102 : UInt8), (105 : UInt8), (114 : UInt8), (115 : UInt8), (116 : UInt8)].toList = fmtS #[(102 : UInt8), (105 : UInt8), (114
    : UInt8), (115 : UInt8), (116 : UInt8)].toList ∧ ((comF (rowL codS l.length fun i => codS.enc (l.getD i codS.dft))).length = (comF (rowL codS l.length fun i => codS.enc
    (l.getD i codS.dft))).length ∧ ∀ (i : Nat), i < (comF (rowL codS l.length fun i => codS.enc (l.getD i codS.dft))).length → (comF (rowL codS l.length fun i => codS.enc
    (l.getD i codS.dft))).getD i codS.dft = (comF (rowL codS l.length fun i => codS.enc (l.getD i codS.dft))).getD i codS.dft ∧ True) ∧ b = b ∧ W b = W b ∧ (rnM (fmtS
    #[(102 : UInt8), (105 : UInt8), (114 : UInt8), (115 : UInt8), (116 : UInt8)].toList) (rowL codS (comF (rowL codS l.length fun i => codS.enc (l.getD i codS.dft))).length
    fun i => codS.enc ((comF (rowL codS l.length fun i => codS.enc (l.getD i codS.dft))).getD i codS.dft)) (W b) = rnM (fmtS #[(102 : UInt8), (105 : UInt8), (114 : UInt8),
    (115 : UInt8), (116 : UInt8)].toList) (rowL codS (comF (rowL codS l.length fun i => codS.enc (l.getD i codS.dft))).length fun i => codS.enc ((comF (rowL codS l.length
    fun i => codS.enc (l.getD i codS.dft))).getD i codS.dft)) (W b) ∧ rnN (fmtS #[(102 : UInt8), (105 : UInt8), (114 : UInt8), (115 : UInt8), (116 : UInt8)].toList)
    (rowL codS (comF (rowL codS l.length fun i => codS.enc (l.getD i codS.dft))).length fun i => codS.enc ((comF (rowL codS l.length fun i => codS.enc (l.getD i codS.dft))).getD
    i codS.dft)) (W b) = rnN (fmtS #[(102 : UInt8), (105 : UInt8), (114 : UInt8), (115 : UInt8), (116 : UInt8)].toList) (rowL codS (comF (rowL codS l.length fun i =>
    codS.enc (l.getD i codS.dft))).length fun i => codS.enc ((comF (rowL codS l.length fun i => codS.enc (l.getD i codS.dft))).getD i codS.dft)) (W b) ∧ rnE (fmtS #[(102
    : UInt8), (105 : UInt8), (114 : UInt8), (115 : UInt8), (116 : UInt8)].toList) (rowL codS (comF (rowL codS l.length fun i => codS.enc (l.getD i codS.dft))).length
    fun i => codS.enc ((comF (rowL codS l.length fun i => codS.enc (l.getD i codS.dft))).getD i codS.dft)) (W b) = rnE (fmtS #[(102 : UInt8), (105 : UInt8), (114 : UInt8),
    (115 : UInt8), (116 : UInt8)].toList) (rowL codS (comF (rowL codS l.length fun i => codS.enc (l.getD i codS.dft))).length fun i => codS.enc ((comF (rowL codS l.length
    fun i => codS.enc (l.getD i codS.dft))).getD i codS.dft)) (W b) ∧ True) ∧ rnM (fmtS #[(102 : UInt8), (105 : UInt8), (114 : UInt8), (115 : UInt8), (116 : UInt8)].toList)
    (rowL codS (comF (rowL codS l.length fun i => codS.enc (l.getD i codS.dft))).length fun i => codS.enc ((comF (rowL codS l.length fun i => codS.enc (l.getD i codS.dft))).getD
    i codS.dft)) (W b) = rnM (fmtS #[(102 : UInt8), (105 : UInt8), (114 : UInt8), (115 : UInt8), (116 : UInt8)].toList) (rowL codS (comF (rowL codS l.length fun i =>
    codS.enc (l.getD i codS.dft))).length fun i => codS.enc ((comF (rowL codS l.length fun i => codS.enc (l.getD i codS.dft))).getD i codS.dft)) (W b) ∧ rnN (fmtS #[(102
    : UInt8), (105 : UInt8), (114 : UInt8), (115 : UInt8), (116 : UInt8)].toList) (rowL codS (comF (rowL codS l.length fun i => codS.enc (l.getD i codS.dft))).length
    fun i => codS.enc ((comF (rowL codS l.length fun i => codS.enc (l.getD i codS.dft))).getD i codS.dft)) (W b) = rnN (fmtS #[(102 : UInt8), (105 : UInt8), (114 : UInt8),
    (115 : UInt8), (116 : UInt8)].toList) (rowL codS (comF (rowL codS l.length fun i => codS.enc (l.getD i codS.dft))).length fun i => codS.enc ((comF (rowL codS l.length
    fun i => codS.enc (l.getD i codS.dft))).getD i codS.dft)) (W b) ∧ rnE (fmtS #[(102 : UInt8), (105 : UInt8), (114 : UInt8), (115 : UInt8), (116 : UInt8)].toList)
    (rowL codS (comF (rowL codS l.length fun i => codS.enc (l.getD i codS.dft))).length fun i => codS.enc ((comF (rowL codS l.length fun i => codS.enc (l.getD i codS.dft))).getD
    i codS.dft)) (W b) = rnE (fmtS #[(102 : UInt8), (105 : UInt8), (114 : UInt8), (115 : UInt8), (116 : UInt8)].toList) (rowL codS (comF (rowL codS l.length fun i =>
    codS.enc (l.getD i codS.dft))).length fun i => codS.enc ((comF (rowL codS l.length fun i => codS.enc (l.getD i codS.dft))).getD i codS.dft)) (W b) ∧ rnN (fmtS #[(102
    : UInt8), (105 : UInt8), (114 : UInt8), (115 : UInt8), (116 : UInt8)].toList) (rowL codS (comF (rowL codS l.length fun i => codS.enc (l.getD i codS.dft))).length
    fun i => codS.enc ((comF (rowL codS l.length fun i => codS.enc (l.getD i codS.dft))).getD i codS.dft)) (W b) = rnN (fmtS #[(102 : UInt8), (105 : UInt8), (114 : UInt8),
    (115 : UInt8), (116 : UInt8)].toList) (rowL codS (comF (rowL codS l.length fun i => codS.enc (l.getD i codS.dft))).length fun i => codS.enc ((comF (rowL codS l.length
    fun i => codS.enc (l.getD i codS.dft))).getD i codS.dft)) (W b) ∧ decide (rnN (fmtS #[(102 : UInt8), (105 : UInt8), (114 : UInt8), (115 : UInt8), (116 : UInt8)].toList)
    (rowL codS (comF (rowL codS l.length fun i => codS.enc (l.getD i codS.dft))).length fun i => codS.enc ((comF (rowL codS l.length fun i => codS.enc (l.getD i codS.dft))).getD
    i codS.dft)) (W b) < (0 : Int)) = decide (rnN (fmtS #[(102 : UInt8), (105 : UInt8), (114 : UInt8), (115 : UInt8), (116 : UInt8)].toList) (rowL codS (comF (rowL codS
    l.length fun i => codS.enc (l.getD i codS.dft))).length fun i => codS.enc ((comF (rowL codS l.length fun i => codS.enc (l.getD i codS.dft))).getD i codS.dft)) (W
    b) < (0 : Int)) ∧ True ∧ rnN (fmtS #[(102 : UInt8), (105 : UInt8), (114 : UInt8), (115 : UInt8), (116 : UInt8)].toList) (rowL codS (comF (rowL codS l.length fun
    i => codS.enc (l.getD i codS.dft))).length fun i => codS.enc ((comF (rowL codS l.length fun i => codS.enc (l.getD i codS.dft))).getD i codS.dft)) (W b) = rnN (fmtS
    #[(102 : UInt8), (105 : UInt8), (114 : UInt8), (115 : UInt8), (116 : UInt8)].toList) (rowL codS (comF (rowL codS l.length fun i => codS.enc (l.getD i codS.dft))).length
    fun i => codS.enc ((comF (rowL codS l.length fun i => codS.enc (l.getD i codS.dft))).getD i codS.dft)) (W b) ∧ ((comF (rowL codS l.length fun i => codS.enc (l.getD
    i codS.dft))).length = (comF (rowL codS l.length fun i => codS.enc (l.getD i codS.dft))).length ∧ ∀ (i : Nat), i < (comF (rowL codS l.length fun i => codS.enc (l.getD
    i codS.dft))).length → (comF (rowL codS l.length fun i => codS.enc (l.getD i codS.dft))).getD i codS.dft = (comF (rowL codS l.length fun i => codS.enc (l.getD i
    codS.dft))).getD i codS.dft ∧ True) ∧ Eq (α := Int) ↑(comF (rowL codS l.length fun i => codS.enc (l.getD i codS.dft))).length ↑(comF (rowL codS l.length fun i =>
    codS.enc (l.getD i codS.dft))).length ∧ decide (rnN (fmtS #[(102 : UInt8), (105 : UInt8), (114 : UInt8), (115 : UInt8), (116 : UInt8)].toList) (rowL codS (comF (rowL
    codS l.length fun i => codS.enc (l.getD i codS.dft))).length fun i => codS.enc ((comF (rowL codS l.length fun i => codS.enc (l.getD i codS.dft))).getD i codS.dft))
    (W b) > ↑(comF (rowL codS l.length fun i => codS.enc (l.getD i codS.dft))).length) = decide (rnN (fmtS #[(102 : UInt8), (105 : UInt8), (114 : UInt8), (115 : UInt8),
    (116 : UInt8)].toList) (rowL codS (comF (rowL codS l.length fun i => codS.enc (l.getD i codS.dft))).length fun i => codS.enc ((comF (rowL codS l.length fun i =>
    codS.enc (l.getD i codS.dft))).getD i codS.dft)) (W b) > ↑(comF (rowL codS l.length fun i => codS.enc (l.getD i codS.dft))).length) ∧ decide (rnN (fmtS #[(102 :
    UInt8), (105 : UInt8), (114 : UInt8), (115 : UInt8), (116 : UInt8)].toList) (rowL codS (comF (rowL codS l.length fun i => codS.enc (l.getD i codS.dft))).length fun
    i => codS.enc ((comF (rowL codS l.length fun i => codS.enc (l.getD i codS.dft))).getD i codS.dft)) (W b) > ↑(comF (rowL codS l.length fun i => codS.enc (l.getD i
    codS.dft))).length) = decide (rnN (fmtS #[(102 : UInt8), (105 : UInt8), (114 : UInt8), (115 : UInt8), (116 : UInt8)].toList) (rowL codS (comF (rowL codS l.length
    fun i => codS.enc (l.getD i codS.dft))).length fun i => codS.enc ((comF (rowL codS l.length fun i => codS.enc (l.getD i codS.dft))).getD i codS.dft)) (W b) > ↑(comF
    (rowL codS l.length fun i => codS.enc (l.getD i codS.dft))).length) ∧ True ∧ rnE (fmtS #[(102 : UInt8), (105 : UInt8), (114 : UInt8), (115 : UInt8), (116 : UInt8)].toList)
    (rowL codS (comF (rowL codS l.length fun i => codS.enc (l.getD i codS.dft))).length fun i => codS.enc ((comF (rowL codS l.length fun i => codS.enc (l.getD i codS.dft))).getD
    i codS.dft)) (W b) = rnE (fmtS #[(102 : UInt8), (105 : UInt8), (114 : UInt8), (115 : UInt8), (116 : UInt8)].toList) (rowL codS (comF (rowL codS l.length fun i =>
    codS.enc (l.getD i codS.dft))).length fun i => codS.enc ((comF (rowL codS l.length fun i => codS.enc (l.getD i codS.dft))).getD i codS.dft)) (W b) ∧ (rnE (fmtS #[(102
    : UInt8), (105 : UInt8), (114 : UInt8), (115 : UInt8), (116 : UInt8)].toList) (rowL codS (comF (rowL codS l.length fun i => codS.enc (l.getD i codS.dft))).length
    fun i => codS.enc ((comF (rowL codS l.length fun i => codS.enc (l.getD i codS.dft))).getD i codS.dft)) (W b) == (0 : Int)) = (rnE (fmtS #[(102 : UInt8), (105 : UInt8),
    (114 : UInt8), (115 : UInt8), (116 : UInt8)].toList) (rowL codS (comF (rowL codS l.length fun i => codS.enc (l.getD i codS.dft))).length fun i => codS.enc ((comF
    (rowL codS l.length fun i => codS.enc (l.getD i codS.dft))).getD i codS.dft)) (W b) == (0 : Int)) ∧ rnN (fmtS #[(102 : UInt8), (105 : UInt8), (114 : UInt8), (115
    : UInt8), (116 : UInt8)].toList) (rowL codS (comF (rowL codS l.length fun i => codS.enc (l.getD i codS.dft))).length fun i => codS.enc ((comF (rowL codS l.length
    fun i => codS.enc (l.getD i codS.dft))).getD i codS.dft)) (W b) = rnN (fmtS #[(102 : UInt8), (105 : UInt8), (114 : UInt8), (115 : UInt8), (116 : UInt8)].toList)
    (rowL codS (comF (rowL codS l.length fun i => codS.enc (l.getD i codS.dft))).length fun i => codS.enc ((comF (rowL codS l.length fun i => codS.enc (l.getD i codS.dft))).getD
    i codS.dft)) (W b) ∧ ((comF (rowL codS l.length fun i => codS.enc (l.getD i codS.dft))).length = (comF (rowL codS l.length fun i => codS.enc (l.getD i codS.dft))).length
    ∧ ∀ (i : Nat), i < (comF (rowL codS l.length fun i => codS.enc (l.getD i codS.dft))).length → (comF (rowL codS l.length fun i => codS.enc (l.getD i codS.dft))).getD
    i codS.dft = (comF (rowL codS l.length fun i => codS.enc (l.getD i codS.dft))).getD i codS.dft ∧ True) ∧ Eq (α := Int) ↑(comF (rowL codS l.length fun i => codS.enc
    (l.getD i codS.dft))).length ↑(comF (rowL codS l.length fun i => codS.enc (l.getD i codS.dft))).length ∧ (rnN (fmtS #[(102 : UInt8), (105 : UInt8), (114 : UInt8),
    (115 : UInt8), (116 : UInt8)].toList) (rowL codS (comF (rowL codS l.length fun i => codS.enc (l.getD i codS.dft))).length fun i => codS.enc ((comF (rowL codS l.length
    fun i => codS.enc (l.getD i codS.dft))).getD i codS.dft)) (W b) == ↑(comF (rowL codS l.length fun i => codS.enc (l.getD i codS.dft))).length) = (rnN (fmtS #[(102
    : UInt8), (105 : UInt8), (114 : UInt8), (115 : UInt8), (116 : UInt8)].toList) (rowL codS (comF (rowL codS l.length fun i => codS.enc (l.getD i codS.dft))).length
    fun i => codS.enc ((comF (rowL codS l.length fun i => codS.enc (l.getD i codS.dft))).getD i codS.dft)) (W b) == ↑(comF (rowL codS l.length fun i => codS.enc (l.getD
    i codS.dft))).length) ∧ (!(rnE (fmtS #[(102 : UInt8), (105 : UInt8), (114 : UInt8), (115 : UInt8), (116 : UInt8)].toList) (rowL codS (comF (rowL codS l.length fun
    i => codS.enc (l.getD i codS.dft))).length fun i => codS.enc ((comF (rowL codS l.length fun i => codS.enc (l.getD i codS.dft))).getD i codS.dft)) (W b) == (0 : Int))
    == (rnN (fmtS #[(102 : UInt8), (105 : UInt8), (114 : UInt8), (115 : UInt8), (116 : UInt8)].toList) (rowL codS (comF (rowL codS l.length fun i => codS.enc (l.getD
    i codS.dft))).length fun i => codS.enc ((comF (rowL codS l.length fun i => codS.enc (l.getD i codS.dft))).getD i codS.dft)) (W b) == ↑(comF (rowL codS l.length fun
    i => codS.enc (l.getD i codS.dft))).length)) = !(rnE (fmtS #[(102 : UInt8), (105 : UInt8), (114 : UInt8), (115 : UInt8), (116 : UInt8)].toList) (rowL codS (comF
    (rowL codS l.length fun i => codS.enc (l.getD i codS.dft))).length fun i => codS.enc ((comF (rowL codS l.length fun i => codS.enc (l.getD i codS.dft))).getD i codS.dft))
    (W b) == (0 : Int)) == (rnN (fmtS #[(102 : UInt8), (105 : UInt8), (114 : UInt8), (115 : UInt8), (116 : UInt8)].toList) (rowL codS (comF (rowL codS l.length fun i
    => codS.enc (l.getD i codS.dft))).length fun i => codS.enc ((comF (rowL codS l.length fun i => codS.enc (l.getD i codS.dft))).getD i codS.dft)) (W b) == ↑(comF (rowL
    codS l.length fun i => codS.enc (l.getD i codS.dft))).length) ∧ (!(rnE (fmtS #[(102 : UInt8), (105 : UInt8), (114 : UInt8), (115 : UInt8), (116 : UInt8)].toList)
    (rowL codS (comF (rowL codS l.length fun i => codS.enc (l.getD i codS.dft))).length fun i => codS.enc ((comF (rowL codS l.length fun i => codS.enc (l.getD i codS.dft))).getD
    i codS.dft)) (W b) == (0 : Int)) == (rnN (fmtS #[(102 : UInt8), (105 : UInt8), (114 : UInt8), (115 : UInt8), (116 : UInt8)].toList) (rowL codS (comF (rowL codS l.length
    fun i => codS.enc (l.getD i codS.dft))).length fun i => codS.enc ((comF (rowL codS l.length fun i => codS.enc (l.getD i codS.dft))).getD i codS.dft)) (W b) == ↑(comF
    (rowL codS l.length fun i => codS.enc (l.getD i codS.dft))).length)) = !(rnE (fmtS #[(102 : UInt8), (105 : UInt8), (114 : UInt8), (115 : UInt8), (116 : UInt8)].toList)
    (rowL codS (comF (rowL codS l.length fun i => codS.enc (l.getD i codS.dft))).length fun i => codS.enc ((comF (rowL codS l.length fun i => codS.enc (l.getD i codS.dft))).getD
    i codS.dft)) (W b) == (0 : Int)) == (rnN (fmtS #[(102 : UInt8), (105 : UInt8), (114 : UInt8), (115 : UInt8), (116 : UInt8)].toList) (rowL codS (comF (rowL codS l.length
    fun i => codS.enc (l.getD i codS.dft))).length fun i => codS.enc ((comF (rowL codS l.length fun i => codS.enc (l.getD i codS.dft))).getD i codS.dft)) (W b) == ↑(comF
    (rowL codS l.length fun i => codS.enc (l.getD i codS.dft))).length) ∧ True ∧ rnE (fmtS #[(102 : UInt8), (105 : UInt8), (114 : UInt8), (115 : UInt8), (116 : UInt8)].toList)
    (rowL codS (comF (rowL codS l.length fun i => codS.enc (l.getD i codS.dft))).length fun i => codS.enc ((comF (rowL codS l.length fun i => codS.enc (l.getD i codS.dft))).getD
    i codS.dft)) (W b) = rnE (fmtS #[(102 : UInt8), (105 : UInt8), (114 : UInt8), (115 : UInt8), (116 : UInt8)].toList) (rowL codS (comF (rowL codS l.length fun i =>
    codS.enc (l.getD i codS.dft))).length fun i => codS.enc ((comF (rowL codS l.length fun i => codS.enc (l.getD i codS.dft))).getD i codS.dft)) (W b) ∧ (rnE (fmtS #[(102
    : UInt8), (105 : UInt8), (114 : UInt8), (115 : UInt8), (116 : UInt8)].toList) (rowL codS (comF (rowL codS l.length fun i => codS.enc (l.getD i codS.dft))).length
    fun i => codS.enc ((comF (rowL codS l.length fun i => codS.enc (l.getD i codS.dft))).getD i codS.dft)) (W b) != (0 : Int)) = (rnE (fmtS #[(102 : UInt8), (105 : UInt8),
    (114 : UInt8), (115 : UInt8), (116 : UInt8)].toList) (rowL codS (comF (rowL codS l.length fun i => codS.enc (l.getD i codS.dft))).length fun i => codS.enc ((comF
    (rowL codS l.length fun i => codS.enc (l.getD i codS.dft))).getD i codS.dft)) (W b) != (0 : Int)) ∧ True ∧ True ∧ True ∧ True ∧ True ∧ True ∧ True ∧ True ∧ True
    ∧ True ∧ True ∧ True ∧ True ∧ True ∧ True ∧ True ∧ True ∧ True ∧ True ∧ True ∧ True ∧ True ∧ True ∧ True ∧ True ∧ True ∧ True ∧ True ∧ True ∧ True ∧ True ∧ True
    ∧ True ∧ True ∧ True ∧ True ∧ True ∧ True ∧ True ∧ True ∧ True ∧ True ∧ True ∧ True ∧ True ∧ True ∧ True ∧ True ∧ True ∧ True ∧ True ∧ True ∧ True ∧ True ∧ True
    ∧ True ∧ True ∧ True ∧ True ∧ True ∧ True ∧ True ∧ True ∧ True ∧ True ∧ True ∧ True ∧ True ∧ True ∧ True ∧ True ∧ True ∧ True ∧ True ∧ True ∧ True ∧ True ∧ True
    ∧ True ∧ True ∧ True) ∧ True) ∧ ∀ (n : List UInt8) (n_1 n_2 : Int), J9 (comF l) (rnN (fmtS firstB) (comF l) b) (n, n_1, n_2) → True ∧ (decide (n_2 < rnN (fmtS #[(102
    : UInt8), (105 : UInt8), (114 : UInt8), (115 : UInt8), (116 : UInt8)].toList) (rowL codS (comF (rowL codS l.length fun i => codS.enc (l.getD i codS.dft))).length
    fun i => codS.enc ((comF (rowL codS l.length fun i => codS.enc (l.getD i codS.dft))).getD i codS.dft)) (W b)) = true → ((0 : Int) ≤ n_2 ∧ n_2 < ↑(comF (rowL codS
    l.length fun i => codS.enc (l.getD i codS.dft))).length) ∧ True ∧ ((0 : Int) ≤ n_2 ∧ n_2 < ↑(comF (rowL codS l.length fun i => codS.enc (l.getD i codS.dft))).length)
    ∧ True ∧ True ∧ J9 (comF l) (rnN (fmtS firstB) (comF l) b) ((comF (rowL codS l.length fun i => codS.enc (l.getD i codS.dft))).getD n_2.toNat codS.dft, W (W (n_1
    + ↑((comF (rowL codS l.length fun i => codS.enc (l.getD i codS.dft))).getD n_2.toNat codS.dft).length) + (8 : Int)), W (n_2 + (1 : Int))) ∧ (rnN (fmtS firstB) (comF
    l) b - W (n_2 + (1 : Int))).toNat < (rnN (fmtS firstB) (comF l) b - n_2).toNat ∧ ((l.length = l.length ∧ ∀ (i : Nat), i < l.length → l.getD i codS.dft = l.getD i
    codS.dft ∧ True) ∧ b = b ∧ True ∧ True ∧ True ∧ ((comF (rowL codS l.length fun i => codS.enc (l.getD i codS.dft))).length = (comF (rowL codS l.length fun i => codS.enc
    (l.getD i codS.dft))).length ∧ ∀ (i : Nat), i < (comF (rowL codS l.length fun i => codS.enc (l.getD i codS.dft))).length → (comF (rowL codS l.length fun i => codS.enc
    (l.getD i codS.dft))).getD i codS.dft = (comF (rowL codS l.length fun i => codS.enc (l.getD i codS.dft))).getD i codS.dft ∧ True) ∧ fmtS #[(102 : UInt8), (105 :
    UInt8), (114 : UInt8), (115 : UInt8), (116 : UInt8)].toList = fmtS #[(102 : UInt8), (105 : UInt8), (114 : UInt8), (115 : UInt8), (116 : UInt8)].toList ∧ (0 : Int)
    = (0 : Int) ∧ rnM (fmtS #[(102 : UInt8), (105 : UInt8), (114 : UInt8), (115 : UInt8), (116 : UInt8)].toList) (rowL codS (comF (rowL codS l.length fun i => codS.enc
    (l.getD i codS.dft))).length fun i => codS.enc ((comF (rowL codS l.length fun i => codS.enc (l.getD i codS.dft))).getD i codS.dft)) (W b) = rnM (fmtS #[(102 : UInt8),
    (105 : UInt8), (114 : UInt8), (115 : UInt8), (116 : UInt8)].toList) (rowL codS (comF (rowL codS l.length fun i => codS.enc (l.getD i codS.dft))).length fun i =>
    codS.enc ((comF (rowL codS l.length fun i => codS.enc (l.getD i codS.dft))).getD i codS.dft)) (W b) ∧ rnN (fmtS #[(102 : UInt8), (105 : UInt8), (114 : UInt8), (115
    : UInt8), (116 : UInt8)].toList) (rowL codS (comF (rowL codS l.length fun i => codS.enc (l.getD i codS.dft))).length fun i => codS.enc ((comF (rowL codS l.length
    fun i => codS.enc (l.getD i codS.dft))).getD i codS.dft)) (W b) = rnN (fmtS #[(102 : UInt8), (105 : UInt8), (114 : UInt8), (115 : UInt8), (116 : UInt8)].toList)
    (rowL codS (comF (rowL codS l.length fun i => codS.enc (l.getD i codS.dft))).length fun i => codS.enc ((comF (rowL codS l.length fun i => codS.enc (l.getD i codS.dft))).getD
    i codS.dft)) (W b) ∧ rnE (fmtS #[(102 : UInt8), (105 : UInt8), (114 : UInt8), (115 : UInt8), (116 : UInt8)].toList) (rowL codS (comF (rowL codS l.length fun i =>
    codS.enc (l.getD i codS.dft))).length fun i => codS.enc ((comF (rowL codS l.length fun i => codS.enc (l.getD i codS.dft))).getD i codS.dft)) (W b) = rnE (fmtS #[(102
    : UInt8), (105 : UInt8), (114 : UInt8), (115 : UInt8), (116 : UInt8)].toList) (rowL codS (comF (rowL codS l.length fun i => codS.enc (l.getD i codS.dft))).length
    fun i => codS.enc ((comF (rowL codS l.length fun i => codS.enc (l.getD i codS.dft))).getD i codS.dft)) (W b) ∧ (comF (rowL codS l.length fun i => codS.enc (l.getD
    i codS.dft))).getD n_2.toNat codS.dft = (comF (rowL codS l.length fun i => codS.enc (l.getD i codS.dft))).getD n_2.toNat codS.dft ∧ W (W (n_1 + ↑((comF (rowL codS
    l.length fun i => codS.enc (l.getD i codS.dft))).getD n_2.toNat codS.dft).length) + (8 : Int)) = W (W (n_1 + ↑((comF (rowL codS l.length fun i => codS.enc (l.getD
    i codS.dft))).getD n_2.toNat codS.dft).length) + (8 : Int)) ∧ W (n_2 + (1 : Int)) = W (n_2 + (1 : Int)) ∧ True ∧ True ∧ True ∧ True ∧ True ∧ True ∧ (l.length = l.length
    ∧ ∀ (i : Nat), i < l.length → l.getD i codS.dft = l.getD i codS.dft ∧ True) ∧ ((comF (rowL codS l.length fun i => codS.enc (l.getD i codS.dft))).length = (comF (rowL
    codS l.length fun i => codS.enc (l.getD i codS.dft))).length ∧ ∀ (i : Nat), i < (comF (rowL codS l.length fun i => codS.enc (l.getD i codS.dft))).length → (comF
    (rowL codS l.length fun i => codS.enc (l.getD i codS.dft))).getD i codS.dft = (comF (rowL codS l.length fun i => codS.enc (l.getD i codS.dft))).getD i codS.dft ∧
    True) ∧ (fmtS #[(102 : UInt8), (105 : UInt8), (114 : UInt8), (115 : UInt8), (116 : UInt8)].toList = fmtS #[(102 : UInt8), (105 : UInt8), (114 : UInt8), (115 : UInt8),
    (116 : UInt8)].toList ∧ (0 : Int) = (0 : Int) ∧ True) ∧ (fmtS #[(102 : UInt8), (105 : UInt8), (114 : UInt8), (115 : UInt8), (116 : UInt8)].toList = fmtS #[(102 :
    UInt8), (105 : UInt8), (114 : UInt8), (115 : UInt8), (116 : UInt8)].toList ∧ (0 : Int) = (0 : Int) ∧ True) ∧ fmtS #[(102 : UInt8), (105 : UInt8), (114 : UInt8),
    (115 : UInt8), (116 : UInt8)].toList = fmtS #[(102 : UInt8), (105 : UInt8), (114 : UInt8), (115 : UInt8), (116 : UInt8)].toList ∧ (0 : Int) = (0 : Int) ∧ (0 : Int)
    = (0 : Int) ∧ True ∧ (rnM (fmtS #[(102 : UInt8), (105 : UInt8), (114 : UInt8), (115 : UInt8), (116 : UInt8)].toList) (rowL codS (comF (rowL codS l.length fun i =>
    codS.enc (l.getD i codS.dft))).length fun i => codS.enc ((comF (rowL codS l.length fun i => codS.enc (l.getD i codS.dft))).getD i codS.dft)) (W b) = rnM (fmtS #[(102
    : UInt8), (105 : UInt8), (114 : UInt8), (115 : UInt8), (116 : UInt8)].toList) (rowL codS (comF (rowL codS l.length fun i => codS.enc (l.getD i codS.dft))).length
    fun i => codS.enc ((comF (rowL codS l.length fun i => codS.enc (l.getD i codS.dft))).getD i codS.dft)) (W b) ∧ rnN (fmtS #[(102 : UInt8), (105 : UInt8), (114 : UInt8),
    (115 : UInt8), (116 : UInt8)].toList) (rowL codS (comF (rowL codS l.length fun i => codS.enc (l.getD i codS.dft))).length fun i => codS.enc ((comF (rowL codS l.length
    fun i => codS.enc (l.getD i codS.dft))).getD i codS.dft)) (W b) = rnN (fmtS #[(102 : UInt8), (105 : UInt8), (114 : UInt8), (115 : UInt8), (116 : UInt8)].toList)
    (rowL codS (comF (rowL codS l.length fun i => codS.enc (l.getD i codS.dft))).length fun i => codS.enc ((comF (rowL codS l.length fun i => codS.enc (l.getD i codS.dft))).getD
    i codS.dft)) (W b) ∧ rnE (fmtS #[(102 : UInt8), (105 : UInt8), (114 : UInt8), (115 : UInt8), (116 : UInt8)].toList) (rowL codS (comF (rowL codS l.length fun i =>
    codS.enc (l.getD i codS.dft))).length fun i => codS.enc ((comF (rowL codS l.length fun i => codS.enc (l.getD i codS.dft))).getD i codS.dft)) (W b) = rnE (fmtS #[(102
    : UInt8), (105 : UInt8), (114 : UInt8), (115 : UInt8), (116 : UInt8)].toList) (rowL codS (comF (rowL codS l.length fun i => codS.enc (l.getD i codS.dft))).length
    fun i => codS.enc ((comF (rowL codS l.length fun i => codS.enc (l.getD i codS.dft))).getD i codS.dft)) (W b) ∧ True) ∧ fmtS #[(102 : UInt8), (105 : UInt8), (114
    : UInt8), (115 : UInt8), (116 : UInt8)].toList = fmtS #[(102 : UInt8), (105 : UInt8), (114 : UInt8), (115 : UInt8), (116 : UInt8)].toList ∧ ((comF (rowL codS l.length
    fun i => codS.enc (l.getD i codS.dft))).length = (comF (rowL codS l.length fun i => codS.enc (l.getD i codS.dft))).length ∧ ∀ (i : Nat), i < (comF (rowL codS l.length
    fun i => codS.enc (l.getD i codS.dft))).length → (comF (rowL codS l.length fun i => codS.enc (l.getD i codS.dft))).getD i codS.dft = (comF (rowL codS l.length fun
    i => codS.enc (l.getD i codS.dft))).getD i codS.dft ∧ True) ∧ b = b ∧ W b = W b ∧ (rnM (fmtS #[(102 : UInt8), (105 : UInt8), (114 : UInt8), (115 : UInt8), (116 :
    UInt8)].toList) (rowL codS (comF (rowL codS l.length fun i => codS.enc (l.getD i codS.dft))).length fun i => codS.enc ((comF (rowL codS l.length fun i => codS.enc
    (l.getD i codS.dft))).getD i codS.dft)) (W b) = rnM (fmtS #[(102 : UInt8), (105 : UInt8), (114 : UInt8), (115 : UInt8), (116 : UInt8)].toList) (rowL codS (comF (rowL
    codS l.length fun i => codS.enc (l.getD i codS.dft))).length fun i => codS.enc ((comF (rowL codS l.length fun i => codS.enc (l.getD i codS.dft))).getD i codS.dft))
    (W b) ∧ rnN (fmtS #[(102 : UInt8), (105 : UInt8), (114 : UInt8), (115 : UInt8), (116 : UInt8)].toList) (rowL codS (comF (rowL codS l.length fun i => codS.enc (l.getD
    i codS.dft))).length fun i => codS.enc ((comF (rowL codS l.length fun i => codS.enc (l.getD i codS.dft))).getD i codS.dft)) (W b) = rnN (fmtS #[(102 : UInt8), (105
    : UInt8), (114 : UInt8), (115 : UInt8), (116 : UInt8)].toList) (rowL codS (comF (rowL codS l.length fun i => codS.enc (l.getD i codS.dft))).length fun i => codS.enc
    ((comF (rowL codS l.length fun i => codS.enc (l.getD i codS.dft))).getD i codS.dft)) (W b) ∧ rnE (fmtS #[(102 : UInt8), (105 : UInt8), (114 : UInt8), (115 : UInt8),
    (116 : UInt8)].toList) (rowL codS (comF (rowL codS l.length fun i => codS.enc (l.getD i codS.dft))).length fun i => codS.enc ((comF (rowL codS l.length fun i =>
    codS.enc (l.getD i codS.dft))).getD i codS.dft)) (W b) = rnE (fmtS #[(102 : UInt8), (105 : UInt8), (114 : UInt8), (115 : UInt8), (116 : UInt8)].toList) (rowL codS
    (comF (rowL codS l.length fun i => codS.enc (l.getD i codS.dft))).length fun i => codS.enc ((comF (rowL codS l.length fun i => codS.enc (l.getD i codS.dft))).getD
    i codS.dft)) (W b) ∧ True) ∧ rnM (fmtS #[(102 : UInt8), (105 : UInt8), (114 : UInt8), (115 : UInt8), (116 : UInt8)].toList) (rowL codS (comF (rowL codS l.length
    fun i => codS.enc (l.getD i codS.dft))).length fun i => codS.enc ((comF (rowL codS l.length fun i => codS.enc (l.getD i codS.dft))).getD i codS.dft)) (W b) = rnM
    (fmtS #[(102 : UInt8), (105 : UInt8), (114 : UInt8), (115 : UInt8), (116 : UInt8)].toList) (rowL codS (comF (rowL codS l.length fun i => codS.enc (l.getD i codS.dft))).length
    fun i => codS.enc ((comF (rowL codS l.length fun i => codS.enc (l.getD i codS.dft))).getD i codS.dft)) (W b) ∧ rnN (fmtS #[(102 : UInt8), (105 : UInt8), (114 : UInt8),
    (115 : UInt8), (116 : UInt8)].toList) (rowL codS (comF (rowL codS l.length fun i => codS.enc (l.getD i codS.dft))).length fun i => codS.enc ((comF (rowL codS l.length
    fun i => codS.enc (l.getD i codS.dft))).getD i codS.dft)) (W b) = rnN (fmtS #[(102 : UInt8), (105 : UInt8), (114 : UInt8), (115 : UInt8), (116 : UInt8)].toList)
    (rowL codS (comF (rowL codS l.length fun i => codS.enc (l.getD i codS.dft))).length fun i => codS.enc ((comF (rowL codS l.length fun i => codS.enc (l.getD i codS.dft))).getD
    i codS.dft)) (W b) ∧ rnE (fmtS #[(102 : UInt8), (105 : UInt8), (114 : UInt8), (115 : UInt8), (116 : UInt8)].toList) (rowL codS (comF (rowL codS l.length fun i =>
    codS.enc (l.getD i codS.dft))).length fun i => codS.enc ((comF (rowL codS l.length fun i => codS.enc (l.getD i codS.dft))).getD i codS.dft)) (W b) = rnE (fmtS #[(102
    : UInt8), (105 : UInt8), (114 : UInt8), (115 : UInt8), (116 : UInt8)].toList) (rowL codS (comF (rowL codS l.length fun i => codS.enc (l.getD i codS.dft))).length
    fun i => codS.enc ((comF (rowL codS l.length fun i => codS.enc (l.getD i codS.dft))).getD i codS.dft)) (W b) ∧ rnN (fmtS #[(102 : UInt8), (105 : UInt8), (114 : UInt8),
    (115 : UInt8), (116 : UInt8)].toList) (rowL codS (comF (rowL codS l.length fun i => codS.enc (l.getD i codS.dft))).length fun i => codS.enc ((comF (rowL codS l.length
    fun i => codS.enc (l.getD i codS.dft))).getD i codS.dft)) (W b) = rnN (fmtS #[(102 : UInt8), (105 : UInt8), (114 : UInt8), (115 : UInt8), (116 : UInt8)].toList)
    (rowL codS (comF (rowL codS l.length fun i => codS.enc (l.getD i codS.dft))).length fun i => codS.enc ((comF (rowL codS l.length fun i => codS.enc (l.getD i codS.dft))).getD
    i codS.dft)) (W b) ∧ decide (rnN (fmtS #[(102 : UInt8), (105 : UInt8), (114 : UInt8), (115 : UInt8), (116 : UInt8)].toList) (rowL codS (comF (rowL codS l.length
    fun i => codS.enc (l.getD i codS.dft))).length fun i => codS.enc ((comF (rowL codS l.length fun i => codS.enc (l.getD i codS.dft))).getD i codS.dft)) (W b) < (0
    : Int)) = decide (rnN (fmtS #[(102 : UInt8), (105 : UInt8), (114 : UInt8), (115 : UInt8), (116 : UInt8)].toList) (rowL codS (comF (rowL codS l.length fun i => codS.enc
    (l.getD i codS.dft))).length fun i => codS.enc ((comF (rowL codS l.length fun i => codS.enc (l.getD i codS.dft))).getD i codS.dft)) (W b) < (0 : Int)) ∧ True ∧ rnN
    (fmtS #[(102 : UInt8), (105 : UInt8), (114 : UInt8), (115 : UInt8), (116 : UInt8)].toList) (rowL codS (comF (rowL codS l.length fun i => codS.enc (l.getD i codS.dft))).length
    fun i => codS.enc ((comF (rowL codS l.length fun i => codS.enc (l.getD i codS.dft))).getD i codS.dft)) (W b) = rnN (fmtS #[(102 : UInt8), (105 : UInt8), (114 : UInt8),
    (115 : UInt8), (116 : UInt8)].toList) (rowL codS (comF (rowL codS l.length fun i => codS.enc (l.getD i codS.dft))).length fun i => codS.enc ((comF (rowL codS l.length
    fun i => codS.enc (l.getD i codS.dft))).getD i codS.dft)) (W b) ∧ ((comF (rowL codS l.length fun i => codS.enc (l.getD i codS.dft))).length = (comF (rowL codS l.length
    fun i => codS.enc (l.getD i codS.dft))).length ∧ ∀ (i : Nat), i < (comF (rowL codS l.length fun i => codS.enc (l.getD i codS.dft))).length → (comF (rowL codS l.length
    fun i => codS.enc (l.getD i codS.dft))).getD i codS.dft = (comF (rowL codS l.length fun i => codS.enc (l.getD i codS.dft))).getD i codS.dft ∧ True) ∧ Eq (α := Int)
    ↑(comF (rowL codS l.length fun i => codS.enc (l.getD i codS.dft))).length ↑(comF (rowL codS l.length fun i => codS.enc (l.getD i codS.dft))).length ∧ decide (rnN
    (fmtS #[(102 : UInt8), (105 : UInt8), (114 : UInt8), (115 : UInt8), (116 : UInt8)].toList) (rowL codS (comF (rowL codS l.length fun i => codS.enc (l.getD i codS.dft))).length
    fun i => codS.enc ((comF (rowL codS l.length fun i => codS.enc (l.getD i codS.dft))).getD i codS.dft)) (W b) > ↑(comF (rowL codS l.length fun i => codS.enc (l.getD
    i codS.dft))).length) = decide (rnN (fmtS #[(102 : UInt8), (105 : UInt8), (114 : UInt8), (115 : UInt8), (116 : UInt8)].toList) (rowL codS (comF (rowL codS l.length
    fun i => codS.enc (l.getD i codS.dft))).length fun i => codS.enc ((comF (rowL codS l.length fun i => codS.enc (l.getD i codS.dft))).getD i codS.dft)) (W b) > ↑(comF
    (rowL codS l.length fun i => codS.enc (l.getD i codS.dft))).length) ∧ decide (rnN (fmtS #[(102 : UInt8), (105 : UInt8), (114 : UInt8), (115 : UInt8), (116 : UInt8)].toList)
    (rowL codS (comF (rowL codS l.length fun i => codS.enc (l.getD i codS.dft))).length fun i => codS.enc ((comF (rowL codS l.length fun i => codS.enc (l.getD i codS.dft))).getD
    i codS.dft)) (W b) > ↑(comF (rowL codS l.length fun i => codS.enc (l.getD i codS.dft))).length) = decide (rnN (fmtS #[(102 : UInt8), (105 : UInt8), (114 : UInt8),
    (115 : UInt8), (116 : UInt8)].toList) (rowL codS (comF (rowL codS l.length fun i => codS.enc (l.getD i codS.dft))).length fun i => codS.enc ((comF (rowL codS l.length
    fun i => codS.enc (l.getD i codS.dft))).getD i codS.dft)) (W b) > ↑(comF (rowL codS l.length fun i => codS.enc (l.getD i codS.dft))).length) ∧ True ∧ rnE (fmtS #[(102
    : UInt8), (105 : UInt8), (114 : UInt8), (115 : UInt8), (116 : UInt8)].toList) (rowL codS (comF (rowL codS l.length fun i => codS.enc (l.getD i codS.dft))).length
    fun i => codS.enc ((comF (rowL codS l.length fun i => codS.enc (l.getD i codS.dft))).getD i codS.dft)) (W b) = rnE (fmtS #[(102 : UInt8), (105 : UInt8), (114 : UInt8),
    (115 : UInt8), (116 : UInt8)].toList) (rowL codS (comF (rowL codS l.length fun i => codS.enc (l.getD i codS.dft))).length fun i => codS.enc ((comF (rowL codS l.length
    fun i => codS.enc (l.getD i codS.dft))).getD i codS.dft)) (W b) ∧ (rnE (fmtS #[(102 : UInt8), (105 : UInt8), (114 : UInt8), (115 : UInt8), (116 : UInt8)].toList)
    (rowL codS (comF (rowL codS l.length fun i => codS.enc (l.getD i codS.dft))).length fun i => codS.enc ((comF (rowL codS l.length fun i => codS.enc (l.getD i codS.dft))).getD
    i codS.dft)) (W b) == (0 : Int)) = (rnE (fmtS #[(102 : UInt8), (105 : UInt8), (114 : UInt8), (115 : UInt8), (116 : UInt8)].toList) (rowL codS (comF (rowL codS l.length
    fun i => codS.enc (l.getD i codS.dft))).length fun i => codS.enc ((comF (rowL codS l.length fun i => codS.enc (l.getD i codS.dft))).getD i codS.dft)) (W b) == (0
    : Int)) ∧ rnN (fmtS #[(102 : UInt8), (105 : UInt8), (114 : UInt8), (115 : UInt8), (116 : UInt8)].toList) (rowL codS (comF (rowL codS l.length fun i => codS.enc (l.getD
    i codS.dft))).length fun i => codS.enc ((comF (rowL codS l.length fun i => codS.enc (l.getD i codS.dft))).getD i codS.dft)) (W b) = rnN (fmtS #[(102 : UInt8), (105
    : UInt8), (114 : UInt8), (115 : UInt8), (116 : UInt8)].toList) (rowL codS (comF (rowL codS l.length fun i => codS.enc (l.getD i codS.dft))).length fun i => codS.enc
    ((comF (rowL codS l.length fun i => codS.enc (l.getD i codS.dft))).getD i codS.dft)) (W b) ∧ ((comF (rowL codS l.length fun i => codS.enc (l.getD i codS.dft))).length
    = (comF (rowL codS l.length fun i => codS.enc (l.getD i codS.dft))).length ∧ ∀ (i : Nat), i < (comF (rowL codS l.length fun i => codS.enc (l.getD i codS.dft))).length
    → (comF (rowL codS l.length fun i => codS.enc (l.getD i codS.dft))).getD i codS.dft = (comF (rowL codS l.length fun i => codS.enc (l.getD i codS.dft))).getD i codS.dft
    ∧ True) ∧ Eq (α := Int) ↑(comF (rowL codS l.length fun i => codS.enc (l.getD i codS.dft))).length ↑(comF (rowL codS l.length fun i => codS.enc (l.getD i codS.dft))).length
    ∧ (rnN (fmtS #[(102 : UInt8), (105 : UInt8), (114 : UInt8), (115 : UInt8), (116 : UInt8)].toList) (rowL codS (comF (rowL codS l.length fun i => codS.enc (l.getD
    i codS.dft))).length fun i => codS.enc ((comF (rowL codS l.length fun i => codS.enc (l.getD i codS.dft))).getD i codS.dft)) (W b) == ↑(comF (rowL codS l.length fun
    i => codS.enc (l.getD i codS.dft))).length) = (rnN (fmtS #[(102 : UInt8), (105 : UInt8), (114 : UInt8), (115 : UInt8), (116 : UInt8)].toList) (rowL codS (comF (rowL
    codS l.length fun i => codS.enc (l.getD i codS.dft))).length fun i => codS.enc ((comF (rowL codS l.length fun i => codS.enc (l.getD i codS.dft))).getD i codS.dft))
    (W b) == ↑(comF (rowL codS l.length fun i => codS.enc (l.getD i codS.dft))).length) ∧ (!(rnE (fmtS #[(102 : UInt8), (105 : UInt8), (114 : UInt8), (115 : UInt8),
    (116 : UInt8)].toList) (rowL codS (comF (rowL codS l.length fun i => codS.enc (l.getD i codS.dft))).length fun i => codS.enc ((comF (rowL codS l.length fun i =>
    codS.enc (l.getD i codS.dft))).getD i codS.dft)) (W b) == (0 : Int)) == (rnN (fmtS #[(102 : UInt8), (105 : UInt8), (114 : UInt8), (115 : UInt8), (116 : UInt8)].toList)
    (rowL codS (comF (rowL codS l.length fun i => codS.enc (l.getD i codS.dft))).length fun i => codS.enc ((comF (rowL codS l.length fun i => codS.enc (l.getD i codS.dft))).getD
    i codS.dft)) (W b) == ↑(comF (rowL codS l.length fun i => codS.enc (l.getD i codS.dft))).length)) = !(rnE (fmtS #[(102 : UInt8), (105 : UInt8), (114 : UInt8), (115
    : UInt8), (116 : UInt8)].toList) (rowL codS (comF (rowL codS l.length fun i => codS.enc (l.getD i codS.dft))).length fun i => codS.enc ((comF (rowL codS l.length
    fun i => codS.enc (l.getD i codS.dft))).getD i codS.dft)) (W b) == (0 : Int)) == (rnN (fmtS #[(102 : UInt8), (105 : UInt8), (114 : UInt8), (115 : UInt8), (116 :
    UInt8)].toList) (rowL codS (comF (rowL codS l.length fun i => codS.enc (l.getD i codS.dft))).length fun i => codS.enc ((comF (rowL codS l.length fun i => codS.enc
    (l.getD i codS.dft))).getD i codS.dft)) (W b) == ↑(comF (rowL codS l.length fun i => codS.enc (l.getD i codS.dft))).length) ∧ (!(rnE (fmtS #[(102 : UInt8), (105
    : UInt8), (114 : UInt8), (115 : UInt8), (116 : UInt8)].toList) (rowL codS (comF (rowL codS l.length fun i => codS.enc (l.getD i codS.dft))).length fun i => codS.enc
    ((comF (rowL codS l.length fun i => codS.enc (l.getD i codS.dft))).getD i codS.dft)) (W b) == (0 : Int)) == (rnN (fmtS #[(102 : UInt8), (105 : UInt8), (114 : UInt8),
    (115 : UInt8), (116 : UInt8)].toList) (rowL codS (comF (rowL codS l.length fun i => codS.enc (l.getD i codS.dft))).length fun i => codS.enc ((comF (rowL codS l.length
    fun i => codS.enc (l.getD i codS.dft))).getD i codS.dft)) (W b) == ↑(comF (rowL codS l.length fun i => codS.enc (l.getD i codS.dft))).length)) = !(rnE (fmtS #[(102
    : UInt8), (105 : UInt8), (114 : UInt8), (115 : UInt8), (116 : UInt8)].toList) (rowL codS (comF (rowL codS l.length fun i => codS.enc (l.getD i codS.dft))).length
    fun i => codS.enc ((comF (rowL codS l.length fun i => codS.enc (l.getD i codS.dft))).getD i codS.dft)) (W b) == (0 : Int)) == (rnN (fmtS #[(102 : UInt8), (105 :
    UInt8), (114 : UInt8), (115 : UInt8), (116 : UInt8)].toList) (rowL codS (comF (rowL codS l.length fun i => codS.enc (l.getD i codS.dft))).length fun i => codS.enc
    ((comF (rowL codS l.length fun i => codS.enc (l.getD i codS.dft))).getD i codS.dft)) (W b) == ↑(comF (rowL codS l.length fun i => codS.enc (l.getD i codS.dft))).length)
    ∧ True ∧ rnE (fmtS #[(102 : UInt8), (105 : UInt8), (114 : UInt8), (115 : UInt8), (116 : UInt8)].toList) (rowL codS (comF (rowL codS l.length fun i => codS.enc (l.getD
    i codS.dft))).length fun i => codS.enc ((comF (rowL codS l.length fun i => codS.enc (l.getD i codS.dft))).getD i codS.dft)) (W b) = rnE (fmtS #[(102 : UInt8), (105
    : UInt8), (114 : UInt8), (115 : UInt8), (116 : UInt8)].toList) (rowL codS (comF (rowL codS l.length fun i => codS.enc (l.getD i codS.dft))).length fun i => codS.enc
    ((comF (rowL codS l.length fun i => codS.enc (l.getD i codS.dft))).getD i codS.dft)) (W b) ∧ (rnE (fmtS #[(102 : UInt8), (105 : UInt8), (114 : UInt8), (115 : UInt8),
    (116 : UInt8)].toList) (rowL codS (comF (rowL codS l.length fun i => codS.enc (l.getD i codS.dft))).length fun i => codS.enc ((comF (rowL codS l.length fun i =>
    codS.enc (l.getD i codS.dft))).getD i codS.dft)) (W b) != (0 : Int)) = (rnE (fmtS #[(102 : UInt8), (105 : UInt8), (114 : UInt8), (115 : UInt8), (116 : UInt8)].toList)
    (rowL codS (comF (rowL codS l.length fun i => codS.enc (l.getD i codS.dft))).length fun i => codS.enc ((comF (rowL codS l.length fun i => codS.enc (l.getD i codS.dft))).getD
    i codS.dft)) (W b) != (0 : Int)) ∧ True ∧ True ∧ True ∧ True ∧ True ∧ True ∧ True ∧ True ∧ True ∧ True ∧ True ∧ True ∧ True ∧ True ∧ True ∧ True ∧ True ∧ True ∧
    True ∧ True ∧ True ∧ True ∧ True ∧ True ∧ True ∧ True ∧ True ∧ True ∧ True ∧ True ∧ True ∧ True ∧ True ∧ True ∧ True ∧ True ∧ True ∧ True ∧ True ∧ True ∧ True ∧
    True ∧ True ∧ True ∧ True ∧ True ∧ True ∧ True ∧ True ∧ True ∧ True ∧ True ∧ True ∧ True ∧ True ∧ True ∧ True ∧ True ∧ True ∧ True ∧ True ∧ True ∧ True ∧ True ∧
    True ∧ True ∧ True ∧ True ∧ True ∧ True ∧ True ∧ True ∧ True ∧ True ∧ True ∧ True ∧ True ∧ True ∧ True ∧ True ∧ True) ∧ True) ∧ (decide (n_2 < rnN (fmtS #[(102 :
    UInt8), (105 : UInt8), (114 : UInt8), (115 : UInt8), (116 : UInt8)].toList) (rowL codS (comF (rowL codS l.length fun i => codS.enc (l.getD i codS.dft))).length fun
    i => codS.enc ((comF (rowL codS l.length fun i => codS.enc (l.getD i codS.dft))).getD i codS.dft)) (W b)) = false → (decide (n_1 > W b) = true → True ∧ True ∧ True
    ∧ true = false ∧ True) ∧ (decide (n_1 > W b) = false → (decide (rnN (fmtS #[(102 : UInt8), (105 : UInt8), (114 : UInt8), (115 : UInt8), (116 : UInt8)].toList) (rowL
    codS (comF (rowL codS l.length fun i => codS.enc (l.getD i codS.dft))).length fun i => codS.enc ((comF (rowL codS l.length fun i => codS.enc (l.getD i codS.dft))).getD
    i codS.dft)) (W b) < ↑(comF (rowL codS l.length fun i => codS.enc (l.getD i codS.dft))).length) = true → ((0 : Int) ≤ rnN (fmtS #[(102 : UInt8), (105 : UInt8), (114
    : UInt8), (115 : UInt8), (116 : UInt8)].toList) (rowL codS (comF (rowL codS l.length fun i => codS.enc (l.getD i codS.dft))).length fun i => codS.enc ((comF (rowL
    codS l.length fun i => codS.enc (l.getD i codS.dft))).getD i codS.dft)) (W b) ∧ rnN (fmtS #[(102 : UInt8), (105 : UInt8), (114 : UInt8), (115 : UInt8), (116 : UInt8)].toList)
    (rowL codS (comF (rowL codS l.length fun i => codS.enc (l.getD i codS.dft))).length fun i => codS.enc ((comF (rowL codS l.length fun i => codS.enc (l.getD i codS.dft))).getD
    i codS.dft)) (W b) < ↑(comF (rowL codS l.length fun i => codS.enc (l.getD i codS.dft))).length) ∧ True ∧ (decide (W (W (n_1 + ↑((comF (rowL codS l.length fun i =>
    codS.enc (l.getD i codS.dft))).getD (rnN (fmtS #[(102 : UInt8), (105 : UInt8), (114 : UInt8), (115 : UInt8), (116 : UInt8)].toList) (rowL codS (comF (rowL codS l.length
    fun i => codS.enc (l.getD i codS.dft))).length fun i => codS.enc ((comF (rowL codS l.length fun i => codS.enc (l.getD i codS.dft))).getD i codS.dft)) (W b)).toNat
    codS.dft).length) + (8 : Int)) ≤ W b) = true → True ∧ True ∧ true = false ∧ True) ∧ (decide (W (W (n_1 + ↑((comF (rowL codS l.length fun i => codS.enc (l.getD i
    codS.dft))).getD (rnN (fmtS #[(102 : UInt8), (105 : UInt8), (114 : UInt8), (115 : UInt8), (116 : UInt8)].toList) (rowL codS (comF (rowL codS l.length fun i => codS.enc
    (l.getD i codS.dft))).length fun i => codS.enc ((comF (rowL codS l.length fun i => codS.enc (l.getD i codS.dft))).getD i codS.dft)) (W b)).toNat codS.dft).length)
    + (8 : Int)) ≤ W b) = false → True ∧ (True ∧ True) ∧ True ∧ ((curE (rnM (fmtS #[(102 : UInt8), (105 : UInt8), (114 : UInt8), (115 : UInt8), (116 : UInt8)].toList)
    (rowL codS (comF (rowL codS l.length fun i => codS.enc (l.getD i codS.dft))).length fun i => codS.enc ((comF (rowL codS l.length fun i => codS.enc (l.getD i codS.dft))).getD
    i codS.dft)) (W b)) != (0 : Int)) = true → True ∧ True ∧ True ∧ true = false ∧ True) ∧ ((curE (rnM (fmtS #[(102 : UInt8), (105 : UInt8), (114 : UInt8), (115 : UInt8),
    (116 : UInt8)].toList) (rowL codS (comF (rowL codS l.length fun i => codS.enc (l.getD i codS.dft))).length fun i => codS.enc ((comF (rowL codS l.length fun i =>
    codS.enc (l.getD i codS.dft))).getD i codS.dft)) (W b)) != (0 : Int)) = false → True ∧ ((!curD (rnM (fmtS #[(102 : UInt8), (105 : UInt8), (114 : UInt8), (115 : UInt8),
    (116 : UInt8)].toList) (rowL codS (comF (rowL codS l.length fun i => codS.enc (l.getD i codS.dft))).length fun i => codS.enc ((comF (rowL codS l.length fun i =>
    codS.enc (l.getD i codS.dft))).getD i codS.dft)) (W b)) == n) = true → True ∧ True ∧ true = false ∧ True) ∧ ((!curD (rnM (fmtS #[(102 : UInt8), (105 : UInt8), (114
    : UInt8), (115 : UInt8), (116 : UInt8)].toList) (rowL codS (comF (rowL codS l.length fun i => codS.enc (l.getD i codS.dft))).length fun i => codS.enc ((comF (rowL
    codS l.length fun i => codS.enc (l.getD i codS.dft))).getD i codS.dft)) (W b)) == n) = false → True ∧ True ∧ True ∧ ((True ∧ True ∧ True) ∧ #[(97 : UInt8), (103
    : UInt8), (97 : UInt8), (105 : UInt8), (110 : UInt8)].toList.length ≤ (1000000 : Nat) ∧ (-9223372036854775808 : Int) ≤ (13 : Int) ∧ (13 : Int) < (9223372036854775808
    : Int)) ∧ True ∧ True ∧ (True ∧ True) ∧ True ∧ ((cmE (rnM (fmtS #[(102 : UInt8), (105 : UInt8), (114 : UInt8), (115 : UInt8), (116 : UInt8)].toList) (rowL codS (comF
    (rowL codS l.length fun i => codS.enc (l.getD i codS.dft))).length fun i => codS.enc ((comF (rowL codS l.length fun i => codS.enc (l.getD i codS.dft))).getD i codS.dft))
    (W b)) #[(97 : UInt8), (103 : UInt8), (97 : UInt8), (105 : UInt8), (110 : UInt8)].toList (13 : Int) == (0 : Int)) = true → ((curE (cmS (rnM (fmtS #[(102 : UInt8),
    (105 : UInt8), (114 : UInt8), (115 : UInt8), (116 : UInt8)].toList) (rowL codS (comF (rowL codS l.length fun i => codS.enc (l.getD i codS.dft))).length fun i =>
    codS.enc ((comF (rowL codS l.length fun i => codS.enc (l.getD i codS.dft))).getD i codS.dft)) (W b)) #[(97 : UInt8), (103 : UInt8), (97 : UInt8), (105 : UInt8),
    (110 : UInt8)].toList (13 : Int)) == (0 : Int)) = true → ((curD (cmS (rnM (fmtS #[(102 : UInt8), (105 : UInt8), (114 : UInt8), (115 : UInt8), (116 : UInt8)].toList)
    (rowL codS (comF (rowL codS l.length fun i => codS.enc (l.getD i codS.dft))).length fun i => codS.enc ((comF (rowL codS l.length fun i => codS.enc (l.getD i codS.dft))).getD
    i codS.dft)) (W b)) #[(97 : UInt8), (103 : UInt8), (97 : UInt8), (105 : UInt8), (110 : UInt8)].toList (13 : Int)) == #[(97 : UInt8), (103 : UInt8), (97 : UInt8),
    (105 : UInt8), (110 : UInt8)].toList) = true → (True ∧ True) ∧ True ∧ True ∧ true = true ∧ True) ∧ ((curD (cmS (rnM (fmtS #[(102 : UInt8), (105 : UInt8), (114 :
    UInt8), (115 : UInt8), (116 : UInt8)].toList) (rowL codS (comF (rowL codS l.length fun i => codS.enc (l.getD i codS.dft))).length fun i => codS.enc ((comF (rowL
    codS l.length fun i => codS.enc (l.getD i codS.dft))).getD i codS.dft)) (W b)) #[(97 : UInt8), (103 : UInt8), (97 : UInt8), (105 : UInt8), (110 : UInt8)].toList
    (13 : Int)) == #[(97 : UInt8), (103 : UInt8), (97 : UInt8), (105 : UInt8), (110 : UInt8)].toList) = false → True ∧ True ∧ true = false ∧ True)) ∧ ((curE (cmS (rnM
    (fmtS #[(102 : UInt8), (105 : UInt8), (114 : UInt8), (115 : UInt8), (116 : UInt8)].toList) (rowL codS (comF (rowL codS l.length fun i => codS.enc (l.getD i codS.dft))).length
    fun i => codS.enc ((comF (rowL codS l.length fun i => codS.enc (l.getD i codS.dft))).getD i codS.dft)) (W b)) #[(97 : UInt8), (103 : UInt8), (97 : UInt8), (105 :
    UInt8), (110 : UInt8)].toList (13 : Int)) == (0 : Int)) = false → True ∧ True ∧ true = false ∧ True)) ∧ ((cmE (rnM (fmtS #[(102 : UInt8), (105 : UInt8), (114 : UInt8),
    (115 : UInt8), (116 : UInt8)].toList) (rowL codS (comF (rowL codS l.length fun i => codS.enc (l.getD i codS.dft))).length fun i => codS.enc ((comF (rowL codS l.length
    fun i => codS.enc (l.getD i codS.dft))).getD i codS.dft)) (W b)) #[(97 : UInt8), (103 : UInt8), (97 : UInt8), (105 : UInt8), (110 : UInt8)].toList (13 : Int) ==
    (0 : Int)) = false → True ∧ True ∧ true = false ∧ True))))) ∧ (decide (rnN (fmtS #[(102 : UInt8), (105 : UInt8), (114 : UInt8), (115 : UInt8), (116 : UInt8)].toList)
    (rowL codS (comF (rowL codS l.length fun i => codS.enc (l.getD i codS.dft))).length fun i => codS.enc ((comF (rowL codS l.length fun i => codS.enc (l.getD i codS.dft))).getD
    i codS.dft)) (W b) < ↑(comF (rowL codS l.length fun i => codS.enc (l.getD i codS.dft))).length) = false → True ∧ True ∧ (True ∧ True) ∧ True ∧ ((curE (rnM (fmtS
    #[(102 : UInt8), (105 : UInt8), (114 : UInt8), (115 : UInt8), (116 : UInt8)].toList) (rowL codS (comF (rowL codS l.length fun i => codS.enc (l.getD i codS.dft))).length
    fun i => codS.enc ((comF (rowL codS l.length fun i => codS.enc (l.getD i codS.dft))).getD i codS.dft)) (W b)) != (0 : Int)) = true → True ∧ True ∧ True ∧ true =
    false ∧ True) ∧ ((curE (rnM (fmtS #[(102 : UInt8), (105 : UInt8), (114 : UInt8), (115 : UInt8), (116 : UInt8)].toList) (rowL codS (comF (rowL codS l.length fun i
    => codS.enc (l.getD i codS.dft))).length fun i => codS.enc ((comF (rowL codS l.length fun i => codS.enc (l.getD i codS.dft))).getD i codS.dft)) (W b)) != (0 : Int))
    = false → True ∧ ((!curD (rnM (fmtS #[(102 : UInt8), (105 : UInt8), (114 : UInt8), (115 : UInt8), (116 : UInt8)].toList) (rowL codS (comF (rowL codS l.length fun
    i => codS.enc (l.getD i codS.dft))).length fun i => codS.enc ((comF (rowL codS l.length fun i => codS.enc (l.getD i codS.dft))).getD i codS.dft)) (W b)) == n) =
    true → True ∧ True ∧ true = false ∧ True) ∧ ((!curD (rnM (fmtS #[(102 : UInt8), (105 : UInt8), (114 : UInt8), (115 : UInt8), (116 : UInt8)].toList) (rowL codS (comF
    (rowL codS l.length fun i => codS.enc (l.getD i codS.dft))).length fun i => codS.enc ((comF (rowL codS l.length fun i => codS.enc (l.getD i codS.dft))).getD i codS.dft))
    (W b)) == n) = false → True ∧ True ∧ True ∧ ((True ∧ True ∧ True) ∧ #[(97 : UInt8), (103 : UInt8), (97 : UInt8), (105 : UInt8), (110 : UInt8)].toList.length ≤ (1000000
    : Nat) ∧ (-9223372036854775808 : Int) ≤ (13 : Int) ∧ (13 : Int) < (9223372036854775808 : Int)) ∧ True ∧ True ∧ (True ∧ True) ∧ True ∧ ((cmE (rnM (fmtS #[(102 : UInt8),
    (105 : UInt8), (114 : UInt8), (115 : UInt8), (116 : UInt8)].toList) (rowL codS (comF (rowL codS l.length fun i => codS.enc (l.getD i codS.dft))).length fun i =>
    codS.enc ((comF (rowL codS l.length fun i => codS.enc (l.getD i codS.dft))).getD i codS.dft)) (W b)) #[(97 : UInt8), (103 : UInt8), (97 : UInt8), (105 : UInt8),
    (110 : UInt8)].toList (13 : Int) == (0 : Int)) = true → ((curE (cmS (rnM (fmtS #[(102 : UInt8), (105 : UInt8), (114 : UInt8), (115 : UInt8), (116 : UInt8)].toList)
    (rowL codS (comF (rowL codS l.length fun i => codS.enc (l.getD i codS.dft))).length fun i => codS.enc ((comF (rowL codS l.length fun i => codS.enc (l.getD i codS.dft))).getD
    i codS.dft)) (W b)) #[(97 : UInt8), (103 : UInt8), (97 : UInt8), (105 : UInt8), (110 : UInt8)].toList (13 : Int)) == (0 : Int)) = true → ((curD (cmS (rnM (fmtS #[(102
    : UInt8), (105 : UInt8), (114 : UInt8), (115 : UInt8), (116 : UInt8)].toList) (rowL codS (comF (rowL codS l.length fun i => codS.enc (l.getD i codS.dft))).length
    fun i => codS.enc ((comF (rowL codS l.length fun i => codS.enc (l.getD i codS.dft))).getD i codS.dft)) (W b)) #[(97 : UInt8), (103 : UInt8), (97 : UInt8), (105 :
    UInt8), (110 : UInt8)].toList (13 : Int)) == #[(97 : UInt8), (103 : UInt8), (97 : UInt8), (105 : UInt8), (110 : UInt8)].toList) = true → (True ∧ True) ∧ True ∧ True
    ∧ true = true ∧ True) ∧ ((curD (cmS (rnM (fmtS #[(102 : UInt8), (105 : UInt8), (114 : UInt8), (115 : UInt8), (116 : UInt8)].toList) (rowL codS (comF (rowL codS l.length
    fun i => codS.enc (l.getD i codS.dft))).length fun i => codS.enc ((comF (rowL codS l.length fun i => codS.enc (l.getD i codS.dft))).getD i codS.dft)) (W b)) #[(97
    : UInt8), (103 : UInt8), (97 : UInt8), (105 : UInt8), (110 : UInt8)].toList (13 : Int)) == #[(97 : UInt8), (103 : UInt8), (97 : UInt8), (105 : UInt8), (110 : UInt8)].toList)
    = false → True ∧ True ∧ true = false ∧ True)) ∧ ((curE (cmS (rnM (fmtS #[(102 : UInt8), (105 : UInt8), (114 : UInt8), (115 : UInt8), (116 : UInt8)].toList) (rowL
    codS (comF (rowL codS l.length fun i => codS.enc (l.getD i codS.dft))).length fun i => codS.enc ((comF (rowL codS l.length fun i => codS.enc (l.getD i codS.dft))).getD
    i codS.dft)) (W b)) #[(97 : UInt8), (103 : UInt8), (97 : UInt8), (105 : UInt8), (110 : UInt8)].toList (13 : Int)) == (0 : Int)) = false → True ∧ True ∧ true = false
    ∧ True)) ∧ ((cmE (rnM (fmtS #[(102 : UInt8), (105 : UInt8), (114 : UInt8), (115 : UInt8), (116 : UInt8)].toList) (rowL codS (comF (rowL codS l.length fun i => codS.enc
    (l.getD i codS.dft))).length fun i => codS.enc ((comF (rowL codS l.length fun i => codS.enc (l.getD i codS.dft))).getD i codS.dft)) (W b)) #[(97 : UInt8), (103 :
    UInt8), (97 : UInt8), (105 : UInt8), (110 : UInt8)].toList (13 : Int) == (0 : Int)) = false → True ∧ True ∧ true = false ∧ True)))))))))))) = vc9 l b := by kernel_rfl
theorem vc10_eq (l : List Bs) (n : Int) (s : Bs) : (True ∧ True ∧ ((∀ (i : Nat), i < l.length → true = true ∧ True) ∧ (rowL codS l.length fun i => codS.enc (l.getD i codS.dft)).length ≤ (9223372036854775807 : Nat)
    ∧ ∀ (c : List UInt8), (c ∈ rowL codS l.length fun i => codS.enc (l.getD i codS.dft)) → c.length ≤ (9223372036854775807 : Nat)) ∧ True ∧ True ∧ (True ∧ (0 : Nat)
    ≤ (1000000 : Nat) ∧ ∀ (c : List UInt8), Membership.mem (γ := List (List UInt8)) [] c → c.length ≤ (1024 : Nat)) ∧ True ∧ (false = true → True ∧ (true = true → (True
    ∧ True) ∧ True ∧ True ∧ true = true ∧ True) ∧ (true = false → True ∧ True ∧ true = false ∧ True)) ∧ (false = false → True ∧ (decide (↑(List.length s) > (3000 : Int))
    = true → (true = true → (True ∧ True) ∧ True ∧ True ∧ true = true ∧ True) ∧ (true = false → True ∧ True ∧ true = false ∧ True)) ∧ (decide (↑(List.length s) > (3000
    : Int)) = false → True ∧ (((0 : Int) ≤ (0 : Int) ∧ (0 : Int) ≤ (3 : Int)) ∧ ((l.length = l.length ∧ ∀ (i : Nat), i < l.length → l.getD i codS.dft = l.getD i codS.dft
    ∧ True) ∧ n = n ∧ s = s ∧ True ∧ True ∧ True ∧ True ∧ ((comF (rowL codS l.length fun i => codS.enc (l.getD i codS.dft))).length = (comF (rowL codS l.length fun i
    => codS.enc (l.getD i codS.dft))).length ∧ ∀ (i : Nat), i < (comF (rowL codS l.length fun i => codS.enc (l.getD i codS.dft))).length → (comF (rowL codS l.length
    fun i => codS.enc (l.getD i codS.dft))).getD i codS.dft = (comF (rowL codS l.length fun i => codS.enc (l.getD i codS.dft))).getD i codS.dft ∧ True) ∧ madM [] = madM
    [] ∧ true = true ∧ (0 : Int) = (0 : Int) ∧ True ∧ True ∧ True ∧ True ∧ True ∧ True ∧ True ∧ True ∧ True ∧ True ∧ True ∧ True ∧ True ∧ True ∧ True ∧ True ∧ (l.length
    = l.length ∧ ∀ (i : Nat), i < l.length → l.getD i codS.dft = l.getD i codS.dft ∧ True) ∧ ((comF (rowL codS l.length fun i => codS.enc (l.getD i codS.dft))).length
    = (comF (rowL codS l.length fun i => codS.enc (l.getD i codS.dft))).length ∧ ∀ (i : Nat), i < (comF (rowL codS l.length fun i => codS.enc (l.getD i codS.dft))).length
    → (comF (rowL codS l.length fun i => codS.enc (l.getD i codS.dft))).getD i codS.dft = (comF (rowL codS l.length fun i => codS.enc (l.getD i codS.dft))).getD i codS.dft
    ∧ True) ∧ (madM [] = madM [] ∧ true = true ∧ True) ∧ (madM [] = madM [] ∧ true = true ∧ True) ∧ madM [] = madM [] ∧ true = true ∧ true = true ∧ false = false ∧ True
    ∧ s = s ∧ Eq (α := Int) ↑(List.length s) ↑(List.length s) ∧ decide (↑(List.length s) > (3000 : Int)) = decide (↑(List.length s) > (3000 : Int)) ∧ True ∧ True ∧ True
    ∧ True ∧ True ∧ True ∧ True ∧ True ∧ True ∧ True ∧ True ∧ True ∧ True ∧ True ∧ True ∧ True ∧ True ∧ True ∧ True ∧ True ∧ True ∧ True ∧ True ∧ True ∧ True ∧ True
    ∧ True ∧ True ∧ True ∧ True ∧ True ∧ True ∧ True ∧ True ∧ True ∧ True ∧ True ∧ True ∧ True ∧ True ∧ True ∧ True ∧ True ∧ True ∧ True ∧ True ∧ True ∧ True ∧ True
    ∧ True ∧ True ∧ True ∧ True ∧ True ∧ True ∧ True ∧ True ∧ True ∧ True ∧ True ∧ True ∧ True ∧ True ∧ True ∧ True ∧ True ∧ True ∧ True ∧ True ∧ True ∧ True ∧ True
    ∧ True ∧ True ∧ True ∧ True ∧ True ∧ True ∧ True ∧ True ∧ True ∧ True ∧ True ∧ True ∧ True ∧ True ∧ True ∧ True ∧ True ∧ True ∧ True ∧ True ∧ True ∧ True ∧ True
    ∧ True ∧ True ∧ True ∧ True) ∧ True) ∧ ∀ (n_1 : Int), (0 : Int) ≤ n_1 ∧ n_1 ≤ (3 : Int) → True ∧ (decide (n_1 < (3 : Int)) = true → (300 : Int) ≠ (0 : Int) ∧ ((0
    : Int) ≤ n_1 ∧ n_1 < (3 : Int)) ∧ (0 : Nat) + n_1.toNat < (3 : Nat) ∧ True ∧ True ∧ True ∧ True ∧ ((True ∧ (∀ (i : Nat), i < (comF (rowL codS l.length fun i => codS.enc
    (l.getD i codS.dft))).length → true = true ∧ True) ∧ True) ∧ (rowL codS (comF (rowL codS l.length fun i => codS.enc (l.getD i codS.dft))).length fun i => codS.enc
    ((comF (rowL codS l.length fun i => codS.enc (l.getD i codS.dft))).getD i codS.dft)).length ≤ (1000000 : Nat) ∧ (∀ (c : List UInt8), (c ∈ rowL codS (comF (rowL codS
    l.length fun i => codS.enc (l.getD i codS.dft))).length fun i => codS.enc ((comF (rowL codS l.length fun i => codS.enc (l.getD i codS.dft))).getD i codS.dft)) →
    c.length ≤ (1000000 : Nat)) ∧ ((-9223372036854775808 : Int) ≤ if decide ((0 : Nat) + n_1.toNat = (2 : Nat)) = true then (1048576 : Int) else if decide ((0 : Nat)
    + n_1.toNat = (1 : Nat)) = true then n.tmod (300 : Int) else if decide ((0 : Nat) + n_1.toNat = (0 : Nat)) = true then n else (0 : Int)) ∧ (if decide ((0 : Nat)
    + n_1.toNat = (2 : Nat)) = true then (1048576 : Int) else if decide ((0 : Nat) + n_1.toNat = (1 : Nat)) = true then n.tmod (300 : Int) else if decide ((0 : Nat)
    + n_1.toNat = (0 : Nat)) = true then n else (0 : Int)) < (9223372036854775808 : Int)) ∧ True ∧ True ∧ True ∧ True ∧ ((True ∧ (∀ (i : Nat), i < (comF (rowL codS l.length
    fun i => codS.enc (l.getD i codS.dft))).length → true = true ∧ True) ∧ True) ∧ (rowL codS (comF (rowL codS l.length fun i => codS.enc (l.getD i codS.dft))).length
    fun i => codS.enc ((comF (rowL codS l.length fun i => codS.enc (l.getD i codS.dft))).getD i codS.dft)).length ≤ (1000000 : Nat) ∧ (∀ (c : List UInt8), (c ∈ rowL
    codS (comF (rowL codS l.length fun i => codS.enc (l.getD i codS.dft))).length fun i => codS.enc ((comF (rowL codS l.length fun i => codS.enc (l.getD i codS.dft))).getD
    i codS.dft)) → c.length ≤ (1000000 : Nat)) ∧ ((-9223372036854775808 : Int) ≤ if decide ((0 : Nat) + n_1.toNat = (2 : Nat)) = true then (1048576 : Int) else if decide
    ((0 : Nat) + n_1.toNat = (1 : Nat)) = true then n.tmod (300 : Int) else if decide ((0 : Nat) + n_1.toNat = (0 : Nat)) = true then n else (0 : Int)) ∧ (if decide
    ((0 : Nat) + n_1.toNat = (2 : Nat)) = true then (1048576 : Int) else if decide ((0 : Nat) + n_1.toNat = (1 : Nat)) = true then n.tmod (300 : Int) else if decide
    ((0 : Nat) + n_1.toNat = (0 : Nat)) = true then n else (0 : Int)) < (9223372036854775808 : Int)) ∧ True ∧ ((!rnM (madM []) (rowL codS (comF (rowL codS l.length fun
    i => codS.enc (l.getD i codS.dft))).length fun i => codS.enc ((comF (rowL codS l.length fun i => codS.enc (l.getD i codS.dft))).getD i codS.dft)) (if decide ((0
    : Nat) + n_1.toNat = (2 : Nat)) = true then (1048576 : Int) else if decide ((0 : Nat) + n_1.toNat = (1 : Nat)) = true then n.tmod (300 : Int) else if decide ((0
    : Nat) + n_1.toNat = (0 : Nat)) = true then n else (0 : Int)) == rnM (madM []) (rowL codS (comF (rowL codS l.length fun i => codS.enc (l.getD i codS.dft))).length
    fun i => codS.enc ((comF (rowL codS l.length fun i => codS.enc (l.getD i codS.dft))).getD i codS.dft)) (if decide ((0 : Nat) + n_1.toNat = (2 : Nat)) = true then
    (1048576 : Int) else if decide ((0 : Nat) + n_1.toNat = (1 : Nat)) = true then n.tmod (300 : Int) else if decide ((0 : Nat) + n_1.toNat = (0 : Nat)) = true then
    n else (0 : Int))) = true → True ∧ True ∧ True ∧ true = false ∧ True) ∧ ((!rnM (madM []) (rowL codS (comF (rowL codS l.length fun i => codS.enc (l.getD i codS.dft))).length
    fun i => codS.enc ((comF (rowL codS l.length fun i => codS.enc (l.getD i codS.dft))).getD i codS.dft)) (if decide ((0 : Nat) + n_1.toNat = (2 : Nat)) = true then
    (1048576 : Int) else if decide ((0 : Nat) + n_1.toNat = (1 : Nat)) = true then n.tmod (300 : Int) else if decide ((0 : Nat) + n_1.toNat = (0 : Nat)) = true then
    n else (0 : Int)) == rnM (madM []) (rowL codS (comF (rowL codS l.length fun i => codS.enc (l.getD i codS.dft))).length fun i => codS.enc ((comF (rowL codS l.length
    fun i => codS.enc (l.getD i codS.dft))).getD i codS.dft)) (if decide ((0 : Nat) + n_1.toNat = (2 : Nat)) = true then (1048576 : Int) else if decide ((0 : Nat) +
    n_1.toNat = (1 : Nat)) = true then n.tmod (300 : Int) else if decide ((0 : Nat) + n_1.toNat = (0 : Nat)) = true then n else (0 : Int))) = false → ((rnN (madM [])
    (rowL codS (comF (rowL codS l.length fun i => codS.enc (l.getD i codS.dft))).length fun i => codS.enc ((comF (rowL codS l.length fun i => codS.enc (l.getD i codS.dft))).getD
    i codS.dft)) (if decide ((0 : Nat) + n_1.toNat = (2 : Nat)) = true then (1048576 : Int) else if decide ((0 : Nat) + n_1.toNat = (1 : Nat)) = true then n.tmod (300
    : Int) else if decide ((0 : Nat) + n_1.toNat = (0 : Nat)) = true then n else (0 : Int)) != rnN (madM []) (rowL codS (comF (rowL codS l.length fun i => codS.enc (l.getD
    i codS.dft))).length fun i => codS.enc ((comF (rowL codS l.length fun i => codS.enc (l.getD i codS.dft))).getD i codS.dft)) (if decide ((0 : Nat) + n_1.toNat = (2
    : Nat)) = true then (1048576 : Int) else if decide ((0 : Nat) + n_1.toNat = (1 : Nat)) = true then n.tmod (300 : Int) else if decide ((0 : Nat) + n_1.toNat = (0
    : Nat)) = true then n else (0 : Int))) = true → True ∧ True ∧ True ∧ true = false ∧ True) ∧ ((rnN (madM []) (rowL codS (comF (rowL codS l.length fun i => codS.enc
    (l.getD i codS.dft))).length fun i => codS.enc ((comF (rowL codS l.length fun i => codS.enc (l.getD i codS.dft))).getD i codS.dft)) (if decide ((0 : Nat) + n_1.toNat
    = (2 : Nat)) = true then (1048576 : Int) else if decide ((0 : Nat) + n_1.toNat = (1 : Nat)) = true then n.tmod (300 : Int) else if decide ((0 : Nat) + n_1.toNat
    = (0 : Nat)) = true then n else (0 : Int)) != rnN (madM []) (rowL codS (comF (rowL codS l.length fun i => codS.enc (l.getD i codS.dft))).length fun i => codS.enc
    ((comF (rowL codS l.length fun i => codS.enc (l.getD i codS.dft))).getD i codS.dft)) (if decide ((0 : Nat) + n_1.toNat = (2 : Nat)) = true then (1048576 : Int) else
    if decide ((0 : Nat) + n_1.toNat = (1 : Nat)) = true then n.tmod (300 : Int) else if decide ((0 : Nat) + n_1.toNat = (0 : Nat)) = true then n else (0 : Int))) =
    false → True ∧ ((rnE (madM []) (rowL codS (comF (rowL codS l.length fun i => codS.enc (l.getD i codS.dft))).length fun i => codS.enc ((comF (rowL codS l.length fun
    i => codS.enc (l.getD i codS.dft))).getD i codS.dft)) (if decide ((0 : Nat) + n_1.toNat = (2 : Nat)) = true then (1048576 : Int) else if decide ((0 : Nat) + n_1.toNat
    = (1 : Nat)) = true then n.tmod (300 : Int) else if decide ((0 : Nat) + n_1.toNat = (0 : Nat)) = true then n else (0 : Int)) != rnE (madM []) (rowL codS (comF (rowL
    codS l.length fun i => codS.enc (l.getD i codS.dft))).length fun i => codS.enc ((comF (rowL codS l.length fun i => codS.enc (l.getD i codS.dft))).getD i codS.dft))
    (if decide ((0 : Nat) + n_1.toNat = (2 : Nat)) = true then (1048576 : Int) else if decide ((0 : Nat) + n_1.toNat = (1 : Nat)) = true then n.tmod (300 : Int) else
    if decide ((0 : Nat) + n_1.toNat = (0 : Nat)) = true then n else (0 : Int))) = true → True ∧ True ∧ true = false ∧ True) ∧ ((rnE (madM []) (rowL codS (comF (rowL
    codS l.length fun i => codS.enc (l.getD i codS.dft))).length fun i => codS.enc ((comF (rowL codS l.length fun i => codS.enc (l.getD i codS.dft))).getD i codS.dft))
    (if decide ((0 : Nat) + n_1.toNat = (2 : Nat)) = true then (1048576 : Int) else if decide ((0 : Nat) + n_1.toNat = (1 : Nat)) = true then n.tmod (300 : Int) else
    if decide ((0 : Nat) + n_1.toNat = (0 : Nat)) = true then n else (0 : Int)) != rnE (madM []) (rowL codS (comF (rowL codS l.length fun i => codS.enc (l.getD i codS.dft))).length
    fun i => codS.enc ((comF (rowL codS l.length fun i => codS.enc (l.getD i codS.dft))).getD i codS.dft)) (if decide ((0 : Nat) + n_1.toNat = (2 : Nat)) = true then
    (1048576 : Int) else if decide ((0 : Nat) + n_1.toNat = (1 : Nat)) = true then n.tmod (300 : Int) else if decide ((0 : Nat) + n_1.toNat = (0 : Nat)) = true then
    n else (0 : Int))) = false → True ∧ ((0 : Int) ≤ W (n_1 + (1 : Int)) ∧ W (n_1 + (1 : Int)) ≤ (3 : Int)) ∧ ((3 : Int) - W (n_1 + (1 : Int))).toNat < ((3 : Int) -
    n_1).toNat ∧ ((l.length = l.length ∧ ∀ (i : Nat), i < l.length → l.getD i codS.dft = l.getD i codS.dft ∧ True) ∧ n = n ∧ s = s ∧ True ∧ True ∧ True ∧ True ∧ ((comF
    (rowL codS l.length fun i => codS.enc (l.getD i codS.dft))).length = (comF (rowL codS l.length fun i => codS.enc (l.getD i codS.dft))).length ∧ ∀ (i : Nat), i <
    (comF (rowL codS l.length fun i => codS.enc (l.getD i codS.dft))).length → (comF (rowL codS l.length fun i => codS.enc (l.getD i codS.dft))).getD i codS.dft = (comF
    (rowL codS l.length fun i => codS.enc (l.getD i codS.dft))).getD i codS.dft ∧ True) ∧ madM [] = madM [] ∧ true = true ∧ W (n_1 + (1 : Int)) = W (n_1 + (1 : Int))
    ∧ True ∧ True ∧ True ∧ True ∧ True ∧ True ∧ True ∧ True ∧ True ∧ True ∧ True ∧ True ∧ True ∧ True ∧ True ∧ True ∧ (l.length = l.length ∧ ∀ (i : Nat), i < l.length
    → l.getD i codS.dft = l.getD i codS.dft ∧ True) ∧ ((comF (rowL codS l.length fun i => codS.enc (l.getD i codS.dft))).length = (comF (rowL codS l.length fun i =>
    codS.enc (l.getD i codS.dft))).length ∧ ∀ (i : Nat), i < (comF (rowL codS l.length fun i => codS.enc (l.getD i codS.dft))).length → (comF (rowL codS l.length fun
    i => codS.enc (l.getD i codS.dft))).getD i codS.dft = (comF (rowL codS l.length fun i => codS.enc (l.getD i codS.dft))).getD i codS.dft ∧ True) ∧ (madM [] = madM
    [] ∧ true = true ∧ True) ∧ (madM [] = madM [] ∧ true = true ∧ True) ∧ madM [] = madM [] ∧ true = true ∧ true = true ∧ false = false ∧ True ∧ s = s ∧ Eq (α := Int)
    ↑(List.length s) ↑(List.length s) ∧ decide (↑(List.length s) > (3000 : Int)) = decide (↑(List.length s) > (3000 : Int)) ∧ True ∧ True ∧ True ∧ True ∧ True ∧ True
    ∧ True ∧ True ∧ True ∧ True ∧ True ∧ True ∧ True ∧ True ∧ True ∧ True ∧ True ∧ True ∧ True ∧ True ∧ True ∧ True ∧ True ∧ True ∧ True ∧ True ∧ True ∧ True ∧ True
    ∧ True ∧ True ∧ True ∧ True ∧ True ∧ True ∧ True ∧ True ∧ True ∧ True ∧ True ∧ True ∧ True ∧ True ∧ True ∧ True ∧ True ∧ True ∧ True ∧ True ∧ True ∧ True ∧ True
    ∧ True ∧ True ∧ True ∧ True ∧ True ∧ True ∧ True ∧ True ∧ True ∧ True ∧ True ∧ True ∧ True ∧ True ∧ True ∧ True ∧ True ∧ True ∧ True ∧ True ∧ True ∧ True ∧ True
    ∧ True ∧ True ∧ True ∧ True ∧ True ∧ True ∧ True ∧ True ∧ True ∧ True ∧ True ∧ True ∧ True ∧ True ∧ True ∧ True ∧ True ∧ True ∧ True ∧ True ∧ True ∧ True ∧ True
    ∧ True) ∧ True)))) ∧ (decide (n_1 < (3 : Int)) = false → True ∧ True ∧ True ∧ ((True ∧ (∀ (i : Nat), i < (comF (rowL codS l.length fun i => codS.enc (l.getD i codS.dft))).length
    → true = true ∧ True) ∧ True) ∧ (rowL codS (comF (rowL codS l.length fun i => codS.enc (l.getD i codS.dft))).length fun i => codS.enc ((comF (rowL codS l.length
    fun i => codS.enc (l.getD i codS.dft))).getD i codS.dft)).length ≤ (1000000 : Nat) ∧ (∀ (c : List UInt8), (c ∈ rowL codS (comF (rowL codS l.length fun i => codS.enc
    (l.getD i codS.dft))).length fun i => codS.enc ((comF (rowL codS l.length fun i => codS.enc (l.getD i codS.dft))).getD i codS.dft)) → c.length ≤ (1000000 : Nat))
    ∧ (-9223372036854775808 : Int) ≤ n ∧ n < (9223372036854775808 : Int)) ∧ True ∧ True ∧ True ∧ True ∧ ((True ∧ (∀ (i : Nat), i < (comF (rowL codS l.length fun i =>
    codS.enc (l.getD i codS.dft))).length → true = true ∧ True) ∧ True) ∧ (rowL codS (comF (rowL codS l.length fun i => codS.enc (l.getD i codS.dft))).length fun i =>
    codS.enc ((comF (rowL codS l.length fun i => codS.enc (l.getD i codS.dft))).getD i codS.dft)).length ≤ (1000000 : Nat) ∧ (∀ (c : List UInt8), (c ∈ rowL codS (comF
    (rowL codS l.length fun i => codS.enc (l.getD i codS.dft))).length fun i => codS.enc ((comF (rowL codS l.length fun i => codS.enc (l.getD i codS.dft))).getD i codS.dft))
    → c.length ≤ (1000000 : Nat)) ∧ (-9223372036854775808 : Int) ≤ n ∧ n < (9223372036854775808 : Int)) ∧ True ∧ ((1025 : Int) = (1025 : Int) ∧ (0 : Int) ≤ (1025 : Int)
    ∧ (1025 : Int) ≤ (9223372036854775807 : Int) ∧ (1 : Int) * (1025 : Int) ≤ (281474976710656 : Int)) ∧ (0 : Nat) + (1025 : Nat) ≤ (1025 : Nat) ∧ (∀ (j : Nat), j <
    (1025 : Nat) → isByte ((fun (x : Nat) => [SV.int IntKind.u8 (0 : Int)]) ((0 : Nat) + j)) = true) ∧ True ∧ ((0 : Nat) + (2 : Nat) ≤ (2 : Nat) ∧ ∀ (i : Nat), i < (2
    : Nat) → true = true) ∧ True ∧ ((True ∧ (∀ (i : Nat), i < (2 : Nat) → true = true ∧ True) ∧ True) ∧ (2 : Nat) ≤ (1000000 : Nat) ∧ (∀ (c : List UInt8), (c ∈ rowL
    codS (2 : Nat) fun i => (if (2 : Nat) = (1 : Nat) then fun x => [SV.str (bytesOf (1025 : Nat) fun i => [SV.int IntKind.u8 (0 : Int)])] else fun i' => mergeL (decide
    (i' = (1 : Nat))) [SV.str (bytesOf (1025 : Nat) fun i => [SV.int IntKind.u8 (0 : Int)])] ((if (2 : Nat) = (1 : Nat) then fun x => [SV.str #[(97 : UInt8)].toList]
    else fun i' => mergeL (decide (i' = (0 : Nat))) [SV.str #[(97 : UInt8)].toList] [SV.str []]) i')) ((0 : Nat) + i)) → c.length ≤ (1000000 : Nat)) ∧ (-9223372036854775808
    : Int) ≤ (1048576 : Int) ∧ (1048576 : Int) < (9223372036854775808 : Int)) ∧ True ∧ ((rnM s (rowL codS (comF (rowL codS l.length fun i => codS.enc (l.getD i codS.dft))).length
    fun i => codS.enc ((comF (rowL codS l.length fun i => codS.enc (l.getD i codS.dft))).getD i codS.dft)) n == rnM s (rowL codS (comF (rowL codS l.length fun i => codS.enc
    (l.getD i codS.dft))).length fun i => codS.enc ((comF (rowL codS l.length fun i => codS.enc (l.getD i codS.dft))).getD i codS.dft)) n) = true → ((rnN s (rowL codS
    (comF (rowL codS l.length fun i => codS.enc (l.getD i codS.dft))).length fun i => codS.enc ((comF (rowL codS l.length fun i => codS.enc (l.getD i codS.dft))).getD
    i codS.dft)) n == rnN s (rowL codS (comF (rowL codS l.length fun i => codS.enc (l.getD i codS.dft))).length fun i => codS.enc ((comF (rowL codS l.length fun i =>
    codS.enc (l.getD i codS.dft))).getD i codS.dft)) n) = true → ((rnE s (rowL codS (comF (rowL codS l.length fun i => codS.enc (l.getD i codS.dft))).length fun i =>
    codS.enc ((comF (rowL codS l.length fun i => codS.enc (l.getD i codS.dft))).getD i codS.dft)) n == rnE s (rowL codS (comF (rowL codS l.length fun i => codS.enc (l.getD
    i codS.dft))).length fun i => codS.enc ((comF (rowL codS l.length fun i => codS.enc (l.getD i codS.dft))).getD i codS.dft)) n) = true → ((rnM (madM []) (rowL codS
    (2 : Nat) fun i => (if (2 : Nat) = (1 : Nat) then fun x => [SV.str (bytesOf (1025 : Nat) fun i => [SV.int IntKind.u8 (0 : Int)])] else fun i' => mergeL (decide (i'
    = (1 : Nat))) [SV.str (bytesOf (1025 : Nat) fun i => [SV.int IntKind.u8 (0 : Int)])] ((if (2 : Nat) = (1 : Nat) then fun x => [SV.str #[(97 : UInt8)].toList] else
    fun i' => mergeL (decide (i' = (0 : Nat))) [SV.str #[(97 : UInt8)].toList] [SV.str []]) i')) ((0 : Nat) + i)) (1048576 : Int) == Array.toList #[]) = true → (((0
    : Int) == (0 : Int)) = true → (((9 : Int) == (9 : Int)) = true → (True ∧ True) ∧ True ∧ True ∧ true = true ∧ True) ∧ (((9 : Int) == (9 : Int)) = false → True ∧ True
    ∧ true = false ∧ True)) ∧ (((0 : Int) == (0 : Int)) = false → True ∧ True ∧ true = false ∧ True)) ∧ ((rnM (madM []) (rowL codS (2 : Nat) fun i => (if (2 : Nat) =
    (1 : Nat) then fun x => [SV.str (bytesOf (1025 : Nat) fun i => [SV.int IntKind.u8 (0 : Int)])] else fun i' => mergeL (decide (i' = (1 : Nat))) [SV.str (bytesOf (1025
    : Nat) fun i => [SV.int IntKind.u8 (0 : Int)])] ((if (2 : Nat) = (1 : Nat) then fun x => [SV.str #[(97 : UInt8)].toList] else fun i' => mergeL (decide (i' = (0 :
    Nat))) [SV.str #[(97 : UInt8)].toList] [SV.str []]) i')) ((0 : Nat) + i)) (1048576 : Int) == Array.toList #[]) = false → True ∧ True ∧ true = false ∧ True)) ∧ ((rnE
    s (rowL codS (comF (rowL codS l.length fun i => codS.enc (l.getD i codS.dft))).length fun i => codS.enc ((comF (rowL codS l.length fun i => codS.enc (l.getD i codS.dft))).getD
    i codS.dft)) n == rnE s (rowL codS (comF (rowL codS l.length fun i => codS.enc (l.getD i codS.dft))).length fun i => codS.enc ((comF (rowL codS l.length fun i =>
    codS.enc (l.getD i codS.dft))).getD i codS.dft)) n) = false → True ∧ True ∧ true = false ∧ True)) ∧ ((rnN s (rowL codS (comF (rowL codS l.length fun i => codS.enc
    (l.getD i codS.dft))).length fun i => codS.enc ((comF (rowL codS l.length fun i => codS.enc (l.getD i codS.dft))).getD i codS.dft)) n == rnN s (rowL codS (comF (rowL
    codS l.length fun i => codS.enc (l.getD i codS.dft))).length fun i => codS.enc ((comF (rowL codS l.length fun i => codS.enc (l.getD i codS.dft))).getD i codS.dft))
    n) = false → True ∧ True ∧ true = false ∧ True)) ∧ ((rnM s (rowL codS (comF (rowL codS l.length fun i => codS.enc (l.getD i codS.dft))).length fun i => codS.enc
    ((comF (rowL codS l.length fun i => codS.enc (l.getD i codS.dft))).getD i codS.dft)) n == rnM s (rowL codS (comF (rowL codS l.length fun i => codS.enc (l.getD i
    codS.dft))).length fun i => codS.enc ((comF (rowL codS l.length fun i => codS.enc (l.getD i codS.dft))).getD i codS.dft)) n) = false → True ∧ True ∧ true = false
    ∧ True))))) = vc10 l n s := by kernel_rfl
theorem t8 (s : Bs) (n : Int) (hl : s.length ≤ 9223372036854775807) (n0 : 0 ≤ n) (n1 : n < 256) : vc8 s n := by
  rw [← vc8_eq]
  simp [-List.getD_eq_getElem?_getD, W_def, by_def, selfS]
  have fm : ∀ x : Bs, fmtE x = 0 → curE (fmtS x) = 0 ∧ curD (fmtS x) = x := fun x h => by
    have hx : x.length ≤ 1024 := by
      simp only [fmtE] at h
      split at h <;> omega
    have f := fmt_law hx
    exact ⟨f.2.2.1, f.2.2.2.2.2⟩
  have w : ∀ x : Bs, (x.length : Int) ≤ 3000 → 8 + (x.length : Int) = W ((x.length : Int) + 8) := fun x h => by
    rw [W_id (n := (x.length : Int) + 8) (by omega) (by omega)]; omega
  intro i i0 i1 i2
  rw [W_id (n := i + 1) (by omega) (by omega)]
  have st : (0 ≤ i + 1 ∧ i + 1 ≤ 2) ∧ max (2 - (i + 1)) 0 < 2 - i := by omega
  exact ⟨fun _ => ⟨⟨hl, n0, n1⟩, fun _ => st, fun h => ⟨by omega, w _ h, fun _ => ⟨fun g => ⟨(fm _ g).1, fun _ => ⟨(fm _ g).2, fun _ => st⟩⟩, fun _ => st⟩⟩⟩,
    fun _ => ⟨fun _ => st, fun h => ⟨by omega, w _ h, fun _ => ⟨fun g => ⟨(fm _ g).1, fun _ => ⟨(fm _ g).2, fun _ => st⟩⟩, fun _ => st⟩⟩⟩⟩
theorem used_take {l : List Bs} {i : Nat} (h : i < l.length) : usedR (l.take (i + 1)) = usedR (l.take i) + ((l.getD i []).length + 8) := by
  rw [← take_push h, used_push]
theorem t9 (l : List Bs) (b : Int) (hl : l.length ≤ 9223372036854775807) (hc : ∀ c ∈ l, c.length ≤ 9223372036854775807) (b0 : 0 ≤ b) (b1 : b < 65536) : vc9 l b := by
  rw [← vc9_eq]
  simp [-List.getD_eq_getElem?_getD, W_def, by_def, selfS]
  have cl := com_ok l
  have cn := com_len l
  generalize comF l = k at *
  obtain ⟨cl1, cl2⟩ := cl
  have r := run_first cl2 b0
  have wb : W b = b := W_id (by omega) (by omega)
  have fb : ([102, 105, 114, 115, 116] : List UInt8) = firstB := rfl
  rw [fb, wb]
  obtain ⟨r0, r1, r2, r3, r4, r5, r6⟩ := r
  have ag := (cm_law (d := [97, 103, 97, 105, 110]) (b := 13) r3 (by decide))
  have ag2 := ag.2.2.1 (by decide)
  have agE := ag.2.1
  generalize rnN (fmtS firstB) k b = N at *
  generalize rnE (fmtS firstB) k b = e at *
  generalize rnM (fmtS firstB) k b = M at *
  have end_ : ∀ n : Bs, n = wantR k N → (curE M = 0 ∧ (curE M = 0 → curD M = n ∧ (curD M = n → (cmE M [97, 103, 97, 105, 110] 13 = 0 → (curE (cmS M [97, 103, 97, 105, 110] 13) = 0 → curD (cmS M [97, 103, 97, 105, 110] 13) = [97, 103, 97, 105, 110]) ∧ curE (cmS M [97, 103, 97, 105, 110] 13) = 0) ∧ cmE M [97, 103, 97, 105, 110] 13 = 0))) := fun n hn =>
    ⟨r3, fun _ => ⟨by rw [r4, hn], fun _ => ⟨fun _ => ⟨fun _ => ag2.2.1, agE⟩, ag2.1⟩⟩⟩
  have j0 : J9 k N (firstB, 0, 0) := by
    simp only [J9]
    exact ⟨by omega, r0, by simp [wantR], by rw [show (0 : Int).toNat = 0 from rfl, List.take_zero, used_nil]⟩
  have lp : ∀ (n : List UInt8) (u i : Int), J9 k N (n, u, i) →
      (i < N → (0 ≤ i ∧ i < k.length) ∧ J9 k N (k.getD i.toNat [], W (W (u + ((k.getD i.toNat []).length : Int)) + 8), W (i + 1)) ∧ max (N - W (i + 1)) 0 < N - i) ∧
      (N ≤ i → u ≤ b ∧ n = wantR k N ∧ (N < k.length → (0 ≤ N ∧ N < k.length) ∧ b < W (W (u + ((k.getD N.toNat []).length : Int)) + 8))) := fun n u i hJ => by
    simp only [J9] at hJ
    obtain ⟨i0, i1, hn, hu⟩ := hJ
    have ub := used_bd (l := k.take i.toNat) fun c h => cl2 c (List.mem_of_mem_take h)
    rw [← hu, List.length_take] at ub
    refine ⟨fun h => ?_, fun h => ?_⟩
    · have hz := cl2 _ (mem_getD (show i.toNat < k.length by omega))
      rw [W_id (n := u + ((k.getD i.toNat []).length : Int)) (by omega) (by omega), W_id (n := u + ((k.getD i.toNat []).length : Int) + 8) (by omega) (by omega), W_id (n := i + 1) (by omega) (by omega)]
      refine ⟨⟨i0, by omega⟩, ?_, by omega⟩
      simp only [J9]
      refine ⟨by omega, by omega, ?_, ?_⟩
      · simp only [wantR]; rw [if_neg (by omega), show i + 1 - 1 = i by omega]
      · rw [show (i + 1).toNat = i.toNat + 1 by omega, used_take (by omega), ← hu]; omega
    · have e : i = N := by omega
      subst e
      rw [← hu] at r5 r6
      refine ⟨r5, hn, fun h => ⟨⟨i0, h⟩, ?_⟩⟩
      have hz := cl2 _ (mem_getD (show i.toNat < k.length by omega))
      rw [W_id (n := u + ((k.getD i.toNat []).length : Int)) (by omega) (by omega), W_id (n := u + ((k.getD i.toNat []).length : Int) + 8) (by omega) (by omega)]
      exact r6 h
  have eq : (e == 0) = (N == (k.length : Int)) := by
    rcases r2 with ⟨x, y⟩ | ⟨x, y⟩
    · rw [x, y]; simp
    · have : ¬ N = k.length := by omega
      rw [x]; simp [this]
  have c61 : ¬ e = 0 → e = 61 := fun h => by omega
  have body : J9 k N (firstB, 0, 0) ∧ ∀ (n : List UInt8) (u i : Int), J9 k N (n, u, i) →
      (i < N → (0 ≤ i ∧ i < k.length) ∧ J9 k N (k.getD i.toNat [], W (W (u + ((k.getD i.toNat []).length : Int)) + 8), W (i + 1)) ∧ max (N - W (i + 1)) 0 < N - i) ∧
      (N ≤ i → u ≤ b ∧ (u ≤ b → (N < k.length → (0 ≤ N ∧ N < k.length) ∧ b < W (W (u + ((k.getD N.toNat []).length : Int)) + 8) ∧ (b < W (W (u + ((k.getD N.toNat []).length : Int)) + 8) →
        curE M = 0 ∧ (curE M = 0 → curD M = n ∧ (curD M = n → (cmE M [97, 103, 97, 105, 110] 13 = 0 → (curE (cmS M [97, 103, 97, 105, 110] 13) = 0 → curD (cmS M [97, 103, 97, 105, 110] 13) = [97, 103, 97, 105, 110]) ∧ curE (cmS M [97, 103, 97, 105, 110] 13) = 0) ∧ cmE M [97, 103, 97, 105, 110] 13 = 0)))) ∧
        ((k.length : Int) ≤ N → curE M = 0 ∧ (curE M = 0 → curD M = n ∧ (curD M = n → (cmE M [97, 103, 97, 105, 110] 13 = 0 → (curE (cmS M [97, 103, 97, 105, 110] 13) = 0 → curD (cmS M [97, 103, 97, 105, 110] 13) = [97, 103, 97, 105, 110]) ∧ curE (cmS M [97, 103, 97, 105, 110] 13) = 0) ∧ cmE M [97, 103, 97, 105, 110] 13 = 0))))) := by
    refine ⟨j0, fun n u i hJ => ⟨fun h => (lp n u i hJ).1 h, fun h => ?_⟩⟩
    obtain ⟨p1, p2, p3⟩ := (lp n u i hJ).2 h
    exact ⟨p1, fun _ => ⟨fun g => ⟨(p3 g).1, (p3 g).2, fun _ => end_ n p2⟩, fun _ => end_ n p2⟩⟩
  exact ⟨⟨hl, hc⟩, ⟨cl1, fun c h => by have := cl2 c h; omega, by omega, by omega⟩, r0, fun _ => ⟨r1, fun _ => ⟨eq, fun _ => ⟨fun h => ⟨c61 h, fun _ => body⟩, fun _ => body⟩⟩⟩⟩
theorem two_rows (x : Bs) : (rowL codS 2 fun i => mergeL (decide (i = 1)) [SV.str x] (mergeL (decide (i = 0)) [SV.str [97]] [SV.str []])) = [[97], x] := rfl
theorem t10 (l : List Bs) (n : Int) (s : Bs) (hl : l.length ≤ 9223372036854775807) (hc : ∀ c ∈ l, c.length ≤ 9223372036854775807) (n0 : -9223372036854775808 ≤ n) (n1 : n < 9223372036854775808) (hs : s.length ≤ 9223372036854775807) : vc10 l n s := by
  rw [← vc10_eq]
  simp [-List.getD_eq_getElem?_getD, W_def, by_def, selfS]
  have cl := com_ok l
  have cn := com_len l
  generalize comF l = k at *
  obtain ⟨cl1, cl2⟩ := cl
  have cb : ∀ c ∈ k, c.length ≤ 1000000 := fun c h => by have := cl2 c h; omega
  have zl : (bytesOf 1025 fun i => [SV.int IntKind.u8 0]).length = 1025 := by simp [bytesOf]
  rw [two_rows]
  generalize (bytesOf 1025 fun i => [SV.int IntKind.u8 0]) = z at *
  refine ⟨⟨hl, hc⟩, fun _ i i0 i1 => ⟨fun h => ⟨⟨i0, h⟩, h, ⟨cl1, cb, ?_⟩, ?_⟩, fun _ => ⟨⟨cl1, cb, n0, n1⟩, fun _ _ => rfl, fun c h => ?_, ?_⟩⟩⟩
  · have q1 : n.tmod 300 < 300 := Int.tmod_lt_of_pos n (by omega)
    have q2 : -300 < n.tmod 300 := Int.lt_tmod_of_pos n (by omega)
    repeat' split
    all_goals omega
  · rw [W_id (n := i + 1) (by omega) (by omega)]; omega
  · simp only [List.mem_cons, List.not_mem_nil, or_false] at h
    rcases h with rfl | rfl
    · decide
    · omega
  · have f := fmt_law first_len
    rw [mad_nil]
    exact (run_long (c := [97]) (d := z) (b := 1048576) f.2.2.1 (by decide) (by decide) (by omega)).1
end Go.Proofs.Nv
