import Derived.Test.YtjmjndfdociiiaaDoM
namespace Go.Proofs.Do
set_option linter.unusedVariables false
set_option linter.unusedSimpArgs false
open Go Go.Sx Go.Proofs
set_option maxRecDepth 100000
set_option maxHeartbeats 8000000
-- SAME: sm
-- ABBR: (∀ (i : Nat), i < (16 : Nat) → true = true) ==> t16
-- ABBR: IntKind.i64.wrap ==> W
-- ROWS: rowL (codI IntKind.u64) (16 : Nat) fun j => [SV.int IntKind.u64 ( ==> .getD j (0 : Int) ==> rr
-- KEEP: Go.Proofs.Do.fillS
-- ABBR2: bldS (W (k.tmod (6 : Int))) { low := rr (fillS (1 : Int)).low, high := rr (fillS (1 : Int)).high : Fr } { low := rr (fillS (2 : Int)).low, high := rr (fillS (2 : Int)).high : Fr } n_1 (W (W (n.tmod (30 : Int)) + (1 : Int))) ==> F6 k n n_1
noncomputable def F6 (k n i : Int) : Fr := bldS (W (k.tmod 6)) ⟨rr (fillS 1).low, rr (fillS 1).high⟩ ⟨rr (fillS 2).low, rr (fillS 2).high⟩ i (W (W (n.tmod 30) + 1))
noncomputable def lastS (k i n : Int) : Fr := if i = 0 then fillS 1 else bldS k (fillS 1) (fillS 2) (i - 1) n
attribute [irreducible] lastS
noncomputable def L6 (k n i : Int) (lo hi : List Int) : Prop := 0 ≤ i ∧ i ≤ n + 1 ∧ (⟨lo, hi⟩ : Fr) = lastS k i n
attribute [irreducible] L6
noncomputable def A6 (k n : Int) : List Ann := [⟨.unit, .list [.int .i64 (.tm 10), .arrL (codI .u64) 16 2 0, .arrL (codI .u64) 16 2 1], fun _ (x : X3) => L6 (k.tmod 6) (n.tmod 30 + 1) x.1 x.2.1 x.2.2, fun _ (x : X3) => (n.tmod 30 + 2 - x.1).toNat⟩,
  ⟨.unit, .int .i64 (.tm 13), fun _ (y : Int) => 0 ≤ y ∧ y ≤ 16, fun _ (y : Int) => (16 - y).toNat⟩,
  ⟨.int .i64 (.tm 13), .int .i64 (.tm 14), fun (y x : Int) => 0 ≤ x ∧ x ≤ 64, fun (y x : Int) => (64 - x).toNat⟩]
noncomputable def vc6 (k n : Int) : Prop := cva T16 Try.f6 (A6 k n) [.int .u8 k, .int .u8 n] (.bool true)
theorem vc6_eq (k n : Int) : (True ∧ (6 : Int) ≠ (0 : Int) ∧ (30 : Int) ≠ (0 : Int) ∧ True ∧ True ∧ (True ∧ True) ∧ True ∧ (True ∧ True) ∧ t16 ∧ t16 ∧ t16 ∧ t16 ∧ True ∧ t16 ∧ t16 ∧ True ∧ True
    ∧ (L6 (k.tmod (6 : Int)) (n.tmod (30 : Int) + (1 : Int)) (0 : Int) (rr (fillS (1 : Int)).low) (rr (fillS (1 : Int)).high) ∧ (k = k ∧ n = n ∧ True ∧ True ∧ True ∧
    sm (W (k.tmod (6 : Int))) ∧ sm (W (W (n.tmod (30 : Int)) + (1 : Int))) ∧ True ∧ True ∧ True ∧ sm ((0 : Int)) ∧ True ∧ True ∧ True ∧ True ∧ True ∧ k = k ∧ sm (k.tmod
    (6 : Int)) ∧ sm (W (k.tmod (6 : Int))) ∧ n = n ∧ sm (n.tmod (30 : Int)) ∧ sm (W (n.tmod (30 : Int))) ∧ sm (W (W (n.tmod (30 : Int)) + (1 : Int))) ∧ ((sm ((16 : Nat))
    ∧ sm ((1 : Nat)) ∧ ∀ (i : Nat), i < (16 : Nat) → sm ((fillS (1 : Int)).low.getD i (0 : Int)) ∧ True) ∧ (sm ((16 : Nat)) ∧ sm ((1 : Nat)) ∧ ∀ (i : Nat), i < (16 :
    Nat) → sm ((fillS (1 : Int)).high.getD i (0 : Int)) ∧ True) ∧ True) ∧ ((sm ((16 : Nat)) ∧ sm ((1 : Nat)) ∧ ∀ (i : Nat), i < (16 : Nat) → sm ((fillS (2 : Int)).low.getD
    i (0 : Int)) ∧ True) ∧ (sm ((16 : Nat)) ∧ sm ((1 : Nat)) ∧ ∀ (i : Nat), i < (16 : Nat) → sm ((fillS (2 : Int)).high.getD i (0 : Int)) ∧ True) ∧ True) ∧ ((sm ((16
    : Nat)) ∧ sm ((0 : Nat) + (1 : Nat)) ∧ ∀ (i : Nat), i < (16 : Nat) → sm ((fillS (1 : Int)).low.getD i (0 : Int)) ∧ True) ∧ (sm ((16 : Nat)) ∧ sm ((0 : Nat) + (1
    : Nat)) ∧ ∀ (i : Nat), i < (16 : Nat) → sm ((fillS (1 : Int)).high.getD i (0 : Int)) ∧ True) ∧ True) ∧ True ∧ True ∧ True ∧ True ∧ True ∧ True ∧ True ∧ True ∧ True
    ∧ True ∧ True ∧ True ∧ True ∧ True ∧ True ∧ True ∧ True ∧ True ∧ True ∧ True ∧ True ∧ True ∧ True ∧ True ∧ True ∧ True ∧ True ∧ True ∧ True ∧ True ∧ True ∧ True
    ∧ True ∧ True ∧ True ∧ True ∧ True ∧ True ∧ True ∧ True ∧ True ∧ True ∧ True ∧ True ∧ True ∧ True ∧ True ∧ True ∧ True ∧ True ∧ True ∧ True ∧ True ∧ True ∧ True
    ∧ True ∧ True ∧ True ∧ True ∧ True ∧ True ∧ True ∧ True ∧ True) ∧ ((if false = true then [] else List.map Seg.shape ([Seg.a (16 : Nat) (1 : Nat) fun x => [SV.int
    IntKind.u64 (0 : Int)]] ++ ([Seg.a (16 : Nat) (1 : Nat) fun x => [SV.int IntKind.u64 (0 : Int)]] ++ []))) = if false = true then [] else List.map Seg.shape ([Seg.a
    (16 : Nat) (1 : Nat) fun x => [SV.int IntKind.u64 (0 : Int)]] ++ ([Seg.a (16 : Nat) (1 : Nat) fun x => [SV.int IntKind.u64 (0 : Int)]] ++ []))) ∧ ((sm ((16 : Nat))
    ∧ sm ((1 : Nat)) ∧ ∀ (i : Nat), i < (16 : Nat) → sm ((fillS (1 : Int)).low.getD i (0 : Int)) ∧ True) ∧ (sm ((16 : Nat)) ∧ sm ((1 : Nat)) ∧ ∀ (i : Nat), i < (16 :
    Nat) → sm ((fillS (1 : Int)).high.getD i (0 : Int)) ∧ True) ∧ True) ∧ ((if false = true then [] else List.map Seg.shape ([Seg.a (16 : Nat) (1 : Nat) fun x => [SV.int
    IntKind.u64 (0 : Int)]] ++ ([Seg.a (16 : Nat) (1 : Nat) fun x => [SV.int IntKind.u64 (0 : Int)]] ++ []))) = if false = true then [] else List.map Seg.shape ([Seg.a
    (16 : Nat) (1 : Nat) fun x => [SV.int IntKind.u64 (0 : Int)]] ++ ([Seg.a (16 : Nat) (1 : Nat) fun x => [SV.int IntKind.u64 (0 : Int)]] ++ []))) ∧ ((sm ((16 : Nat))
    ∧ sm ((1 : Nat)) ∧ ∀ (i : Nat), i < (16 : Nat) → sm ((fillS (2 : Int)).low.getD i (0 : Int)) ∧ True) ∧ (sm ((16 : Nat)) ∧ sm ((1 : Nat)) ∧ ∀ (i : Nat), i < (16 :
    Nat) → sm ((fillS (2 : Int)).high.getD i (0 : Int)) ∧ True) ∧ True) ∧ ((if false = true then [] else List.map Seg.shape ([Seg.a (16 : Nat) (1 : Nat) fun x => [SV.int
    IntKind.u64 (0 : Int)]] ++ ([Seg.a (16 : Nat) (1 : Nat) fun x => [SV.int IntKind.u64 (0 : Int)]] ++ []))) = if false = true then [] else List.map Seg.shape ([Seg.a
    (16 : Nat) (1 : Nat) fun x => [SV.int IntKind.u64 (0 : Int)]] ++ ([Seg.a (16 : Nat) (1 : Nat) fun x => [SV.int IntKind.u64 (0 : Int)]] ++ []))) ∧ ((sm ((16 : Nat))
    ∧ (0 : Nat) + (1 : Nat) = (codI IntKind.u64).n ∧ ∀ (i : Nat), i < (16 : Nat) → (fillS (1 : Int)).low.getD i (0 : Int) = (rr (fillS (1 : Int)).low).getD i (codI IntKind.u64).dft
    ∧ True) ∧ (sm ((16 : Nat)) ∧ (0 : Nat) + (1 : Nat) = (codI IntKind.u64).n ∧ ∀ (i : Nat), i < (16 : Nat) → (fillS (1 : Int)).high.getD i (0 : Int) = (rr (fillS (1
    : Int)).high).getD i (codI IntKind.u64).dft ∧ True) ∧ True) ∧ True) ∧ ∀ (n_1 : Int) (l l_1 : List Int), L6 (k.tmod (6 : Int)) (n.tmod (30 : Int) + (1 : Int)) n_1
    l l_1 → True ∧ (decide (n_1 ≤ W (W (n.tmod (30 : Int)) + (1 : Int))) = true → True ∧ (t16 ∧ t16 ∧ True) ∧ (t16 ∧ t16 ∧ True) ∧ True ∧ True ∧ ((True ∧ ((∀ (i : Nat),
    i < (16 : Nat) → true = true ∧ True) ∧ ∀ (i : Nat), i < (16 : Nat) → true = true ∧ True) ∧ ((∀ (i : Nat), i < (16 : Nat) → true = true ∧ True) ∧ ∀ (i : Nat), i <
    (16 : Nat) → true = true ∧ True) ∧ True ∧ True) ∧ okF { low := rr (fillS (1 : Int)).low, high := rr (fillS (1 : Int)).high : Fr } ∧ okF { low := rr (fillS (2 : Int)).low, high := rr (fillS (2 : Int)).high : Fr })
    ∧ t16 ∧ t16 ∧ True ∧ ((bldE (W (k.tmod (6 : Int))) (W (W (n.tmod (30 : Int)) + (1 : Int))) != (0 : Int)) = true → True ∧ True ∧ True ∧ true = false ∧ True) ∧ ((bldE
    (W (k.tmod (6 : Int))) (W (W (n.tmod (30 : Int)) + (1 : Int))) != (0 : Int)) = false → ((n_1 == (0 : Int)) = true → ((t16 ∧ t16 ∧ True) ∧ t16 ∧ t16 ∧ True) ∧ ((!eqSegs
    [Seg.a (16 : Nat) ((0 : Nat) + (1 : Nat)) fun j => [SV.int IntKind.u64 ((F6 k n n_1).low.getD j (0 : Int))], Seg.a (16 : Nat) ((0 : Nat) + (1 : Nat)) fun j => [SV.int
    IntKind.u64 ((F6 k n n_1).high.getD j (0 : Int))]] [Seg.a (16 : Nat) ((0 : Nat) + (1 : Nat)) fun j => [SV.int IntKind.u64 ((fillS (1 : Int)).low.getD j (0 : Int))],
    Seg.a (16 : Nat) ((0 : Nat) + (1 : Nat)) fun j => [SV.int IntKind.u64 ((fillS (1 : Int)).high.getD j (0 : Int))]]) = true → True ∧ True ∧ True ∧ true = false ∧ True)
    ∧ ((!eqSegs [Seg.a (16 : Nat) ((0 : Nat) + (1 : Nat)) fun j => [SV.int IntKind.u64 ((F6 k n n_1).low.getD j (0 : Int))], Seg.a (16 : Nat) ((0 : Nat) + (1 : Nat))
    fun j => [SV.int IntKind.u64 ((F6 k n n_1).high.getD j (0 : Int))]] [Seg.a (16 : Nat) ((0 : Nat) + (1 : Nat)) fun j => [SV.int IntKind.u64 ((fillS (1 : Int)).low.getD
    j (0 : Int))], Seg.a (16 : Nat) ((0 : Nat) + (1 : Nat)) fun j => [SV.int IntKind.u64 ((fillS (1 : Int)).high.getD j (0 : Int))]]) = false → ((n_1 == W (W (n.tmod
    (30 : Int)) + (1 : Int))) = true → ((t16 ∧ t16 ∧ True) ∧ t16 ∧ t16 ∧ True) ∧ True ∧ ((!eqSegs [Seg.a (16 : Nat) ((0 : Nat) + (1 : Nat)) fun j => [SV.int IntKind.u64
    ((F6 k n n_1).low.getD j (0 : Int))], Seg.a (16 : Nat) ((0 : Nat) + (1 : Nat)) fun j => [SV.int IntKind.u64 ((F6 k n n_1).high.getD j (0 : Int))]] [Seg.a (16 : Nat)
    ((0 : Nat) + (1 : Nat)) fun j => [SV.int IntKind.u64 ((fillS (2 : Int)).low.getD j (0 : Int))], Seg.a (16 : Nat) ((0 : Nat) + (1 : Nat)) fun j => [SV.int IntKind.u64
    ((fillS (2 : Int)).high.getD j (0 : Int))]]) = true → True ∧ True ∧ true = false ∧ True) ∧ ((!eqSegs [Seg.a (16 : Nat) ((0 : Nat) + (1 : Nat)) fun j => [SV.int IntKind.u64
    ((F6 k n n_1).low.getD j (0 : Int))], Seg.a (16 : Nat) ((0 : Nat) + (1 : Nat)) fun j => [SV.int IntKind.u64 ((F6 k n n_1).high.getD j (0 : Int))]] [Seg.a (16 : Nat)
    ((0 : Nat) + (1 : Nat)) fun j => [SV.int IntKind.u64 ((fillS (2 : Int)).low.getD j (0 : Int))], Seg.a (16 : Nat) ((0 : Nat) + (1 : Nat)) fun j => [SV.int IntKind.u64
    ((fillS (2 : Int)).high.getD j (0 : Int))]]) = false → True ∧ (((0 : Int) ≤ (0 : Int) ∧ (0 : Int) ≤ (16 : Int)) ∧ (k = k ∧ n = n ∧ True ∧ True ∧ True ∧ sm (W (k.tmod
    (6 : Int))) ∧ sm (W (W (n.tmod (30 : Int)) + (1 : Int))) ∧ True ∧ True ∧ True ∧ n_1 = n_1 ∧ True ∧ sm (bldE (W (k.tmod (6 : Int))) (W (W (n.tmod (30 : Int)) + (1
    : Int)))) ∧ sm ((0 : Int)) ∧ True ∧ True ∧ k = k ∧ sm (k.tmod (6 : Int)) ∧ sm (W (k.tmod (6 : Int))) ∧ n = n ∧ sm (n.tmod (30 : Int)) ∧ sm (W (n.tmod (30 : Int)))
    ∧ sm (W (W (n.tmod (30 : Int)) + (1 : Int))) ∧ ((sm ((16 : Nat)) ∧ sm ((1 : Nat)) ∧ ∀ (i : Nat), i < (16 : Nat) → sm ((fillS (1 : Int)).low.getD i (0 : Int)) ∧ True)
    ∧ (sm ((16 : Nat)) ∧ sm ((1 : Nat)) ∧ ∀ (i : Nat), i < (16 : Nat) → sm ((fillS (1 : Int)).high.getD i (0 : Int)) ∧ True) ∧ True) ∧ ((sm ((16 : Nat)) ∧ sm ((1 : Nat))
    ∧ ∀ (i : Nat), i < (16 : Nat) → sm ((fillS (2 : Int)).low.getD i (0 : Int)) ∧ True) ∧ (sm ((16 : Nat)) ∧ sm ((1 : Nat)) ∧ ∀ (i : Nat), i < (16 : Nat) → sm ((fillS
    (2 : Int)).high.getD i (0 : Int)) ∧ True) ∧ True) ∧ ((sm ((16 : Nat)) ∧ sm ((0 : Nat) + (1 : Nat)) ∧ ∀ (i : Nat), i < (16 : Nat) → sm ((fillS (1 : Int)).low.getD
    i (0 : Int)) ∧ True) ∧ (sm ((16 : Nat)) ∧ sm ((0 : Nat) + (1 : Nat)) ∧ ∀ (i : Nat), i < (16 : Nat) → sm ((fillS (1 : Int)).high.getD i (0 : Int)) ∧ True) ∧ True)
    ∧ n_1 = n_1 ∧ sm (W (W (n.tmod (30 : Int)) + (1 : Int))) ∧ True ∧ True ∧ True ∧ (((sm ((16 : Nat)) ∧ sm ((1 : Nat)) ∧ ∀ (i : Nat), i < (16 : Nat) → sm ((F6 k n n_1).low.getD
    i (0 : Int)) ∧ True) ∧ (sm ((16 : Nat)) ∧ sm ((1 : Nat)) ∧ ∀ (i : Nat), i < (16 : Nat) → sm ((F6 k n n_1).high.getD i (0 : Int)) ∧ True) ∧ True) ∧ sm (bldE (W (k.tmod
    (6 : Int))) (W (W (n.tmod (30 : Int)) + (1 : Int)))) ∧ True) ∧ sm (W (k.tmod (6 : Int))) ∧ ((sm ((16 : Nat)) ∧ sm ((0 : Nat) + (1 : Nat)) ∧ ∀ (i : Nat), i < (16
    : Nat) → sm ((fillS (1 : Int)).low.getD i (0 : Int)) ∧ True) ∧ (sm ((16 : Nat)) ∧ sm ((0 : Nat) + (1 : Nat)) ∧ ∀ (i : Nat), i < (16 : Nat) → sm ((fillS (1 : Int)).high.getD
    i (0 : Int)) ∧ True) ∧ True) ∧ ((sm ((16 : Nat)) ∧ sm ((0 : Nat) + (1 : Nat)) ∧ ∀ (i : Nat), i < (16 : Nat) → sm ((fillS (2 : Int)).low.getD i (0 : Int)) ∧ True)
    ∧ (sm ((16 : Nat)) ∧ sm ((0 : Nat) + (1 : Nat)) ∧ ∀ (i : Nat), i < (16 : Nat) → sm ((fillS (2 : Int)).high.getD i (0 : Int)) ∧ True) ∧ True) ∧ n_1 = n_1 ∧ sm (W
    (W (n.tmod (30 : Int)) + (1 : Int))) ∧ (((sm ((16 : Nat)) ∧ sm ((1 : Nat)) ∧ ∀ (i : Nat), i < (16 : Nat) → sm ((F6 k n n_1).low.getD i (0 : Int)) ∧ True) ∧ (sm ((16
    : Nat)) ∧ sm ((1 : Nat)) ∧ ∀ (i : Nat), i < (16 : Nat) → sm ((F6 k n n_1).high.getD i (0 : Int)) ∧ True) ∧ True) ∧ sm (bldE (W (k.tmod (6 : Int))) (W (W (n.tmod
    (30 : Int)) + (1 : Int)))) ∧ True) ∧ ((sm ((16 : Nat)) ∧ sm ((1 : Nat)) ∧ ∀ (i : Nat), i < (16 : Nat) → sm ((F6 k n n_1).low.getD i (0 : Int)) ∧ True) ∧ (sm ((16
    : Nat)) ∧ sm ((1 : Nat)) ∧ ∀ (i : Nat), i < (16 : Nat) → sm ((F6 k n n_1).high.getD i (0 : Int)) ∧ True) ∧ True) ∧ sm (bldE (W (k.tmod (6 : Int))) (W (W (n.tmod
    (30 : Int)) + (1 : Int)))) ∧ sm (bldE (W (k.tmod (6 : Int))) (W (W (n.tmod (30 : Int)) + (1 : Int)))) ∧ sm ((bldE (W (k.tmod (6 : Int))) (W (W (n.tmod (30 : Int))
    + (1 : Int))) != (0 : Int))) ∧ True ∧ n_1 = n_1 ∧ sm ((n_1 == (0 : Int))) ∧ True ∧ ((sm ((16 : Nat)) ∧ sm ((0 : Nat) + (1 : Nat)) ∧ ∀ (i : Nat), i < (16 : Nat) →
    sm ((F6 k n n_1).low.getD i (0 : Int)) ∧ True) ∧ (sm ((16 : Nat)) ∧ sm ((0 : Nat) + (1 : Nat)) ∧ ∀ (i : Nat), i < (16 : Nat) → sm ((F6 k n n_1).high.getD i (0 :
    Int)) ∧ True) ∧ True) ∧ ((sm ((16 : Nat)) ∧ sm ((0 : Nat) + (1 : Nat)) ∧ ∀ (i : Nat), i < (16 : Nat) → sm ((fillS (1 : Int)).low.getD i (0 : Int)) ∧ True) ∧ (sm
    ((16 : Nat)) ∧ sm ((0 : Nat) + (1 : Nat)) ∧ ∀ (i : Nat), i < (16 : Nat) → sm ((fillS (1 : Int)).high.getD i (0 : Int)) ∧ True) ∧ True) ∧ sm (!eqSegs [Seg.a (16 :
    Nat) ((0 : Nat) + (1 : Nat)) fun j => [SV.int IntKind.u64 ((F6 k n n_1).low.getD j (0 : Int))], Seg.a (16 : Nat) ((0 : Nat) + (1 : Nat)) fun j => [SV.int IntKind.u64
    ((F6 k n n_1).high.getD j (0 : Int))]] [Seg.a (16 : Nat) ((0 : Nat) + (1 : Nat)) fun j => [SV.int IntKind.u64 ((fillS (1 : Int)).low.getD j (0 : Int))], Seg.a (16
    : Nat) ((0 : Nat) + (1 : Nat)) fun j => [SV.int IntKind.u64 ((fillS (1 : Int)).high.getD j (0 : Int))]]) ∧ sm (!eqSegs [Seg.a (16 : Nat) ((0 : Nat) + (1 : Nat))
    fun j => [SV.int IntKind.u64 ((F6 k n n_1).low.getD j (0 : Int))], Seg.a (16 : Nat) ((0 : Nat) + (1 : Nat)) fun j => [SV.int IntKind.u64 ((F6 k n n_1).high.getD
    j (0 : Int))]] [Seg.a (16 : Nat) ((0 : Nat) + (1 : Nat)) fun j => [SV.int IntKind.u64 ((fillS (1 : Int)).low.getD j (0 : Int))], Seg.a (16 : Nat) ((0 : Nat) + (1
    : Nat)) fun j => [SV.int IntKind.u64 ((fillS (1 : Int)).high.getD j (0 : Int))]]) ∧ sm (!eqSegs [Seg.a (16 : Nat) ((0 : Nat) + (1 : Nat)) fun j => [SV.int IntKind.u64
    ((F6 k n n_1).low.getD j (0 : Int))], Seg.a (16 : Nat) ((0 : Nat) + (1 : Nat)) fun j => [SV.int IntKind.u64 ((F6 k n n_1).high.getD j (0 : Int))]] [Seg.a (16 : Nat)
    ((0 : Nat) + (1 : Nat)) fun j => [SV.int IntKind.u64 ((fillS (1 : Int)).low.getD j (0 : Int))], Seg.a (16 : Nat) ((0 : Nat) + (1 : Nat)) fun j => [SV.int IntKind.u64
    ((fillS (1 : Int)).high.getD j (0 : Int))]]) ∧ True ∧ n_1 = n_1 ∧ sm (W (W (n.tmod (30 : Int)) + (1 : Int))) ∧ sm ((n_1 == W (W (n.tmod (30 : Int)) + (1 : Int))))
    ∧ True ∧ ((sm ((16 : Nat)) ∧ sm ((0 : Nat) + (1 : Nat)) ∧ ∀ (i : Nat), i < (16 : Nat) → sm ((F6 k n n_1).low.getD i (0 : Int)) ∧ True) ∧ (sm ((16 : Nat)) ∧ sm ((0
    : Nat) + (1 : Nat)) ∧ ∀ (i : Nat), i < (16 : Nat) → sm ((F6 k n n_1).high.getD i (0 : Int)) ∧ True) ∧ True) ∧ ((sm ((16 : Nat)) ∧ sm ((0 : Nat) + (1 : Nat)) ∧ ∀
    (i : Nat), i < (16 : Nat) → sm ((fillS (2 : Int)).low.getD i (0 : Int)) ∧ True) ∧ (sm ((16 : Nat)) ∧ sm ((0 : Nat) + (1 : Nat)) ∧ ∀ (i : Nat), i < (16 : Nat) → sm
    ((fillS (2 : Int)).high.getD i (0 : Int)) ∧ True) ∧ True) ∧ sm (!eqSegs [Seg.a (16 : Nat) ((0 : Nat) + (1 : Nat)) fun j => [SV.int IntKind.u64 ((F6 k n n_1).low.getD
    j (0 : Int))], Seg.a (16 : Nat) ((0 : Nat) + (1 : Nat)) fun j => [SV.int IntKind.u64 ((F6 k n n_1).high.getD j (0 : Int))]] [Seg.a (16 : Nat) ((0 : Nat) + (1 : Nat))
    fun j => [SV.int IntKind.u64 ((fillS (2 : Int)).low.getD j (0 : Int))], Seg.a (16 : Nat) ((0 : Nat) + (1 : Nat)) fun j => [SV.int IntKind.u64 ((fillS (2 : Int)).high.getD
    j (0 : Int))]]) ∧ sm (!eqSegs [Seg.a (16 : Nat) ((0 : Nat) + (1 : Nat)) fun j => [SV.int IntKind.u64 ((F6 k n n_1).low.getD j (0 : Int))], Seg.a (16 : Nat) ((0 :
    Nat) + (1 : Nat)) fun j => [SV.int IntKind.u64 ((F6 k n n_1).high.getD j (0 : Int))]] [Seg.a (16 : Nat) ((0 : Nat) + (1 : Nat)) fun j => [SV.int IntKind.u64 ((fillS
    (2 : Int)).low.getD j (0 : Int))], Seg.a (16 : Nat) ((0 : Nat) + (1 : Nat)) fun j => [SV.int IntKind.u64 ((fillS (2 : Int)).high.getD j (0 : Int))]]) ∧ True ∧ True
    ∧ True ∧ True ∧ True ∧ True ∧ True ∧ True ∧ True ∧ True ∧ True ∧ True ∧ True ∧ True ∧ True ∧ True ∧ True ∧ True ∧ True ∧ True ∧ True ∧ True ∧ True ∧ True ∧ True
    ∧ True ∧ True ∧ True ∧ True ∧ True) ∧ ((if false = true then [] else List.map Seg.shape ([Seg.a (16 : Nat) (1 : Nat) fun x => [SV.int IntKind.u64 (0 : Int)]] ++
    ([Seg.a (16 : Nat) (1 : Nat) fun x => [SV.int IntKind.u64 (0 : Int)]] ++ []))) = if false = true then [] else List.map Seg.shape ([Seg.a (16 : Nat) (1 : Nat) fun
    x => [SV.int IntKind.u64 (0 : Int)]] ++ ([Seg.a (16 : Nat) (1 : Nat) fun x => [SV.int IntKind.u64 (0 : Int)]] ++ []))) ∧ ((sm ((16 : Nat)) ∧ sm ((1 : Nat)) ∧ ∀ (i
    : Nat), i < (16 : Nat) → sm ((fillS (1 : Int)).low.getD i (0 : Int)) ∧ True) ∧ (sm ((16 : Nat)) ∧ sm ((1 : Nat)) ∧ ∀ (i : Nat), i < (16 : Nat) → sm ((fillS (1 :
    Int)).high.getD i (0 : Int)) ∧ True) ∧ True) ∧ ((if false = true then [] else List.map Seg.shape ([Seg.a (16 : Nat) (1 : Nat) fun x => [SV.int IntKind.u64 (0 : Int)]]
    ++ ([Seg.a (16 : Nat) (1 : Nat) fun x => [SV.int IntKind.u64 (0 : Int)]] ++ []))) = if false = true then [] else List.map Seg.shape ([Seg.a (16 : Nat) (1 : Nat)
    fun x => [SV.int IntKind.u64 (0 : Int)]] ++ ([Seg.a (16 : Nat) (1 : Nat) fun x => [SV.int IntKind.u64 (0 : Int)]] ++ []))) ∧ ((sm ((16 : Nat)) ∧ sm ((1 : Nat)) ∧
    ∀ (i : Nat), i < (16 : Nat) → sm ((fillS (2 : Int)).low.getD i (0 : Int)) ∧ True) ∧ (sm ((16 : Nat)) ∧ sm ((1 : Nat)) ∧ ∀ (i : Nat), i < (16 : Nat) → sm ((fillS
    (2 : Int)).high.getD i (0 : Int)) ∧ True) ∧ True) ∧ ((if false = true then [] else List.map Seg.shape ([Seg.a (16 : Nat) (1 : Nat) fun x => [SV.int IntKind.u64 (0
    : Int)]] ++ ([Seg.a (16 : Nat) (1 : Nat) fun x => [SV.int IntKind.u64 (0 : Int)]] ++ []))) = if false = true then [] else List.map Seg.shape ([Seg.a (16 : Nat) (1
    : Nat) fun x => [SV.int IntKind.u64 (0 : Int)]] ++ ([Seg.a (16 : Nat) (1 : Nat) fun x => [SV.int IntKind.u64 (0 : Int)]] ++ []))) ∧ ((sm ((16 : Nat)) ∧ sm ((codI
    IntKind.u64).n) ∧ ∀ (i : Nat), i < (16 : Nat) → sm (l.getD i (codI IntKind.u64).dft) ∧ True) ∧ (sm ((16 : Nat)) ∧ sm ((codI IntKind.u64).n) ∧ ∀ (i : Nat), i < (16
    : Nat) → sm (l_1.getD i (codI IntKind.u64).dft) ∧ True) ∧ True) ∧ ((if false = true then [] else List.map Seg.shape ([Seg.a (16 : Nat) (1 : Nat) fun x => [SV.int
    IntKind.u64 (0 : Int)]] ++ ([Seg.a (16 : Nat) (1 : Nat) fun x => [SV.int IntKind.u64 (0 : Int)]] ++ []))) = if false = true then [] else List.map Seg.shape ([Seg.a
    (16 : Nat) (1 : Nat) fun x => [SV.int IntKind.u64 (0 : Int)]] ++ ([Seg.a (16 : Nat) (1 : Nat) fun x => [SV.int IntKind.u64 (0 : Int)]] ++ []))) ∧ ((sm ((16 : Nat))
    ∧ sm ((1 : Nat)) ∧ ∀ (i : Nat), i < (16 : Nat) → sm ((F6 k n n_1).low.getD i (0 : Int)) ∧ True) ∧ (sm ((16 : Nat)) ∧ sm ((1 : Nat)) ∧ ∀ (i : Nat), i < (16 : Nat)
    → sm ((F6 k n n_1).high.getD i (0 : Int)) ∧ True) ∧ True) ∧ True) ∧ ∀ (n_2 : Int), (0 : Int) ≤ n_2 ∧ n_2 ≤ (16 : Int) → True ∧ (decide (n_2 < (16 : Int)) = true
    → True ∧ (((0 : Int) ≤ (0 : Int) ∧ (0 : Int) ≤ (64 : Int)) ∧ (k = k ∧ n = n ∧ True ∧ True ∧ True ∧ sm (W (k.tmod (6 : Int))) ∧ sm (W (W (n.tmod (30 : Int)) + (1
    : Int))) ∧ True ∧ True ∧ True ∧ n_1 = n_1 ∧ True ∧ sm (bldE (W (k.tmod (6 : Int))) (W (W (n.tmod (30 : Int)) + (1 : Int)))) ∧ n_2 = n_2 ∧ sm ((0 : Int)) ∧ True ∧
    k = k ∧ sm (k.tmod (6 : Int)) ∧ sm (W (k.tmod (6 : Int))) ∧ n = n ∧ sm (n.tmod (30 : Int)) ∧ sm (W (n.tmod (30 : Int))) ∧ sm (W (W (n.tmod (30 : Int)) + (1 : Int)))
    ∧ ((sm ((16 : Nat)) ∧ sm ((1 : Nat)) ∧ ∀ (i : Nat), i < (16 : Nat) → sm ((fillS (1 : Int)).low.getD i (0 : Int)) ∧ True) ∧ (sm ((16 : Nat)) ∧ sm ((1 : Nat)) ∧ ∀
    (i : Nat), i < (16 : Nat) → sm ((fillS (1 : Int)).high.getD i (0 : Int)) ∧ True) ∧ True) ∧ ((sm ((16 : Nat)) ∧ sm ((1 : Nat)) ∧ ∀ (i : Nat), i < (16 : Nat) → sm
    ((fillS (2 : Int)).low.getD i (0 : Int)) ∧ True) ∧ (sm ((16 : Nat)) ∧ sm ((1 : Nat)) ∧ ∀ (i : Nat), i < (16 : Nat) → sm ((fillS (2 : Int)).high.getD i (0 : Int))
    ∧ True) ∧ True) ∧ ((sm ((16 : Nat)) ∧ sm ((0 : Nat) + (1 : Nat)) ∧ ∀ (i : Nat), i < (16 : Nat) → sm ((fillS (1 : Int)).low.getD i (0 : Int)) ∧ True) ∧ (sm ((16 :
    Nat)) ∧ sm ((0 : Nat) + (1 : Nat)) ∧ ∀ (i : Nat), i < (16 : Nat) → sm ((fillS (1 : Int)).high.getD i (0 : Int)) ∧ True) ∧ True) ∧ n_1 = n_1 ∧ sm (W (W (n.tmod (30
    : Int)) + (1 : Int))) ∧ True ∧ True ∧ True ∧ (((sm ((16 : Nat)) ∧ sm ((1 : Nat)) ∧ ∀ (i : Nat), i < (16 : Nat) → sm ((F6 k n n_1).low.getD i (0 : Int)) ∧ True) ∧
    (sm ((16 : Nat)) ∧ sm ((1 : Nat)) ∧ ∀ (i : Nat), i < (16 : Nat) → sm ((F6 k n n_1).high.getD i (0 : Int)) ∧ True) ∧ True) ∧ sm (bldE (W (k.tmod (6 : Int))) (W (W
    (n.tmod (30 : Int)) + (1 : Int)))) ∧ True) ∧ sm (W (k.tmod (6 : Int))) ∧ ((sm ((16 : Nat)) ∧ sm ((0 : Nat) + (1 : Nat)) ∧ ∀ (i : Nat), i < (16 : Nat) → sm ((fillS
    (1 : Int)).low.getD i (0 : Int)) ∧ True) ∧ (sm ((16 : Nat)) ∧ sm ((0 : Nat) + (1 : Nat)) ∧ ∀ (i : Nat), i < (16 : Nat) → sm ((fillS (1 : Int)).high.getD i (0 : Int))
    ∧ True) ∧ True) ∧ ((sm ((16 : Nat)) ∧ sm ((0 : Nat) + (1 : Nat)) ∧ ∀ (i : Nat), i < (16 : Nat) → sm ((fillS (2 : Int)).low.getD i (0 : Int)) ∧ True) ∧ (sm ((16 :
    Nat)) ∧ sm ((0 : Nat) + (1 : Nat)) ∧ ∀ (i : Nat), i < (16 : Nat) → sm ((fillS (2 : Int)).high.getD i (0 : Int)) ∧ True) ∧ True) ∧ n_1 = n_1 ∧ sm (W (W (n.tmod (30
    : Int)) + (1 : Int))) ∧ (((sm ((16 : Nat)) ∧ sm ((1 : Nat)) ∧ ∀ (i : Nat), i < (16 : Nat) → sm ((F6 k n n_1).low.getD i (0 : Int)) ∧ True) ∧ (sm ((16 : Nat)) ∧ sm
    ((1 : Nat)) ∧ ∀ (i : Nat), i < (16 : Nat) → sm ((F6 k n n_1).high.getD i (0 : Int)) ∧ True) ∧ True) ∧ sm (bldE (W (k.tmod (6 : Int))) (W (W (n.tmod (30 : Int)) +
    (1 : Int)))) ∧ True) ∧ ((sm ((16 : Nat)) ∧ sm ((1 : Nat)) ∧ ∀ (i : Nat), i < (16 : Nat) → sm ((F6 k n n_1).low.getD i (0 : Int)) ∧ True) ∧ (sm ((16 : Nat)) ∧ sm
    ((1 : Nat)) ∧ ∀ (i : Nat), i < (16 : Nat) → sm ((F6 k n n_1).high.getD i (0 : Int)) ∧ True) ∧ True) ∧ sm (bldE (W (k.tmod (6 : Int))) (W (W (n.tmod (30 : Int)) +
    (1 : Int)))) ∧ sm (bldE (W (k.tmod (6 : Int))) (W (W (n.tmod (30 : Int)) + (1 : Int)))) ∧ sm ((bldE (W (k.tmod (6 : Int))) (W (W (n.tmod (30 : Int)) + (1 : Int)))
    != (0 : Int))) ∧ True ∧ n_1 = n_1 ∧ sm ((n_1 == (0 : Int))) ∧ True ∧ ((sm ((16 : Nat)) ∧ sm ((0 : Nat) + (1 : Nat)) ∧ ∀ (i : Nat), i < (16 : Nat) → sm ((F6 k n n_1).low.getD
    i (0 : Int)) ∧ True) ∧ (sm ((16 : Nat)) ∧ sm ((0 : Nat) + (1 : Nat)) ∧ ∀ (i : Nat), i < (16 : Nat) → sm ((F6 k n n_1).high.getD i (0 : Int)) ∧ True) ∧ True) ∧ ((sm
    ((16 : Nat)) ∧ sm ((0 : Nat) + (1 : Nat)) ∧ ∀ (i : Nat), i < (16 : Nat) → sm ((fillS (1 : Int)).low.getD i (0 : Int)) ∧ True) ∧ (sm ((16 : Nat)) ∧ sm ((0 : Nat)
    + (1 : Nat)) ∧ ∀ (i : Nat), i < (16 : Nat) → sm ((fillS (1 : Int)).high.getD i (0 : Int)) ∧ True) ∧ True) ∧ sm (!eqSegs [Seg.a (16 : Nat) ((0 : Nat) + (1 : Nat))
    fun j => [SV.int IntKind.u64 ((F6 k n n_1).low.getD j (0 : Int))], Seg.a (16 : Nat) ((0 : Nat) + (1 : Nat)) fun j => [SV.int IntKind.u64 ((F6 k n n_1).high.getD
    j (0 : Int))]] [Seg.a (16 : Nat) ((0 : Nat) + (1 : Nat)) fun j => [SV.int IntKind.u64 ((fillS (1 : Int)).low.getD j (0 : Int))], Seg.a (16 : Nat) ((0 : Nat) + (1
    : Nat)) fun j => [SV.int IntKind.u64 ((fillS (1 : Int)).high.getD j (0 : Int))]]) ∧ sm (!eqSegs [Seg.a (16 : Nat) ((0 : Nat) + (1 : Nat)) fun j => [SV.int IntKind.u64
    ((F6 k n n_1).low.getD j (0 : Int))], Seg.a (16 : Nat) ((0 : Nat) + (1 : Nat)) fun j => [SV.int IntKind.u64 ((F6 k n n_1).high.getD j (0 : Int))]] [Seg.a (16 : Nat)
    ((0 : Nat) + (1 : Nat)) fun j => [SV.int IntKind.u64 ((fillS (1 : Int)).low.getD j (0 : Int))], Seg.a (16 : Nat) ((0 : Nat) + (1 : Nat)) fun j => [SV.int IntKind.u64
    ((fillS (1 : Int)).high.getD j (0 : Int))]]) ∧ sm (!eqSegs [Seg.a (16 : Nat) ((0 : Nat) + (1 : Nat)) fun j => [SV.int IntKind.u64 ((F6 k n n_1).low.getD j (0 : Int))],
    Seg.a (16 : Nat) ((0 : Nat) + (1 : Nat)) fun j => [SV.int IntKind.u64 ((F6 k n n_1).high.getD j (0 : Int))]] [Seg.a (16 : Nat) ((0 : Nat) + (1 : Nat)) fun j => [SV.int
    IntKind.u64 ((fillS (1 : Int)).low.getD j (0 : Int))], Seg.a (16 : Nat) ((0 : Nat) + (1 : Nat)) fun j => [SV.int IntKind.u64 ((fillS (1 : Int)).high.getD j (0 :
    Int))]]) ∧ True ∧ n_1 = n_1 ∧ sm (W (W (n.tmod (30 : Int)) + (1 : Int))) ∧ sm ((n_1 == W (W (n.tmod (30 : Int)) + (1 : Int)))) ∧ True ∧ ((sm ((16 : Nat)) ∧ sm ((0
    : Nat) + (1 : Nat)) ∧ ∀ (i : Nat), i < (16 : Nat) → sm ((F6 k n n_1).low.getD i (0 : Int)) ∧ True) ∧ (sm ((16 : Nat)) ∧ sm ((0 : Nat) + (1 : Nat)) ∧ ∀ (i : Nat),
    i < (16 : Nat) → sm ((F6 k n n_1).high.getD i (0 : Int)) ∧ True) ∧ True) ∧ ((sm ((16 : Nat)) ∧ sm ((0 : Nat) + (1 : Nat)) ∧ ∀ (i : Nat), i < (16 : Nat) → sm ((fillS
    (2 : Int)).low.getD i (0 : Int)) ∧ True) ∧ (sm ((16 : Nat)) ∧ sm ((0 : Nat) + (1 : Nat)) ∧ ∀ (i : Nat), i < (16 : Nat) → sm ((fillS (2 : Int)).high.getD i (0 : Int))
    ∧ True) ∧ True) ∧ sm (!eqSegs [Seg.a (16 : Nat) ((0 : Nat) + (1 : Nat)) fun j => [SV.int IntKind.u64 ((F6 k n n_1).low.getD j (0 : Int))], Seg.a (16 : Nat) ((0 :
    Nat) + (1 : Nat)) fun j => [SV.int IntKind.u64 ((F6 k n n_1).high.getD j (0 : Int))]] [Seg.a (16 : Nat) ((0 : Nat) + (1 : Nat)) fun j => [SV.int IntKind.u64 ((fillS
    (2 : Int)).low.getD j (0 : Int))], Seg.a (16 : Nat) ((0 : Nat) + (1 : Nat)) fun j => [SV.int IntKind.u64 ((fillS (2 : Int)).high.getD j (0 : Int))]]) ∧ sm (!eqSegs
    [Seg.a (16 : Nat) ((0 : Nat) + (1 : Nat)) fun j => [SV.int IntKind.u64 ((F6 k n n_1).low.getD j (0 : Int))], Seg.a (16 : Nat) ((0 : Nat) + (1 : Nat)) fun j => [SV.int
    IntKind.u64 ((F6 k n n_1).high.getD j (0 : Int))]] [Seg.a (16 : Nat) ((0 : Nat) + (1 : Nat)) fun j => [SV.int IntKind.u64 ((fillS (2 : Int)).low.getD j (0 : Int))],
    Seg.a (16 : Nat) ((0 : Nat) + (1 : Nat)) fun j => [SV.int IntKind.u64 ((fillS (2 : Int)).high.getD j (0 : Int))]]) ∧ True ∧ n_2 = n_2 ∧ True ∧ True ∧ True ∧ True
    ∧ True ∧ True ∧ True ∧ True ∧ True ∧ True ∧ True ∧ True ∧ True ∧ True ∧ True ∧ True ∧ True ∧ True ∧ True ∧ True ∧ True ∧ True ∧ True ∧ True ∧ True ∧ True ∧ True
    ∧ True) ∧ ((if false = true then [] else List.map Seg.shape ([Seg.a (16 : Nat) (1 : Nat) fun x => [SV.int IntKind.u64 (0 : Int)]] ++ ([Seg.a (16 : Nat) (1 : Nat)
    fun x => [SV.int IntKind.u64 (0 : Int)]] ++ []))) = if false = true then [] else List.map Seg.shape ([Seg.a (16 : Nat) (1 : Nat) fun x => [SV.int IntKind.u64 (0
    : Int)]] ++ ([Seg.a (16 : Nat) (1 : Nat) fun x => [SV.int IntKind.u64 (0 : Int)]] ++ []))) ∧ ((sm ((16 : Nat)) ∧ sm ((1 : Nat)) ∧ ∀ (i : Nat), i < (16 : Nat) → sm
    ((fillS (1 : Int)).low.getD i (0 : Int)) ∧ True) ∧ (sm ((16 : Nat)) ∧ sm ((1 : Nat)) ∧ ∀ (i : Nat), i < (16 : Nat) → sm ((fillS (1 : Int)).high.getD i (0 : Int))
    ∧ True) ∧ True) ∧ ((if false = true then [] else List.map Seg.shape ([Seg.a (16 : Nat) (1 : Nat) fun x => [SV.int IntKind.u64 (0 : Int)]] ++ ([Seg.a (16 : Nat) (1
    : Nat) fun x => [SV.int IntKind.u64 (0 : Int)]] ++ []))) = if false = true then [] else List.map Seg.shape ([Seg.a (16 : Nat) (1 : Nat) fun x => [SV.int IntKind.u64
    (0 : Int)]] ++ ([Seg.a (16 : Nat) (1 : Nat) fun x => [SV.int IntKind.u64 (0 : Int)]] ++ []))) ∧ ((sm ((16 : Nat)) ∧ sm ((1 : Nat)) ∧ ∀ (i : Nat), i < (16 : Nat)
    → sm ((fillS (2 : Int)).low.getD i (0 : Int)) ∧ True) ∧ (sm ((16 : Nat)) ∧ sm ((1 : Nat)) ∧ ∀ (i : Nat), i < (16 : Nat) → sm ((fillS (2 : Int)).high.getD i (0 :
    Int)) ∧ True) ∧ True) ∧ ((if false = true then [] else List.map Seg.shape ([Seg.a (16 : Nat) (1 : Nat) fun x => [SV.int IntKind.u64 (0 : Int)]] ++ ([Seg.a (16 :
    Nat) (1 : Nat) fun x => [SV.int IntKind.u64 (0 : Int)]] ++ []))) = if false = true then [] else List.map Seg.shape ([Seg.a (16 : Nat) (1 : Nat) fun x => [SV.int
    IntKind.u64 (0 : Int)]] ++ ([Seg.a (16 : Nat) (1 : Nat) fun x => [SV.int IntKind.u64 (0 : Int)]] ++ []))) ∧ ((sm ((16 : Nat)) ∧ sm ((codI IntKind.u64).n) ∧ ∀ (i
    : Nat), i < (16 : Nat) → sm (l.getD i (codI IntKind.u64).dft) ∧ True) ∧ (sm ((16 : Nat)) ∧ sm ((codI IntKind.u64).n) ∧ ∀ (i : Nat), i < (16 : Nat) → sm (l_1.getD
    i (codI IntKind.u64).dft) ∧ True) ∧ True) ∧ ((if false = true then [] else List.map Seg.shape ([Seg.a (16 : Nat) (1 : Nat) fun x => [SV.int IntKind.u64 (0 : Int)]]
    ++ ([Seg.a (16 : Nat) (1 : Nat) fun x => [SV.int IntKind.u64 (0 : Int)]] ++ []))) = if false = true then [] else List.map Seg.shape ([Seg.a (16 : Nat) (1 : Nat)
    fun x => [SV.int IntKind.u64 (0 : Int)]] ++ ([Seg.a (16 : Nat) (1 : Nat) fun x => [SV.int IntKind.u64 (0 : Int)]] ++ []))) ∧ ((sm ((16 : Nat)) ∧ sm ((1 : Nat)) ∧
    ∀ (i : Nat), i < (16 : Nat) → sm ((F6 k n n_1).low.getD i (0 : Int)) ∧ True) ∧ (sm ((16 : Nat)) ∧ sm ((1 : Nat)) ∧ ∀ (i : Nat), i < (16 : Nat) → sm ((F6 k n n_1).high.getD
    i (0 : Int)) ∧ True) ∧ True) ∧ True) ∧ ∀ (n_3 : Int), (0 : Int) ≤ n_3 ∧ n_3 ≤ (64 : Int) → True ∧ (decide (n_3 < (64 : Int)) = true → (t16 ∧ t16 ∧ True) ∧ True ∧
    True ∧ ((((∀ (i : Nat), i < (16 : Nat) → true = true ∧ True) ∧ ∀ (i : Nat), i < (16 : Nat) → true = true ∧ True) ∧ True ∧ True) ∧ okF { low := rr (F6 k n n_1).low, high := rr (F6 k n n_1).high : Fr })
    ∧ True ∧ ((getS { low := rr (F6 k n n_1).low, high := rr (F6 k n n_1).high : Fr } n_3 n_2 != (1 : Int)) = true → ((getS { low := rr (F6 k n n_1).low, high := rr (F6 k n n_1).high : Fr }
    n_3 n_2 != (2 : Int)) = true → True ∧ True ∧ True ∧ true = false ∧ True) ∧ ((getS { low := rr (F6 k n n_1).low, high := rr (F6 k n n_1).high : Fr } n_3 n_2 != (2
    : Int)) = false → (t16 ∧ t16 ∧ True) ∧ True ∧ True ∧ ((((∀ (i : Nat), i < (16 : Nat) → true = true ∧ True) ∧ ∀ (i : Nat), i < (16 : Nat) → true = true ∧ True) ∧
    True ∧ True) ∧ okF { low := rowL (codI IntKind.u64) (16 : Nat) fun j => (codI IntKind.u64).enc (l.getD j (codI IntKind.u64).dft), high := rowL (codI IntKind.u64) (16 : Nat) fun j => (codI IntKind.u64).enc (l_1.getD j (codI IntKind.u64).dft) : Fr })
    ∧ True ∧ (decide (getS { low := rr (F6 k n n_1).low, high := rr (F6 k n n_1).high : Fr } n_3 n_2 < getS { low := rowL (codI IntKind.u64) (16 : Nat) fun j => (codI IntKind.u64).enc (l.getD j (codI IntKind.u64).dft), high := rowL (codI IntKind.u64) (16 : Nat) fun j => (codI IntKind.u64).enc (l_1.getD j (codI IntKind.u64).dft) : Fr }
    n_3 n_2) = true → True ∧ True ∧ true = false ∧ True) ∧ (decide (getS { low := rr (F6 k n n_1).low, high := rr (F6 k n n_1).high : Fr } n_3 n_2 < getS { low := rowL (codI IntKind.u64) (16 : Nat) fun j => (codI IntKind.u64).enc (l.getD j (codI IntKind.u64).dft), high := rowL (codI IntKind.u64) (16 : Nat) fun j => (codI IntKind.u64).enc (l_1.getD j (codI IntKind.u64).dft) : Fr }
    n_3 n_2) = false → True ∧ ((0 : Int) ≤ W (n_3 + (1 : Int)) ∧ W (n_3 + (1 : Int)) ≤ (64 : Int)) ∧ ((64 : Int) - W (n_3 + (1 : Int))).toNat < ((64 : Int) - n_3).toNat
    ∧ (k = k ∧ n = n ∧ True ∧ True ∧ True ∧ sm (W (k.tmod (6 : Int))) ∧ sm (W (W (n.tmod (30 : Int)) + (1 : Int))) ∧ True ∧ True ∧ True ∧ n_1 = n_1 ∧ True ∧ sm (bldE
    (W (k.tmod (6 : Int))) (W (W (n.tmod (30 : Int)) + (1 : Int)))) ∧ n_2 = n_2 ∧ sm (W (n_3 + (1 : Int))) ∧ True ∧ k = k ∧ sm (k.tmod (6 : Int)) ∧ sm (W (k.tmod (6
    : Int))) ∧ n = n ∧ sm (n.tmod (30 : Int)) ∧ sm (W (n.tmod (30 : Int))) ∧ sm (W (W (n.tmod (30 : Int)) + (1 : Int))) ∧ ((sm ((16 : Nat)) ∧ sm ((1 : Nat)) ∧ ∀ (i :
    Nat), i < (16 : Nat) → sm ((fillS (1 : Int)).low.getD i (0 : Int)) ∧ True) ∧ (sm ((16 : Nat)) ∧ sm ((1 : Nat)) ∧ ∀ (i : Nat), i < (16 : Nat) → sm ((fillS (1 : Int)).high.getD
    i (0 : Int)) ∧ True) ∧ True) ∧ ((sm ((16 : Nat)) ∧ sm ((1 : Nat)) ∧ ∀ (i : Nat), i < (16 : Nat) → sm ((fillS (2 : Int)).low.getD i (0 : Int)) ∧ True) ∧ (sm ((16
    : Nat)) ∧ sm ((1 : Nat)) ∧ ∀ (i : Nat), i < (16 : Nat) → sm ((fillS (2 : Int)).high.getD i (0 : Int)) ∧ True) ∧ True) ∧ ((sm ((16 : Nat)) ∧ sm ((0 : Nat) + (1 :
    Nat)) ∧ ∀ (i : Nat), i < (16 : Nat) → sm ((fillS (1 : Int)).low.getD i (0 : Int)) ∧ True) ∧ (sm ((16 : Nat)) ∧ sm ((0 : Nat) + (1 : Nat)) ∧ ∀ (i : Nat), i < (16
    : Nat) → sm ((fillS (1 : Int)).high.getD i (0 : Int)) ∧ True) ∧ True) ∧ n_1 = n_1 ∧ sm (W (W (n.tmod (30 : Int)) + (1 : Int))) ∧ True ∧ True ∧ True ∧ (((sm ((16
    : Nat)) ∧ sm ((1 : Nat)) ∧ ∀ (i : Nat), i < (16 : Nat) → sm ((F6 k n n_1).low.getD i (0 : Int)) ∧ True) ∧ (sm ((16 : Nat)) ∧ sm ((1 : Nat)) ∧ ∀ (i : Nat), i < (16
    : Nat) → sm ((F6 k n n_1).high.getD i (0 : Int)) ∧ True) ∧ True) ∧ sm (bldE (W (k.tmod (6 : Int))) (W (W (n.tmod (30 : Int)) + (1 : Int)))) ∧ True) ∧ sm (W (k.tmod
    (6 : Int))) ∧ ((sm ((16 : Nat)) ∧ sm ((0 : Nat) + (1 : Nat)) ∧ ∀ (i : Nat), i < (16 : Nat) → sm ((fillS (1 : Int)).low.getD i (0 : Int)) ∧ True) ∧ (sm ((16 : Nat))
    ∧ sm ((0 : Nat) + (1 : Nat)) ∧ ∀ (i : Nat), i < (16 : Nat) → sm ((fillS (1 : Int)).high.getD i (0 : Int)) ∧ True) ∧ True) ∧ ((sm ((16 : Nat)) ∧ sm ((0 : Nat) + (1
    : Nat)) ∧ ∀ (i : Nat), i < (16 : Nat) → sm ((fillS (2 : Int)).low.getD i (0 : Int)) ∧ True) ∧ (sm ((16 : Nat)) ∧ sm ((0 : Nat) + (1 : Nat)) ∧ ∀ (i : Nat), i < (16
    : Nat) → sm ((fillS (2 : Int)).high.getD i (0 : Int)) ∧ True) ∧ True) ∧ n_1 = n_1 ∧ sm (W (W (n.tmod (30 : Int)) + (1 : Int))) ∧ (((sm ((16 : Nat)) ∧ sm ((1 : Nat))
    ∧ ∀ (i : Nat), i < (16 : Nat) → sm ((F6 k n n_1).low.getD i (0 : Int)) ∧ True) ∧ (sm ((16 : Nat)) ∧ sm ((1 : Nat)) ∧ ∀ (i : Nat), i < (16 : Nat) → sm ((F6 k n n_1).high.getD
    i (0 : Int)) ∧ True) ∧ True) ∧ sm (bldE (W (k.tmod (6 : Int))) (W (W (n.tmod (30 : Int)) + (1 : Int)))) ∧ True) ∧ ((sm ((16 : Nat)) ∧ sm ((1 : Nat)) ∧ ∀ (i : Nat),
    i < (16 : Nat) → sm ((F6 k n n_1).low.getD i (0 : Int)) ∧ True) ∧ (sm ((16 : Nat)) ∧ sm ((1 : Nat)) ∧ ∀ (i : Nat), i < (16 : Nat) → sm ((F6 k n n_1).high.getD i
    (0 : Int)) ∧ True) ∧ True) ∧ sm (bldE (W (k.tmod (6 : Int))) (W (W (n.tmod (30 : Int)) + (1 : Int)))) ∧ sm (bldE (W (k.tmod (6 : Int))) (W (W (n.tmod (30 : Int))
    + (1 : Int)))) ∧ sm ((bldE (W (k.tmod (6 : Int))) (W (W (n.tmod (30 : Int)) + (1 : Int))) != (0 : Int))) ∧ True ∧ n_1 = n_1 ∧ sm ((n_1 == (0 : Int))) ∧ True ∧ ((sm
    ((16 : Nat)) ∧ sm ((0 : Nat) + (1 : Nat)) ∧ ∀ (i : Nat), i < (16 : Nat) → sm ((F6 k n n_1).low.getD i (0 : Int)) ∧ True) ∧ (sm ((16 : Nat)) ∧ sm ((0 : Nat) + (1
    : Nat)) ∧ ∀ (i : Nat), i < (16 : Nat) → sm ((F6 k n n_1).high.getD i (0 : Int)) ∧ True) ∧ True) ∧ ((sm ((16 : Nat)) ∧ sm ((0 : Nat) + (1 : Nat)) ∧ ∀ (i : Nat), i
    < (16 : Nat) → sm ((fillS (1 : Int)).low.getD i (0 : Int)) ∧ True) ∧ (sm ((16 : Nat)) ∧ sm ((0 : Nat) + (1 : Nat)) ∧ ∀ (i : Nat), i < (16 : Nat) → sm ((fillS (1
    : Int)).high.getD i (0 : Int)) ∧ True) ∧ True) ∧ sm (!eqSegs [Seg.a (16 : Nat) ((0 : Nat) + (1 : Nat)) fun j => [SV.int IntKind.u64 ((F6 k n n_1).low.getD j (0 :
    Int))], Seg.a (16 : Nat) ((0 : Nat) + (1 : Nat)) fun j => [SV.int IntKind.u64 ((F6 k n n_1).high.getD j (0 : Int))]] [Seg.a (16 : Nat) ((0 : Nat) + (1 : Nat)) fun
    j => [SV.int IntKind.u64 ((fillS (1 : Int)).low.getD j (0 : Int))], Seg.a (16 : Nat) ((0 : Nat) + (1 : Nat)) fun j => [SV.int IntKind.u64 ((fillS (1 : Int)).high.getD
    j (0 : Int))]]) ∧ sm (!eqSegs [Seg.a (16 : Nat) ((0 : Nat) + (1 : Nat)) fun j => [SV.int IntKind.u64 ((F6 k n n_1).low.getD j (0 : Int))], Seg.a (16 : Nat) ((0 :
    Nat) + (1 : Nat)) fun j => [SV.int IntKind.u64 ((F6 k n n_1).high.getD j (0 : Int))]] [Seg.a (16 : Nat) ((0 : Nat) + (1 : Nat)) fun j => [SV.int IntKind.u64 ((fillS
    (1 : Int)).low.getD j (0 : Int))], Seg.a (16 : Nat) ((0 : Nat) + (1 : Nat)) fun j => [SV.int IntKind.u64 ((fillS (1 : Int)).high.getD j (0 : Int))]]) ∧ sm (!eqSegs
    [Seg.a (16 : Nat) ((0 : Nat) + (1 : Nat)) fun j => [SV.int IntKind.u64 ((F6 k n n_1).low.getD j (0 : Int))], Seg.a (16 : Nat) ((0 : Nat) + (1 : Nat)) fun j => [SV.int
    IntKind.u64 ((F6 k n n_1).high.getD j (0 : Int))]] [Seg.a (16 : Nat) ((0 : Nat) + (1 : Nat)) fun j => [SV.int IntKind.u64 ((fillS (1 : Int)).low.getD j (0 : Int))],
    Seg.a (16 : Nat) ((0 : Nat) + (1 : Nat)) fun j => [SV.int IntKind.u64 ((fillS (1 : Int)).high.getD j (0 : Int))]]) ∧ True ∧ n_1 = n_1 ∧ sm (W (W (n.tmod (30 : Int))
    + (1 : Int))) ∧ sm ((n_1 == W (W (n.tmod (30 : Int)) + (1 : Int)))) ∧ True ∧ ((sm ((16 : Nat)) ∧ sm ((0 : Nat) + (1 : Nat)) ∧ ∀ (i : Nat), i < (16 : Nat) → sm ((F6
    k n n_1).low.getD i (0 : Int)) ∧ True) ∧ (sm ((16 : Nat)) ∧ sm ((0 : Nat) + (1 : Nat)) ∧ ∀ (i : Nat), i < (16 : Nat) → sm ((F6 k n n_1).high.getD i (0 : Int)) ∧
    True) ∧ True) ∧ ((sm ((16 : Nat)) ∧ sm ((0 : Nat) + (1 : Nat)) ∧ ∀ (i : Nat), i < (16 : Nat) → sm ((fillS (2 : Int)).low.getD i (0 : Int)) ∧ True) ∧ (sm ((16 : Nat))
    ∧ sm ((0 : Nat) + (1 : Nat)) ∧ ∀ (i : Nat), i < (16 : Nat) → sm ((fillS (2 : Int)).high.getD i (0 : Int)) ∧ True) ∧ True) ∧ sm (!eqSegs [Seg.a (16 : Nat) ((0 : Nat)
    + (1 : Nat)) fun j => [SV.int IntKind.u64 ((F6 k n n_1).low.getD j (0 : Int))], Seg.a (16 : Nat) ((0 : Nat) + (1 : Nat)) fun j => [SV.int IntKind.u64 ((F6 k n n_1).high.getD
    j (0 : Int))]] [Seg.a (16 : Nat) ((0 : Nat) + (1 : Nat)) fun j => [SV.int IntKind.u64 ((fillS (2 : Int)).low.getD j (0 : Int))], Seg.a (16 : Nat) ((0 : Nat) + (1
    : Nat)) fun j => [SV.int IntKind.u64 ((fillS (2 : Int)).high.getD j (0 : Int))]]) ∧ sm (!eqSegs [Seg.a (16 : Nat) ((0 : Nat) + (1 : Nat)) fun j => [SV.int IntKind.u64
    ((F6 k n n_1).low.getD j (0 : Int))], Seg.a (16 : Nat) ((0 : Nat) + (1 : Nat)) fun j => [SV.int IntKind.u64 ((F6 k n n_1).high.getD j (0 : Int))]] [Seg.a (16 : Nat)
    ((0 : Nat) + (1 : Nat)) fun j => [SV.int IntKind.u64 ((fillS (2 : Int)).low.getD j (0 : Int))], Seg.a (16 : Nat) ((0 : Nat) + (1 : Nat)) fun j => [SV.int IntKind.u64
    ((fillS (2 : Int)).high.getD j (0 : Int))]]) ∧ True ∧ n_2 = n_2 ∧ True ∧ True ∧ True ∧ True ∧ True ∧ True ∧ True ∧ True ∧ True ∧ True ∧ True ∧ True ∧ True ∧ True
    ∧ True ∧ True ∧ True ∧ True ∧ True ∧ True ∧ True ∧ True ∧ True ∧ True ∧ True ∧ True ∧ True ∧ True) ∧ ((if false = true then [] else List.map Seg.shape ([Seg.a (16
    : Nat) (1 : Nat) fun x => [SV.int IntKind.u64 (0 : Int)]] ++ ([Seg.a (16 : Nat) (1 : Nat) fun x => [SV.int IntKind.u64 (0 : Int)]] ++ []))) = if false = true then
    [] else List.map Seg.shape ([Seg.a (16 : Nat) (1 : Nat) fun x => [SV.int IntKind.u64 (0 : Int)]] ++ ([Seg.a (16 : Nat) (1 : Nat) fun x => [SV.int IntKind.u64 (0
    : Int)]] ++ []))) ∧ ((sm ((16 : Nat)) ∧ sm ((1 : Nat)) ∧ ∀ (i : Nat), i < (16 : Nat) → sm ((fillS (1 : Int)).low.getD i (0 : Int)) ∧ True) ∧ (sm ((16 : Nat)) ∧ sm
    ((1 : Nat)) ∧ ∀ (i : Nat), i < (16 : Nat) → sm ((fillS (1 : Int)).high.getD i (0 : Int)) ∧ True) ∧ True) ∧ ((if false = true then [] else List.map Seg.shape ([Seg.a
    (16 : Nat) (1 : Nat) fun x => [SV.int IntKind.u64 (0 : Int)]] ++ ([Seg.a (16 : Nat) (1 : Nat) fun x => [SV.int IntKind.u64 (0 : Int)]] ++ []))) = if false = true
    then [] else List.map Seg.shape ([Seg.a (16 : Nat) (1 : Nat) fun x => [SV.int IntKind.u64 (0 : Int)]] ++ ([Seg.a (16 : Nat) (1 : Nat) fun x => [SV.int IntKind.u64
    (0 : Int)]] ++ []))) ∧ ((sm ((16 : Nat)) ∧ sm ((1 : Nat)) ∧ ∀ (i : Nat), i < (16 : Nat) → sm ((fillS (2 : Int)).low.getD i (0 : Int)) ∧ True) ∧ (sm ((16 : Nat))
    ∧ sm ((1 : Nat)) ∧ ∀ (i : Nat), i < (16 : Nat) → sm ((fillS (2 : Int)).high.getD i (0 : Int)) ∧ True) ∧ True) ∧ ((if false = true then [] else List.map Seg.shape
    ([Seg.a (16 : Nat) (1 : Nat) fun x => [SV.int IntKind.u64 (0 : Int)]] ++ ([Seg.a (16 : Nat) (1 : Nat) fun x => [SV.int IntKind.u64 (0 : Int)]] ++ []))) = if false
    = true then [] else List.map Seg.shape ([Seg.a (16 : Nat) (1 : Nat) fun x => [SV.int IntKind.u64 (0 : Int)]] ++ ([Seg.a (16 : Nat) (1 : Nat) fun x => [SV.int IntKind.u64
    (0 : Int)]] ++ []))) ∧ ((sm ((16 : Nat)) ∧ sm ((codI IntKind.u64).n) ∧ ∀ (i : Nat), i < (16 : Nat) → sm (l.getD i (codI IntKind.u64).dft) ∧ True) ∧ (sm ((16 : Nat))
    ∧ sm ((codI IntKind.u64).n) ∧ ∀ (i : Nat), i < (16 : Nat) → sm (l_1.getD i (codI IntKind.u64).dft) ∧ True) ∧ True) ∧ ((if false = true then [] else List.map Seg.shape
    ([Seg.a (16 : Nat) (1 : Nat) fun x => [SV.int IntKind.u64 (0 : Int)]] ++ ([Seg.a (16 : Nat) (1 : Nat) fun x => [SV.int IntKind.u64 (0 : Int)]] ++ []))) = if false
    = true then [] else List.map Seg.shape ([Seg.a (16 : Nat) (1 : Nat) fun x => [SV.int IntKind.u64 (0 : Int)]] ++ ([Seg.a (16 : Nat) (1 : Nat) fun x => [SV.int IntKind.u64
    (0 : Int)]] ++ []))) ∧ ((sm ((16 : Nat)) ∧ sm ((1 : Nat)) ∧ ∀ (i : Nat), i < (16 : Nat) → sm ((F6 k n n_1).low.getD i (0 : Int)) ∧ True) ∧ (sm ((16 : Nat)) ∧ sm
    ((1 : Nat)) ∧ ∀ (i : Nat), i < (16 : Nat) → sm ((F6 k n n_1).high.getD i (0 : Int)) ∧ True) ∧ True) ∧ True))) ∧ ((getS { low := rr (F6 k n n_1).low, high := rr (F6 k n n_1).high : Fr }
    n_3 n_2 != (1 : Int)) = false → (t16 ∧ t16 ∧ True) ∧ True ∧ True ∧ ((((∀ (i : Nat), i < (16 : Nat) → true = true ∧ True) ∧ ∀ (i : Nat), i < (16 : Nat) → true = true
    ∧ True) ∧ True ∧ True) ∧ okF { low := rowL (codI IntKind.u64) (16 : Nat) fun j => (codI IntKind.u64).enc (l.getD j (codI IntKind.u64).dft), high := rowL (codI IntKind.u64) (16 : Nat) fun j => (codI IntKind.u64).enc (l_1.getD j (codI IntKind.u64).dft) : Fr })
    ∧ True ∧ (decide (getS { low := rr (F6 k n n_1).low, high := rr (F6 k n n_1).high : Fr } n_3 n_2 < getS { low := rowL (codI IntKind.u64) (16 : Nat) fun j => (codI IntKind.u64).enc (l.getD j (codI IntKind.u64).dft), high := rowL (codI IntKind.u64) (16 : Nat) fun j => (codI IntKind.u64).enc (l_1.getD j (codI IntKind.u64).dft) : Fr }
    n_3 n_2) = true → True ∧ True ∧ true = false ∧ True) ∧ (decide (getS { low := rr (F6 k n n_1).low, high := rr (F6 k n n_1).high : Fr } n_3 n_2 < getS { low := rowL (codI IntKind.u64) (16 : Nat) fun j => (codI IntKind.u64).enc (l.getD j (codI IntKind.u64).dft), high := rowL (codI IntKind.u64) (16 : Nat) fun j => (codI IntKind.u64).enc (l_1.getD j (codI IntKind.u64).dft) : Fr }
    n_3 n_2) = false → True ∧ ((0 : Int) ≤ W (n_3 + (1 : Int)) ∧ W (n_3 + (1 : Int)) ≤ (64 : Int)) ∧ ((64 : Int) - W (n_3 + (1 : Int))).toNat < ((64 : Int) - n_3).toNat
    ∧ (k = k ∧ n = n ∧ True ∧ True ∧ True ∧ sm (W (k.tmod (6 : Int))) ∧ sm (W (W (n.tmod (30 : Int)) + (1 : Int))) ∧ True ∧ True ∧ True ∧ n_1 = n_1 ∧ True ∧ sm (bldE
    (W (k.tmod (6 : Int))) (W (W (n.tmod (30 : Int)) + (1 : Int)))) ∧ n_2 = n_2 ∧ sm (W (n_3 + (1 : Int))) ∧ True ∧ k = k ∧ sm (k.tmod (6 : Int)) ∧ sm (W (k.tmod (6
    : Int))) ∧ n = n ∧ sm (n.tmod (30 : Int)) ∧ sm (W (n.tmod (30 : Int))) ∧ sm (W (W (n.tmod (30 : Int)) + (1 : Int))) ∧ ((sm ((16 : Nat)) ∧ sm ((1 : Nat)) ∧ ∀ (i :
    Nat), i < (16 : Nat) → sm ((fillS (1 : Int)).low.getD i (0 : Int)) ∧ True) ∧ (sm ((16 : Nat)) ∧ sm ((1 : Nat)) ∧ ∀ (i : Nat), i < (16 : Nat) → sm ((fillS (1 : Int)).high.getD
    i (0 : Int)) ∧ True) ∧ True) ∧ ((sm ((16 : Nat)) ∧ sm ((1 : Nat)) ∧ ∀ (i : Nat), i < (16 : Nat) → sm ((fillS (2 : Int)).low.getD i (0 : Int)) ∧ True) ∧ (sm ((16
    : Nat)) ∧ sm ((1 : Nat)) ∧ ∀ (i : Nat), i < (16 : Nat) → sm ((fillS (2 : Int)).high.getD i (0 : Int)) ∧ True) ∧ True) ∧ ((sm ((16 : Nat)) ∧ sm ((0 : Nat) + (1 :
    Nat)) ∧ ∀ (i : Nat), i < (16 : Nat) → sm ((fillS (1 : Int)).low.getD i (0 : Int)) ∧ True) ∧ (sm ((16 : Nat)) ∧ sm ((0 : Nat) + (1 : Nat)) ∧ ∀ (i : Nat), i < (16
    : Nat) → sm ((fillS (1 : Int)).high.getD i (0 : Int)) ∧ True) ∧ True) ∧ n_1 = n_1 ∧ sm (W (W (n.tmod (30 : Int)) + (1 : Int))) ∧ True ∧ True ∧ True ∧ (((sm ((16
    : Nat)) ∧ sm ((1 : Nat)) ∧ ∀ (i : Nat), i < (16 : Nat) → sm ((F6 k n n_1).low.getD i (0 : Int)) ∧ True) ∧ (sm ((16 : Nat)) ∧ sm ((1 : Nat)) ∧ ∀ (i : Nat), i < (16
    : Nat) → sm ((F6 k n n_1).high.getD i (0 : Int)) ∧ True) ∧ True) ∧ sm (bldE (W (k.tmod (6 : Int))) (W (W (n.tmod (30 : Int)) + (1 : Int)))) ∧ True) ∧ sm (W (k.tmod
    (6 : Int))) ∧ ((sm ((16 : Nat)) ∧ sm ((0 : Nat) + (1 : Nat)) ∧ ∀ (i : Nat), i < (16 : Nat) → sm ((fillS (1 : Int)).low.getD i (0 : Int)) ∧ True) ∧ (sm ((16 : Nat))
    ∧ sm ((0 : Nat) + (1 : Nat)) ∧ ∀ (i : Nat), i < (16 : Nat) → sm ((fillS (1 : Int)).high.getD i (0 : Int)) ∧ True) ∧ True) ∧ ((sm ((16 : Nat)) ∧ sm ((0 : Nat) + (1
    : Nat)) ∧ ∀ (i : Nat), i < (16 : Nat) → sm ((fillS (2 : Int)).low.getD i (0 : Int)) ∧ True) ∧ (sm ((16 : Nat)) ∧ sm ((0 : Nat) + (1 : Nat)) ∧ ∀ (i : Nat), i < (16
    : Nat) → sm ((fillS (2 : Int)).high.getD i (0 : Int)) ∧ True) ∧ True) ∧ n_1 = n_1 ∧ sm (W (W (n.tmod (30 : Int)) + (1 : Int))) ∧ (((sm ((16 : Nat)) ∧ sm ((1 : Nat))
    ∧ ∀ (i : Nat), i < (16 : Nat) → sm ((F6 k n n_1).low.getD i (0 : Int)) ∧ True) ∧ (sm ((16 : Nat)) ∧ sm ((1 : Nat)) ∧ ∀ (i : Nat), i < (16 : Nat) → sm ((F6 k n n_1).high.getD
    i (0 : Int)) ∧ True) ∧ True) ∧ sm (bldE (W (k.tmod (6 : Int))) (W (W (n.tmod (30 : Int)) + (1 : Int)))) ∧ True) ∧ ((sm ((16 : Nat)) ∧ sm ((1 : Nat)) ∧ ∀ (i : Nat),
    i < (16 : Nat) → sm ((F6 k n n_1).low.getD i (0 : Int)) ∧ True) ∧ (sm ((16 : Nat)) ∧ sm ((1 : Nat)) ∧ ∀ (i : Nat), i < (16 : Nat) → sm ((F6 k n n_1).high.getD i
    (0 : Int)) ∧ True) ∧ True) ∧ sm (bldE (W (k.tmod (6 : Int))) (W (W (n.tmod (30 : Int)) + (1 : Int)))) ∧ sm (bldE (W (k.tmod (6 : Int))) (W (W (n.tmod (30 : Int))
    + (1 : Int)))) ∧ sm ((bldE (W (k.tmod (6 : Int))) (W (W (n.tmod (30 : Int)) + (1 : Int))) != (0 : Int))) ∧ True ∧ n_1 = n_1 ∧ sm ((n_1 == (0 : Int))) ∧ True ∧ ((sm
    ((16 : Nat)) ∧ sm ((0 : Nat) + (1 : Nat)) ∧ ∀ (i : Nat), i < (16 : Nat) → sm ((F6 k n n_1).low.getD i (0 : Int)) ∧ True) ∧ (sm ((16 : Nat)) ∧ sm ((0 : Nat) + (1
    : Nat)) ∧ ∀ (i : Nat), i < (16 : Nat) → sm ((F6 k n n_1).high.getD i (0 : Int)) ∧ True) ∧ True) ∧ ((sm ((16 : Nat)) ∧ sm ((0 : Nat) + (1 : Nat)) ∧ ∀ (i : Nat), i
    < (16 : Nat) → sm ((fillS (1 : Int)).low.getD i (0 : Int)) ∧ True) ∧ (sm ((16 : Nat)) ∧ sm ((0 : Nat) + (1 : Nat)) ∧ ∀ (i : Nat), i < (16 : Nat) → sm ((fillS (1
    : Int)).high.getD i (0 : Int)) ∧ True) ∧ True) ∧ sm (!eqSegs [Seg.a (16 : Nat) ((0 : Nat) + (1 : Nat)) fun j => [SV.int IntKind.u64 ((F6 k n n_1).low.getD j (0 :
    Int))], Seg.a (16 : Nat) ((0 : Nat) + (1 : Nat)) fun j => [SV.int IntKind.u64 ((F6 k n n_1).high.getD j (0 : Int))]] [Seg.a (16 : Nat) ((0 : Nat) + (1 : Nat)) fun
    j => [SV.int IntKind.u64 ((fillS (1 : Int)).low.getD j (0 : Int))], Seg.a (16 : Nat) ((0 : Nat) + (1 : Nat)) fun j => [SV.int IntKind.u64 ((fillS (1 : Int)).high.getD
    j (0 : Int))]]) ∧ sm (!eqSegs [Seg.a (16 : Nat) ((0 : Nat) + (1 : Nat)) fun j => [SV.int IntKind.u64 ((F6 k n n_1).low.getD j (0 : Int))], Seg.a (16 : Nat) ((0 :
    Nat) + (1 : Nat)) fun j => [SV.int IntKind.u64 ((F6 k n n_1).high.getD j (0 : Int))]] [Seg.a (16 : Nat) ((0 : Nat) + (1 : Nat)) fun j => [SV.int IntKind.u64 ((fillS
    (1 : Int)).low.getD j (0 : Int))], Seg.a (16 : Nat) ((0 : Nat) + (1 : Nat)) fun j => [SV.int IntKind.u64 ((fillS (1 : Int)).high.getD j (0 : Int))]]) ∧ sm (!eqSegs
    [Seg.a (16 : Nat) ((0 : Nat) + (1 : Nat)) fun j => [SV.int IntKind.u64 ((F6 k n n_1).low.getD j (0 : Int))], Seg.a (16 : Nat) ((0 : Nat) + (1 : Nat)) fun j => [SV.int
    IntKind.u64 ((F6 k n n_1).high.getD j (0 : Int))]] [Seg.a (16 : Nat) ((0 : Nat) + (1 : Nat)) fun j => [SV.int IntKind.u64 ((fillS (1 : Int)).low.getD j (0 : Int))],
    Seg.a (16 : Nat) ((0 : Nat) + (1 : Nat)) fun j => [SV.int IntKind.u64 ((fillS (1 : Int)).high.getD j (0 : Int))]]) ∧ True ∧ n_1 = n_1 ∧ sm (W (W (n.tmod (30 : Int))
    + (1 : Int))) ∧ sm ((n_1 == W (W (n.tmod (30 : Int)) + (1 : Int)))) ∧ True ∧ ((sm ((16 : Nat)) ∧ sm ((0 : Nat) + (1 : Nat)) ∧ ∀ (i : Nat), i < (16 : Nat) → sm ((F6
    k n n_1).low.getD i (0 : Int)) ∧ True) ∧ (sm ((16 : Nat)) ∧ sm ((0 : Nat) + (1 : Nat)) ∧ ∀ (i : Nat), i < (16 : Nat) → sm ((F6 k n n_1).high.getD i (0 : Int)) ∧
    True) ∧ True) ∧ ((sm ((16 : Nat)) ∧ sm ((0 : Nat) + (1 : Nat)) ∧ ∀ (i : Nat), i < (16 : Nat) → sm ((fillS (2 : Int)).low.getD i (0 : Int)) ∧ True) ∧ (sm ((16 : Nat))
    ∧ sm ((0 : Nat) + (1 : Nat)) ∧ ∀ (i : Nat), i < (16 : Nat) → sm ((fillS (2 : Int)).high.getD i (0 : Int)) ∧ True) ∧ True) ∧ sm (!eqSegs [Seg.a (16 : Nat) ((0 : Nat)
    + (1 : Nat)) fun j => [SV.int IntKind.u64 ((F6 k n n_1).low.getD j (0 : Int))], Seg.a (16 : Nat) ((0 : Nat) + (1 : Nat)) fun j => [SV.int IntKind.u64 ((F6 k n n_1).high.getD
    j (0 : Int))]] [Seg.a (16 : Nat) ((0 : Nat) + (1 : Nat)) fun j => [SV.int IntKind.u64 ((fillS (2 : Int)).low.getD j (0 : Int))], Seg.a (16 : Nat) ((0 : Nat) + (1
    : Nat)) fun j => [SV.int IntKind.u64 ((fillS (2 : Int)).high.getD j (0 : Int))]]) ∧ sm (!eqSegs [Seg.a (16 : Nat) ((0 : Nat) + (1 : Nat)) fun j => [SV.int IntKind.u64
    ((F6 k n n_1).low.getD j (0 : Int))], Seg.a (16 : Nat) ((0 : Nat) + (1 : Nat)) fun j => [SV.int IntKind.u64 ((F6 k n n_1).high.getD j (0 : Int))]] [Seg.a (16 : Nat)
    ((0 : Nat) + (1 : Nat)) fun j => [SV.int IntKind.u64 ((fillS (2 : Int)).low.getD j (0 : Int))], Seg.a (16 : Nat) ((0 : Nat) + (1 : Nat)) fun j => [SV.int IntKind.u64
    ((fillS (2 : Int)).high.getD j (0 : Int))]]) ∧ True ∧ n_2 = n_2 ∧ True ∧ True ∧ True ∧ True ∧ True ∧ True ∧ True ∧ True ∧ True ∧ True ∧ True ∧ True ∧ True ∧ True
    ∧ True ∧ True ∧ True ∧ True ∧ True ∧ True ∧ True ∧ True ∧ True ∧ True ∧ True ∧ True ∧ True ∧ True) ∧ ((if false = true then [] else List.map Seg.shape ([Seg.a (16
    : Nat) (1 : Nat) fun x => [SV.int IntKind.u64 (0 : Int)]] ++ ([Seg.a (16 : Nat) (1 : Nat) fun x => [SV.int IntKind.u64 (0 : Int)]] ++ []))) = if false = true then
    [] else List.map Seg.shape ([Seg.a (16 : Nat) (1 : Nat) fun x => [SV.int IntKind.u64 (0 : Int)]] ++ ([Seg.a (16 : Nat) (1 : Nat) fun x => [SV.int IntKind.u64 (0
    : Int)]] ++ []))) ∧ ((sm ((16 : Nat)) ∧ sm ((1 : Nat)) ∧ ∀ (i : Nat), i < (16 : Nat) → sm ((fillS (1 : Int)).low.getD i (0 : Int)) ∧ True) ∧ (sm ((16 : Nat)) ∧ sm
    ((1 : Nat)) ∧ ∀ (i : Nat), i < (16 : Nat) → sm ((fillS (1 : Int)).high.getD i (0 : Int)) ∧ True) ∧ True) ∧ ((if false = true then [] else List.map Seg.shape ([Seg.a
    (16 : Nat) (1 : Nat) fun x => [SV.int IntKind.u64 (0 : Int)]] ++ ([Seg.a (16 : Nat) (1 : Nat) fun x => [SV.int IntKind.u64 (0 : Int)]] ++ []))) = if false = true
    then [] else List.map Seg.shape ([Seg.a (16 : Nat) (1 : Nat) fun x => [SV.int IntKind.u64 (0 : Int)]] ++ ([Seg.a (16 : Nat) (1 : Nat) fun x => [SV.int IntKind.u64
    (0 : Int)]] ++ []))) ∧ ((sm ((16 : Nat)) ∧ sm ((1 : Nat)) ∧ ∀ (i : Nat), i < (16 : Nat) → sm ((fillS (2 : Int)).low.getD i (0 : Int)) ∧ True) ∧ (sm ((16 : Nat))
    ∧ sm ((1 : Nat)) ∧ ∀ (i : Nat), i < (16 : Nat) → sm ((fillS (2 : Int)).high.getD i (0 : Int)) ∧ True) ∧ True) ∧ ((if false = true then [] else List.map Seg.shape
    ([Seg.a (16 : Nat) (1 : Nat) fun x => [SV.int IntKind.u64 (0 : Int)]] ++ ([Seg.a (16 : Nat) (1 : Nat) fun x => [SV.int IntKind.u64 (0 : Int)]] ++ []))) = if false
    = true then [] else List.map Seg.shape ([Seg.a (16 : Nat) (1 : Nat) fun x => [SV.int IntKind.u64 (0 : Int)]] ++ ([Seg.a (16 : Nat) (1 : Nat) fun x => [SV.int IntKind.u64
    (0 : Int)]] ++ []))) ∧ ((sm ((16 : Nat)) ∧ sm ((codI IntKind.u64).n) ∧ ∀ (i : Nat), i < (16 : Nat) → sm (l.getD i (codI IntKind.u64).dft) ∧ True) ∧ (sm ((16 : Nat))
    ∧ sm ((codI IntKind.u64).n) ∧ ∀ (i : Nat), i < (16 : Nat) → sm (l_1.getD i (codI IntKind.u64).dft) ∧ True) ∧ True) ∧ ((if false = true then [] else List.map Seg.shape
    ([Seg.a (16 : Nat) (1 : Nat) fun x => [SV.int IntKind.u64 (0 : Int)]] ++ ([Seg.a (16 : Nat) (1 : Nat) fun x => [SV.int IntKind.u64 (0 : Int)]] ++ []))) = if false
    = true then [] else List.map Seg.shape ([Seg.a (16 : Nat) (1 : Nat) fun x => [SV.int IntKind.u64 (0 : Int)]] ++ ([Seg.a (16 : Nat) (1 : Nat) fun x => [SV.int IntKind.u64
    (0 : Int)]] ++ []))) ∧ ((sm ((16 : Nat)) ∧ sm ((1 : Nat)) ∧ ∀ (i : Nat), i < (16 : Nat) → sm ((F6 k n n_1).low.getD i (0 : Int)) ∧ True) ∧ (sm ((16 : Nat)) ∧ sm
    ((1 : Nat)) ∧ ∀ (i : Nat), i < (16 : Nat) → sm ((F6 k n n_1).high.getD i (0 : Int)) ∧ True) ∧ True) ∧ True))) ∧ (decide (n_3 < (64 : Int)) = false → True ∧ ((0 :
    Int) ≤ W (n_2 + (1 : Int)) ∧ W (n_2 + (1 : Int)) ≤ (16 : Int)) ∧ ((16 : Int) - W (n_2 + (1 : Int))).toNat < ((16 : Int) - n_2).toNat ∧ (k = k ∧ n = n ∧ True ∧ True
    ∧ True ∧ sm (W (k.tmod (6 : Int))) ∧ sm (W (W (n.tmod (30 : Int)) + (1 : Int))) ∧ True ∧ True ∧ True ∧ n_1 = n_1 ∧ True ∧ sm (bldE (W (k.tmod (6 : Int))) (W (W (n.tmod
    (30 : Int)) + (1 : Int)))) ∧ sm (W (n_2 + (1 : Int))) ∧ True ∧ True ∧ k = k ∧ sm (k.tmod (6 : Int)) ∧ sm (W (k.tmod (6 : Int))) ∧ n = n ∧ sm (n.tmod (30 : Int))
    ∧ sm (W (n.tmod (30 : Int))) ∧ sm (W (W (n.tmod (30 : Int)) + (1 : Int))) ∧ ((sm ((16 : Nat)) ∧ sm ((1 : Nat)) ∧ ∀ (i : Nat), i < (16 : Nat) → sm ((fillS (1 : Int)).low.getD
    i (0 : Int)) ∧ True) ∧ (sm ((16 : Nat)) ∧ sm ((1 : Nat)) ∧ ∀ (i : Nat), i < (16 : Nat) → sm ((fillS (1 : Int)).high.getD i (0 : Int)) ∧ True) ∧ True) ∧ ((sm ((16
    : Nat)) ∧ sm ((1 : Nat)) ∧ ∀ (i : Nat), i < (16 : Nat) → sm ((fillS (2 : Int)).low.getD i (0 : Int)) ∧ True) ∧ (sm ((16 : Nat)) ∧ sm ((1 : Nat)) ∧ ∀ (i : Nat), i
    < (16 : Nat) → sm ((fillS (2 : Int)).high.getD i (0 : Int)) ∧ True) ∧ True) ∧ ((sm ((16 : Nat)) ∧ sm ((0 : Nat) + (1 : Nat)) ∧ ∀ (i : Nat), i < (16 : Nat) → sm ((fillS
    (1 : Int)).low.getD i (0 : Int)) ∧ True) ∧ (sm ((16 : Nat)) ∧ sm ((0 : Nat) + (1 : Nat)) ∧ ∀ (i : Nat), i < (16 : Nat) → sm ((fillS (1 : Int)).high.getD i (0 : Int))
    ∧ True) ∧ True) ∧ n_1 = n_1 ∧ sm (W (W (n.tmod (30 : Int)) + (1 : Int))) ∧ True ∧ True ∧ True ∧ (((sm ((16 : Nat)) ∧ sm ((1 : Nat)) ∧ ∀ (i : Nat), i < (16 : Nat)
    → sm ((F6 k n n_1).low.getD i (0 : Int)) ∧ True) ∧ (sm ((16 : Nat)) ∧ sm ((1 : Nat)) ∧ ∀ (i : Nat), i < (16 : Nat) → sm ((F6 k n n_1).high.getD i (0 : Int)) ∧ True)
    ∧ True) ∧ sm (bldE (W (k.tmod (6 : Int))) (W (W (n.tmod (30 : Int)) + (1 : Int)))) ∧ True) ∧ sm (W (k.tmod (6 : Int))) ∧ ((sm ((16 : Nat)) ∧ sm ((0 : Nat) + (1 :
    Nat)) ∧ ∀ (i : Nat), i < (16 : Nat) → sm ((fillS (1 : Int)).low.getD i (0 : Int)) ∧ True) ∧ (sm ((16 : Nat)) ∧ sm ((0 : Nat) + (1 : Nat)) ∧ ∀ (i : Nat), i < (16
    : Nat) → sm ((fillS (1 : Int)).high.getD i (0 : Int)) ∧ True) ∧ True) ∧ ((sm ((16 : Nat)) ∧ sm ((0 : Nat) + (1 : Nat)) ∧ ∀ (i : Nat), i < (16 : Nat) → sm ((fillS
    (2 : Int)).low.getD i (0 : Int)) ∧ True) ∧ (sm ((16 : Nat)) ∧ sm ((0 : Nat) + (1 : Nat)) ∧ ∀ (i : Nat), i < (16 : Nat) → sm ((fillS (2 : Int)).high.getD i (0 : Int))
    ∧ True) ∧ True) ∧ n_1 = n_1 ∧ sm (W (W (n.tmod (30 : Int)) + (1 : Int))) ∧ (((sm ((16 : Nat)) ∧ sm ((1 : Nat)) ∧ ∀ (i : Nat), i < (16 : Nat) → sm ((F6 k n n_1).low.getD
    i (0 : Int)) ∧ True) ∧ (sm ((16 : Nat)) ∧ sm ((1 : Nat)) ∧ ∀ (i : Nat), i < (16 : Nat) → sm ((F6 k n n_1).high.getD i (0 : Int)) ∧ True) ∧ True) ∧ sm (bldE (W (k.tmod
    (6 : Int))) (W (W (n.tmod (30 : Int)) + (1 : Int)))) ∧ True) ∧ ((sm ((16 : Nat)) ∧ sm ((1 : Nat)) ∧ ∀ (i : Nat), i < (16 : Nat) → sm ((F6 k n n_1).low.getD i (0
    : Int)) ∧ True) ∧ (sm ((16 : Nat)) ∧ sm ((1 : Nat)) ∧ ∀ (i : Nat), i < (16 : Nat) → sm ((F6 k n n_1).high.getD i (0 : Int)) ∧ True) ∧ True) ∧ sm (bldE (W (k.tmod
    (6 : Int))) (W (W (n.tmod (30 : Int)) + (1 : Int)))) ∧ sm (bldE (W (k.tmod (6 : Int))) (W (W (n.tmod (30 : Int)) + (1 : Int)))) ∧ sm ((bldE (W (k.tmod (6 : Int)))
    (W (W (n.tmod (30 : Int)) + (1 : Int))) != (0 : Int))) ∧ True ∧ n_1 = n_1 ∧ sm ((n_1 == (0 : Int))) ∧ True ∧ ((sm ((16 : Nat)) ∧ sm ((0 : Nat) + (1 : Nat)) ∧ ∀ (i
    : Nat), i < (16 : Nat) → sm ((F6 k n n_1).low.getD i (0 : Int)) ∧ True) ∧ (sm ((16 : Nat)) ∧ sm ((0 : Nat) + (1 : Nat)) ∧ ∀ (i : Nat), i < (16 : Nat) → sm ((F6 k
    n n_1).high.getD i (0 : Int)) ∧ True) ∧ True) ∧ ((sm ((16 : Nat)) ∧ sm ((0 : Nat) + (1 : Nat)) ∧ ∀ (i : Nat), i < (16 : Nat) → sm ((fillS (1 : Int)).low.getD i (0
    : Int)) ∧ True) ∧ (sm ((16 : Nat)) ∧ sm ((0 : Nat) + (1 : Nat)) ∧ ∀ (i : Nat), i < (16 : Nat) → sm ((fillS (1 : Int)).high.getD i (0 : Int)) ∧ True) ∧ True) ∧ sm
    (!eqSegs [Seg.a (16 : Nat) ((0 : Nat) + (1 : Nat)) fun j => [SV.int IntKind.u64 ((F6 k n n_1).low.getD j (0 : Int))], Seg.a (16 : Nat) ((0 : Nat) + (1 : Nat)) fun
    j => [SV.int IntKind.u64 ((F6 k n n_1).high.getD j (0 : Int))]] [Seg.a (16 : Nat) ((0 : Nat) + (1 : Nat)) fun j => [SV.int IntKind.u64 ((fillS (1 : Int)).low.getD
    j (0 : Int))], Seg.a (16 : Nat) ((0 : Nat) + (1 : Nat)) fun j => [SV.int IntKind.u64 ((fillS (1 : Int)).high.getD j (0 : Int))]]) ∧ sm (!eqSegs [Seg.a (16 : Nat)
    ((0 : Nat) + (1 : Nat)) fun j => [SV.int IntKind.u64 ((F6 k n n_1).low.getD j (0 : Int))], Seg.a (16 : Nat) ((0 : Nat) + (1 : Nat)) fun j => [SV.int IntKind.u64
    ((F6 k n n_1).high.getD j (0 : Int))]] [Seg.a (16 : Nat) ((0 : Nat) + (1 : Nat)) fun j => [SV.int IntKind.u64 ((fillS (1 : Int)).low.getD j (0 : Int))], Seg.a (16
    : Nat) ((0 : Nat) + (1 : Nat)) fun j => [SV.int IntKind.u64 ((fillS (1 : Int)).high.getD j (0 : Int))]]) ∧ sm (!eqSegs [Seg.a (16 : Nat) ((0 : Nat) + (1 : Nat))
    fun j => [SV.int IntKind.u64 ((F6 k n n_1).low.getD j (0 : Int))], Seg.a (16 : Nat) ((0 : Nat) + (1 : Nat)) fun j => [SV.int IntKind.u64 ((F6 k n n_1).high.getD
    j (0 : Int))]] [Seg.a (16 : Nat) ((0 : Nat) + (1 : Nat)) fun j => [SV.int IntKind.u64 ((fillS (1 : Int)).low.getD j (0 : Int))], Seg.a (16 : Nat) ((0 : Nat) + (1
    : Nat)) fun j => [SV.int IntKind.u64 ((fillS (1 : Int)).high.getD j (0 : Int))]]) ∧ True ∧ n_1 = n_1 ∧ sm (W (W (n.tmod (30 : Int)) + (1 : Int))) ∧ sm ((n_1 == W
    (W (n.tmod (30 : Int)) + (1 : Int)))) ∧ True ∧ ((sm ((16 : Nat)) ∧ sm ((0 : Nat) + (1 : Nat)) ∧ ∀ (i : Nat), i < (16 : Nat) → sm ((F6 k n n_1).low.getD i (0 : Int))
    ∧ True) ∧ (sm ((16 : Nat)) ∧ sm ((0 : Nat) + (1 : Nat)) ∧ ∀ (i : Nat), i < (16 : Nat) → sm ((F6 k n n_1).high.getD i (0 : Int)) ∧ True) ∧ True) ∧ ((sm ((16 : Nat))
    ∧ sm ((0 : Nat) + (1 : Nat)) ∧ ∀ (i : Nat), i < (16 : Nat) → sm ((fillS (2 : Int)).low.getD i (0 : Int)) ∧ True) ∧ (sm ((16 : Nat)) ∧ sm ((0 : Nat) + (1 : Nat))
    ∧ ∀ (i : Nat), i < (16 : Nat) → sm ((fillS (2 : Int)).high.getD i (0 : Int)) ∧ True) ∧ True) ∧ sm (!eqSegs [Seg.a (16 : Nat) ((0 : Nat) + (1 : Nat)) fun j => [SV.int
    IntKind.u64 ((F6 k n n_1).low.getD j (0 : Int))], Seg.a (16 : Nat) ((0 : Nat) + (1 : Nat)) fun j => [SV.int IntKind.u64 ((F6 k n n_1).high.getD j (0 : Int))]] [Seg.a
    (16 : Nat) ((0 : Nat) + (1 : Nat)) fun j => [SV.int IntKind.u64 ((fillS (2 : Int)).low.getD j (0 : Int))], Seg.a (16 : Nat) ((0 : Nat) + (1 : Nat)) fun j => [SV.int
    IntKind.u64 ((fillS (2 : Int)).high.getD j (0 : Int))]]) ∧ sm (!eqSegs [Seg.a (16 : Nat) ((0 : Nat) + (1 : Nat)) fun j => [SV.int IntKind.u64 ((F6 k n n_1).low.getD
    j (0 : Int))], Seg.a (16 : Nat) ((0 : Nat) + (1 : Nat)) fun j => [SV.int IntKind.u64 ((F6 k n n_1).high.getD j (0 : Int))]] [Seg.a (16 : Nat) ((0 : Nat) + (1 : Nat))
    fun j => [SV.int IntKind.u64 ((fillS (2 : Int)).low.getD j (0 : Int))], Seg.a (16 : Nat) ((0 : Nat) + (1 : Nat)) fun j => [SV.int IntKind.u64 ((fillS (2 : Int)).high.getD
    j (0 : Int))]]) ∧ True ∧ True ∧ True ∧ True ∧ True ∧ True ∧ True ∧ True ∧ True ∧ True ∧ True ∧ True ∧ True ∧ True ∧ True ∧ True ∧ True ∧ True ∧ True ∧ True ∧ True
    ∧ True ∧ True ∧ True ∧ True ∧ True ∧ True ∧ True ∧ True ∧ True) ∧ ((if false = true then [] else List.map Seg.shape ([Seg.a (16 : Nat) (1 : Nat) fun x => [SV.int
    IntKind.u64 (0 : Int)]] ++ ([Seg.a (16 : Nat) (1 : Nat) fun x => [SV.int IntKind.u64 (0 : Int)]] ++ []))) = if false = true then [] else List.map Seg.shape ([Seg.a
    (16 : Nat) (1 : Nat) fun x => [SV.int IntKind.u64 (0 : Int)]] ++ ([Seg.a (16 : Nat) (1 : Nat) fun x => [SV.int IntKind.u64 (0 : Int)]] ++ []))) ∧ ((sm ((16 : Nat))
    ∧ sm ((1 : Nat)) ∧ ∀ (i : Nat), i < (16 : Nat) → sm ((fillS (1 : Int)).low.getD i (0 : Int)) ∧ True) ∧ (sm ((16 : Nat)) ∧ sm ((1 : Nat)) ∧ ∀ (i : Nat), i < (16 :
    Nat) → sm ((fillS (1 : Int)).high.getD i (0 : Int)) ∧ True) ∧ True) ∧ ((if false = true then [] else List.map Seg.shape ([Seg.a (16 : Nat) (1 : Nat) fun x => [SV.int
    IntKind.u64 (0 : Int)]] ++ ([Seg.a (16 : Nat) (1 : Nat) fun x => [SV.int IntKind.u64 (0 : Int)]] ++ []))) = if false = true then [] else List.map Seg.shape ([Seg.a
    (16 : Nat) (1 : Nat) fun x => [SV.int IntKind.u64 (0 : Int)]] ++ ([Seg.a (16 : Nat) (1 : Nat) fun x => [SV.int IntKind.u64 (0 : Int)]] ++ []))) ∧ ((sm ((16 : Nat))
    ∧ sm ((1 : Nat)) ∧ ∀ (i : Nat), i < (16 : Nat) → sm ((fillS (2 : Int)).low.getD i (0 : Int)) ∧ True) ∧ (sm ((16 : Nat)) ∧ sm ((1 : Nat)) ∧ ∀ (i : Nat), i < (16 :
    Nat) → sm ((fillS (2 : Int)).high.getD i (0 : Int)) ∧ True) ∧ True) ∧ ((if false = true then [] else List.map Seg.shape ([Seg.a (16 : Nat) (1 : Nat) fun x => [SV.int
    IntKind.u64 (0 : Int)]] ++ ([Seg.a (16 : Nat) (1 : Nat) fun x => [SV.int IntKind.u64 (0 : Int)]] ++ []))) = if false = true then [] else List.map Seg.shape ([Seg.a
    (16 : Nat) (1 : Nat) fun x => [SV.int IntKind.u64 (0 : Int)]] ++ ([Seg.a (16 : Nat) (1 : Nat) fun x => [SV.int IntKind.u64 (0 : Int)]] ++ []))) ∧ ((sm ((16 : Nat))
    ∧ sm ((codI IntKind.u64).n) ∧ ∀ (i : Nat), i < (16 : Nat) → sm (l.getD i (codI IntKind.u64).dft) ∧ True) ∧ (sm ((16 : Nat)) ∧ sm ((codI IntKind.u64).n) ∧ ∀ (i :
    Nat), i < (16 : Nat) → sm (l_1.getD i (codI IntKind.u64).dft) ∧ True) ∧ True) ∧ ((if false = true then [] else List.map Seg.shape ([Seg.a (16 : Nat) (1 : Nat) fun
    x => [SV.int IntKind.u64 (0 : Int)]] ++ ([Seg.a (16 : Nat) (1 : Nat) fun x => [SV.int IntKind.u64 (0 : Int)]] ++ []))) = if false = true then [] else List.map Seg.shape
    ([Seg.a (16 : Nat) (1 : Nat) fun x => [SV.int IntKind.u64 (0 : Int)]] ++ ([Seg.a (16 : Nat) (1 : Nat) fun x => [SV.int IntKind.u64 (0 : Int)]] ++ []))) ∧ ((sm ((16
    : Nat)) ∧ sm ((1 : Nat)) ∧ ∀ (i : Nat), i < (16 : Nat) → sm ((F6 k n n_1).low.getD i (0 : Int)) ∧ True) ∧ (sm ((16 : Nat)) ∧ sm ((1 : Nat)) ∧ ∀ (i : Nat), i < (16
    : Nat) → sm ((F6 k n n_1).high.getD i (0 : Int)) ∧ True) ∧ True) ∧ True)) ∧ (decide (n_2 < (16 : Int)) = false → t16 ∧ t16 ∧ True ∧ True ∧ L6 (k.tmod (6 : Int))
    (n.tmod (30 : Int) + (1 : Int)) (W (n_1 + (1 : Int))) (rr (F6 k n n_1).low) (rr (F6 k n n_1).high) ∧ (n.tmod (30 : Int) + (2 : Int) - W (n_1 + (1 : Int))).toNat
    < (n.tmod (30 : Int) + (2 : Int) - n_1).toNat ∧ (k = k ∧ n = n ∧ True ∧ True ∧ True ∧ sm (W (k.tmod (6 : Int))) ∧ sm (W (W (n.tmod (30 : Int)) + (1 : Int))) ∧ True
    ∧ True ∧ True ∧ sm (W (n_1 + (1 : Int))) ∧ True ∧ True ∧ True ∧ True ∧ True ∧ k = k ∧ sm (k.tmod (6 : Int)) ∧ sm (W (k.tmod (6 : Int))) ∧ n = n ∧ sm (n.tmod (30
    : Int)) ∧ sm (W (n.tmod (30 : Int))) ∧ sm (W (W (n.tmod (30 : Int)) + (1 : Int))) ∧ ((sm ((16 : Nat)) ∧ sm ((1 : Nat)) ∧ ∀ (i : Nat), i < (16 : Nat) → sm ((fillS
    (1 : Int)).low.getD i (0 : Int)) ∧ True) ∧ (sm ((16 : Nat)) ∧ sm ((1 : Nat)) ∧ ∀ (i : Nat), i < (16 : Nat) → sm ((fillS (1 : Int)).high.getD i (0 : Int)) ∧ True)
    ∧ True) ∧ ((sm ((16 : Nat)) ∧ sm ((1 : Nat)) ∧ ∀ (i : Nat), i < (16 : Nat) → sm ((fillS (2 : Int)).low.getD i (0 : Int)) ∧ True) ∧ (sm ((16 : Nat)) ∧ sm ((1 : Nat))
    ∧ ∀ (i : Nat), i < (16 : Nat) → sm ((fillS (2 : Int)).high.getD i (0 : Int)) ∧ True) ∧ True) ∧ ((sm ((16 : Nat)) ∧ sm ((0 : Nat) + (1 : Nat)) ∧ ∀ (i : Nat), i <
    (16 : Nat) → sm ((fillS (1 : Int)).low.getD i (0 : Int)) ∧ True) ∧ (sm ((16 : Nat)) ∧ sm ((0 : Nat) + (1 : Nat)) ∧ ∀ (i : Nat), i < (16 : Nat) → sm ((fillS (1 :
    Int)).high.getD i (0 : Int)) ∧ True) ∧ True) ∧ True ∧ True ∧ True ∧ True ∧ True ∧ True ∧ True ∧ True ∧ True ∧ True ∧ True ∧ True ∧ True ∧ True ∧ True ∧ True ∧ True
    ∧ True ∧ True ∧ True ∧ True ∧ True ∧ True ∧ True ∧ True ∧ True ∧ True ∧ True ∧ True ∧ True ∧ True ∧ True ∧ True ∧ True ∧ True ∧ True ∧ True ∧ True ∧ True ∧ True
    ∧ True ∧ True ∧ True ∧ True ∧ True ∧ True ∧ True ∧ True ∧ True ∧ True ∧ True ∧ True ∧ True ∧ True ∧ True ∧ True ∧ True ∧ True ∧ True ∧ True ∧ True ∧ True ∧ True
    ∧ True) ∧ ((if false = true then [] else List.map Seg.shape ([Seg.a (16 : Nat) (1 : Nat) fun x => [SV.int IntKind.u64 (0 : Int)]] ++ ([Seg.a (16 : Nat) (1 : Nat)
    fun x => [SV.int IntKind.u64 (0 : Int)]] ++ []))) = if false = true then [] else List.map Seg.shape ([Seg.a (16 : Nat) (1 : Nat) fun x => [SV.int IntKind.u64 (0
    : Int)]] ++ ([Seg.a (16 : Nat) (1 : Nat) fun x => [SV.int IntKind.u64 (0 : Int)]] ++ []))) ∧ ((sm ((16 : Nat)) ∧ sm ((1 : Nat)) ∧ ∀ (i : Nat), i < (16 : Nat) → sm
    ((fillS (1 : Int)).low.getD i (0 : Int)) ∧ True) ∧ (sm ((16 : Nat)) ∧ sm ((1 : Nat)) ∧ ∀ (i : Nat), i < (16 : Nat) → sm ((fillS (1 : Int)).high.getD i (0 : Int))
    ∧ True) ∧ True) ∧ ((if false = true then [] else List.map Seg.shape ([Seg.a (16 : Nat) (1 : Nat) fun x => [SV.int IntKind.u64 (0 : Int)]] ++ ([Seg.a (16 : Nat) (1
    : Nat) fun x => [SV.int IntKind.u64 (0 : Int)]] ++ []))) = if false = true then [] else List.map Seg.shape ([Seg.a (16 : Nat) (1 : Nat) fun x => [SV.int IntKind.u64
    (0 : Int)]] ++ ([Seg.a (16 : Nat) (1 : Nat) fun x => [SV.int IntKind.u64 (0 : Int)]] ++ []))) ∧ ((sm ((16 : Nat)) ∧ sm ((1 : Nat)) ∧ ∀ (i : Nat), i < (16 : Nat)
    → sm ((fillS (2 : Int)).low.getD i (0 : Int)) ∧ True) ∧ (sm ((16 : Nat)) ∧ sm ((1 : Nat)) ∧ ∀ (i : Nat), i < (16 : Nat) → sm ((fillS (2 : Int)).high.getD i (0 :
    Int)) ∧ True) ∧ True) ∧ ((if false = true then [] else List.map Seg.shape ([Seg.a (16 : Nat) (1 : Nat) fun x => [SV.int IntKind.u64 (0 : Int)]] ++ ([Seg.a (16 :
    Nat) (1 : Nat) fun x => [SV.int IntKind.u64 (0 : Int)]] ++ []))) = if false = true then [] else List.map Seg.shape ([Seg.a (16 : Nat) (1 : Nat) fun x => [SV.int
    IntKind.u64 (0 : Int)]] ++ ([Seg.a (16 : Nat) (1 : Nat) fun x => [SV.int IntKind.u64 (0 : Int)]] ++ []))) ∧ ((sm ((16 : Nat)) ∧ (0 : Nat) + (1 : Nat) = (codI IntKind.u64).n
    ∧ ∀ (i : Nat), i < (16 : Nat) → (F6 k n n_1).low.getD i (0 : Int) = (rr (F6 k n n_1).low).getD i (codI IntKind.u64).dft ∧ True) ∧ (sm ((16 : Nat)) ∧ (0 : Nat) +
    (1 : Nat) = (codI IntKind.u64).n ∧ ∀ (i : Nat), i < (16 : Nat) → (F6 k n n_1).high.getD i (0 : Int) = (rr (F6 k n n_1).high).getD i (codI IntKind.u64).dft ∧ True)
    ∧ True) ∧ True))) ∧ ((n_1 == W (W (n.tmod (30 : Int)) + (1 : Int))) = false → True ∧ True ∧ (((0 : Int) ≤ (0 : Int) ∧ (0 : Int) ≤ (16 : Int)) ∧ (k = k ∧ n = n ∧
    True ∧ True ∧ True ∧ sm (W (k.tmod (6 : Int))) ∧ sm (W (W (n.tmod (30 : Int)) + (1 : Int))) ∧ True ∧ True ∧ True ∧ n_1 = n_1 ∧ True ∧ sm (bldE (W (k.tmod (6 : Int)))
    (W (W (n.tmod (30 : Int)) + (1 : Int)))) ∧ sm ((0 : Int)) ∧ True ∧ True ∧ k = k ∧ sm (k.tmod (6 : Int)) ∧ sm (W (k.tmod (6 : Int))) ∧ n = n ∧ sm (n.tmod (30 : Int))
    ∧ sm (W (n.tmod (30 : Int))) ∧ sm (W (W (n.tmod (30 : Int)) + (1 : Int))) ∧ ((sm ((16 : Nat)) ∧ sm ((1 : Nat)) ∧ ∀ (i : Nat), i < (16 : Nat) → sm ((fillS (1 : Int)).low.getD
    i (0 : Int)) ∧ True) ∧ (sm ((16 : Nat)) ∧ sm ((1 : Nat)) ∧ ∀ (i : Nat), i < (16 : Nat) → sm ((fillS (1 : Int)).high.getD i (0 : Int)) ∧ True) ∧ True) ∧ ((sm ((16
    : Nat)) ∧ sm ((1 : Nat)) ∧ ∀ (i : Nat), i < (16 : Nat) → sm ((fillS (2 : Int)).low.getD i (0 : Int)) ∧ True) ∧ (sm ((16 : Nat)) ∧ sm ((1 : Nat)) ∧ ∀ (i : Nat), i
    < (16 : Nat) → sm ((fillS (2 : Int)).high.getD i (0 : Int)) ∧ True) ∧ True) ∧ ((sm ((16 : Nat)) ∧ sm ((0 : Nat) + (1 : Nat)) ∧ ∀ (i : Nat), i < (16 : Nat) → sm ((fillS
    (1 : Int)).low.getD i (0 : Int)) ∧ True) ∧ (sm ((16 : Nat)) ∧ sm ((0 : Nat) + (1 : Nat)) ∧ ∀ (i : Nat), i < (16 : Nat) → sm ((fillS (1 : Int)).high.getD i (0 : Int))
    ∧ True) ∧ True) ∧ n_1 = n_1 ∧ sm (W (W (n.tmod (30 : Int)) + (1 : Int))) ∧ True ∧ True ∧ True ∧ (((sm ((16 : Nat)) ∧ sm ((1 : Nat)) ∧ ∀ (i : Nat), i < (16 : Nat)
    → sm ((F6 k n n_1).low.getD i (0 : Int)) ∧ True) ∧ (sm ((16 : Nat)) ∧ sm ((1 : Nat)) ∧ ∀ (i : Nat), i < (16 : Nat) → sm ((F6 k n n_1).high.getD i (0 : Int)) ∧ True)
    ∧ True) ∧ sm (bldE (W (k.tmod (6 : Int))) (W (W (n.tmod (30 : Int)) + (1 : Int)))) ∧ True) ∧ sm (W (k.tmod (6 : Int))) ∧ ((sm ((16 : Nat)) ∧ sm ((0 : Nat) + (1 :
    Nat)) ∧ ∀ (i : Nat), i < (16 : Nat) → sm ((fillS (1 : Int)).low.getD i (0 : Int)) ∧ True) ∧ (sm ((16 : Nat)) ∧ sm ((0 : Nat) + (1 : Nat)) ∧ ∀ (i : Nat), i < (16
    : Nat) → sm ((fillS (1 : Int)).high.getD i (0 : Int)) ∧ True) ∧ True) ∧ ((sm ((16 : Nat)) ∧ sm ((0 : Nat) + (1 : Nat)) ∧ ∀ (i : Nat), i < (16 : Nat) → sm ((fillS
    (2 : Int)).low.getD i (0 : Int)) ∧ True) ∧ (sm ((16 : Nat)) ∧ sm ((0 : Nat) + (1 : Nat)) ∧ ∀ (i : Nat), i < (16 : Nat) → sm ((fillS (2 : Int)).high.getD i (0 : Int))
    ∧ True) ∧ True) ∧ n_1 = n_1 ∧ sm (W (W (n.tmod (30 : Int)) + (1 : Int))) ∧ (((sm ((16 : Nat)) ∧ sm ((1 : Nat)) ∧ ∀ (i : Nat), i < (16 : Nat) → sm ((F6 k n n_1).low.getD
    i (0 : Int)) ∧ True) ∧ (sm ((16 : Nat)) ∧ sm ((1 : Nat)) ∧ ∀ (i : Nat), i < (16 : Nat) → sm ((F6 k n n_1).high.getD i (0 : Int)) ∧ True) ∧ True) ∧ sm (bldE (W (k.tmod
    (6 : Int))) (W (W (n.tmod (30 : Int)) + (1 : Int)))) ∧ True) ∧ ((sm ((16 : Nat)) ∧ sm ((1 : Nat)) ∧ ∀ (i : Nat), i < (16 : Nat) → sm ((F6 k n n_1).low.getD i (0
    : Int)) ∧ True) ∧ (sm ((16 : Nat)) ∧ sm ((1 : Nat)) ∧ ∀ (i : Nat), i < (16 : Nat) → sm ((F6 k n n_1).high.getD i (0 : Int)) ∧ True) ∧ True) ∧ sm (bldE (W (k.tmod
    (6 : Int))) (W (W (n.tmod (30 : Int)) + (1 : Int)))) ∧ sm (bldE (W (k.tmod (6 : Int))) (W (W (n.tmod (30 : Int)) + (1 : Int)))) ∧ sm ((bldE (W (k.tmod (6 : Int)))
    (W (W (n.tmod (30 : Int)) + (1 : Int))) != (0 : Int))) ∧ True ∧ n_1 = n_1 ∧ sm ((n_1 == (0 : Int))) ∧ True ∧ ((sm ((16 : Nat)) ∧ sm ((0 : Nat) + (1 : Nat)) ∧ ∀ (i
    : Nat), i < (16 : Nat) → sm ((F6 k n n_1).low.getD i (0 : Int)) ∧ True) ∧ (sm ((16 : Nat)) ∧ sm ((0 : Nat) + (1 : Nat)) ∧ ∀ (i : Nat), i < (16 : Nat) → sm ((F6 k
    n n_1).high.getD i (0 : Int)) ∧ True) ∧ True) ∧ ((sm ((16 : Nat)) ∧ sm ((0 : Nat) + (1 : Nat)) ∧ ∀ (i : Nat), i < (16 : Nat) → sm ((fillS (1 : Int)).low.getD i (0
    : Int)) ∧ True) ∧ (sm ((16 : Nat)) ∧ sm ((0 : Nat) + (1 : Nat)) ∧ ∀ (i : Nat), i < (16 : Nat) → sm ((fillS (1 : Int)).high.getD i (0 : Int)) ∧ True) ∧ True) ∧ sm
    (!eqSegs [Seg.a (16 : Nat) ((0 : Nat) + (1 : Nat)) fun j => [SV.int IntKind.u64 ((F6 k n n_1).low.getD j (0 : Int))], Seg.a (16 : Nat) ((0 : Nat) + (1 : Nat)) fun
    j => [SV.int IntKind.u64 ((F6 k n n_1).high.getD j (0 : Int))]] [Seg.a (16 : Nat) ((0 : Nat) + (1 : Nat)) fun j => [SV.int IntKind.u64 ((fillS (1 : Int)).low.getD
    j (0 : Int))], Seg.a (16 : Nat) ((0 : Nat) + (1 : Nat)) fun j => [SV.int IntKind.u64 ((fillS (1 : Int)).high.getD j (0 : Int))]]) ∧ sm (!eqSegs [Seg.a (16 : Nat)
    ((0 : Nat) + (1 : Nat)) fun j => [SV.int IntKind.u64 ((F6 k n n_1).low.getD j (0 : Int))], Seg.a (16 : Nat) ((0 : Nat) + (1 : Nat)) fun j => [SV.int IntKind.u64
    ((F6 k n n_1).high.getD j (0 : Int))]] [Seg.a (16 : Nat) ((0 : Nat) + (1 : Nat)) fun j => [SV.int IntKind.u64 ((fillS (1 : Int)).low.getD j (0 : Int))], Seg.a (16
    : Nat) ((0 : Nat) + (1 : Nat)) fun j => [SV.int IntKind.u64 ((fillS (1 : Int)).high.getD j (0 : Int))]]) ∧ sm (!eqSegs [Seg.a (16 : Nat) ((0 : Nat) + (1 : Nat))
    fun j => [SV.int IntKind.u64 ((F6 k n n_1).low.getD j (0 : Int))], Seg.a (16 : Nat) ((0 : Nat) + (1 : Nat)) fun j => [SV.int IntKind.u64 ((F6 k n n_1).high.getD
    j (0 : Int))]] [Seg.a (16 : Nat) ((0 : Nat) + (1 : Nat)) fun j => [SV.int IntKind.u64 ((fillS (1 : Int)).low.getD j (0 : Int))], Seg.a (16 : Nat) ((0 : Nat) + (1
    : Nat)) fun j => [SV.int IntKind.u64 ((fillS (1 : Int)).high.getD j (0 : Int))]]) ∧ True ∧ n_1 = n_1 ∧ sm (W (W (n.tmod (30 : Int)) + (1 : Int))) ∧ sm ((n_1 == W
    (W (n.tmod (30 : Int)) + (1 : Int)))) ∧ True ∧ True ∧ True ∧ True ∧ True ∧ True ∧ True ∧ True ∧ True ∧ True ∧ True ∧ True ∧ True ∧ True ∧ True ∧ True ∧ True ∧ True
    ∧ True ∧ True ∧ True ∧ True ∧ True ∧ True ∧ True ∧ True ∧ True ∧ True ∧ True ∧ True ∧ True ∧ True ∧ True ∧ True ∧ True) ∧ ((if false = true then [] else List.map
    Seg.shape ([Seg.a (16 : Nat) (1 : Nat) fun x => [SV.int IntKind.u64 (0 : Int)]] ++ ([Seg.a (16 : Nat) (1 : Nat) fun x => [SV.int IntKind.u64 (0 : Int)]] ++ [])))
    = if false = true then [] else List.map Seg.shape ([Seg.a (16 : Nat) (1 : Nat) fun x => [SV.int IntKind.u64 (0 : Int)]] ++ ([Seg.a (16 : Nat) (1 : Nat) fun x =>
    [SV.int IntKind.u64 (0 : Int)]] ++ []))) ∧ ((sm ((16 : Nat)) ∧ sm ((1 : Nat)) ∧ ∀ (i : Nat), i < (16 : Nat) → sm ((fillS (1 : Int)).low.getD i (0 : Int)) ∧ True)
    ∧ (sm ((16 : Nat)) ∧ sm ((1 : Nat)) ∧ ∀ (i : Nat), i < (16 : Nat) → sm ((fillS (1 : Int)).high.getD i (0 : Int)) ∧ True) ∧ True) ∧ ((if false = true then [] else
    List.map Seg.shape ([Seg.a (16 : Nat) (1 : Nat) fun x => [SV.int IntKind.u64 (0 : Int)]] ++ ([Seg.a (16 : Nat) (1 : Nat) fun x => [SV.int IntKind.u64 (0 : Int)]]
    ++ []))) = if false = true then [] else List.map Seg.shape ([Seg.a (16 : Nat) (1 : Nat) fun x => [SV.int IntKind.u64 (0 : Int)]] ++ ([Seg.a (16 : Nat) (1 : Nat)
    fun x => [SV.int IntKind.u64 (0 : Int)]] ++ []))) ∧ ((sm ((16 : Nat)) ∧ sm ((1 : Nat)) ∧ ∀ (i : Nat), i < (16 : Nat) → sm ((fillS (2 : Int)).low.getD i (0 : Int))
    ∧ True) ∧ (sm ((16 : Nat)) ∧ sm ((1 : Nat)) ∧ ∀ (i : Nat), i < (16 : Nat) → sm ((fillS (2 : Int)).high.getD i (0 : Int)) ∧ True) ∧ True) ∧ ((if false = true then
    [] else List.map Seg.shape ([Seg.a (16 : Nat) (1 : Nat) fun x => [SV.int IntKind.u64 (0 : Int)]] ++ ([Seg.a (16 : Nat) (1 : Nat) fun x => [SV.int IntKind.u64 (0
    : Int)]] ++ []))) = if false = true then [] else List.map Seg.shape ([Seg.a (16 : Nat) (1 : Nat) fun x => [SV.int IntKind.u64 (0 : Int)]] ++ ([Seg.a (16 : Nat) (1
    : Nat) fun x => [SV.int IntKind.u64 (0 : Int)]] ++ []))) ∧ ((sm ((16 : Nat)) ∧ sm ((codI IntKind.u64).n) ∧ ∀ (i : Nat), i < (16 : Nat) → sm (l.getD i (codI IntKind.u64).dft)
    ∧ True) ∧ (sm ((16 : Nat)) ∧ sm ((codI IntKind.u64).n) ∧ ∀ (i : Nat), i < (16 : Nat) → sm (l_1.getD i (codI IntKind.u64).dft) ∧ True) ∧ True) ∧ ((if false = true
    then [] else List.map Seg.shape ([Seg.a (16 : Nat) (1 : Nat) fun x => [SV.int IntKind.u64 (0 : Int)]] ++ ([Seg.a (16 : Nat) (1 : Nat) fun x => [SV.int IntKind.u64
    (0 : Int)]] ++ []))) = if false = true then [] else List.map Seg.shape ([Seg.a (16 : Nat) (1 : Nat) fun x => [SV.int IntKind.u64 (0 : Int)]] ++ ([Seg.a (16 : Nat)
    (1 : Nat) fun x => [SV.int IntKind.u64 (0 : Int)]] ++ []))) ∧ ((sm ((16 : Nat)) ∧ sm ((1 : Nat)) ∧ ∀ (i : Nat), i < (16 : Nat) → sm ((F6 k n n_1).low.getD i (0 :
    Int)) ∧ True) ∧ (sm ((16 : Nat)) ∧ sm ((1 : Nat)) ∧ ∀ (i : Nat), i < (16 : Nat) → sm ((F6 k n n_1).high.getD i (0 : Int)) ∧ True) ∧ True) ∧ True) ∧ ∀ (n_2 : Int),
    (0 : Int) ≤ n_2 ∧ n_2 ≤ (16 : Int) → True ∧ (decide (n_2 < (16 : Int)) = true → True ∧ (((0 : Int) ≤ (0 : Int) ∧ (0 : Int) ≤ (64 : Int)) ∧ (k = k ∧ n = n ∧ True
    ∧ True ∧ True ∧ sm (W (k.tmod (6 : Int))) ∧ sm (W (W (n.tmod (30 : Int)) + (1 : Int))) ∧ True ∧ True ∧ True ∧ n_1 = n_1 ∧ True ∧ sm (bldE (W (k.tmod (6 : Int)))
    (W (W (n.tmod (30 : Int)) + (1 : Int)))) ∧ n_2 = n_2 ∧ sm ((0 : Int)) ∧ True ∧ k = k ∧ sm (k.tmod (6 : Int)) ∧ sm (W (k.tmod (6 : Int))) ∧ n = n ∧ sm (n.tmod (30
    : Int)) ∧ sm (W (n.tmod (30 : Int))) ∧ sm (W (W (n.tmod (30 : Int)) + (1 : Int))) ∧ ((sm ((16 : Nat)) ∧ sm ((1 : Nat)) ∧ ∀ (i : Nat), i < (16 : Nat) → sm ((fillS
    (1 : Int)).low.getD i (0 : Int)) ∧ True) ∧ (sm ((16 : Nat)) ∧ sm ((1 : Nat)) ∧ ∀ (i : Nat), i < (16 : Nat) → sm ((fillS (1 : Int)).high.getD i (0 : Int)) ∧ True)
    ∧ True) ∧ ((sm ((16 : Nat)) ∧ sm ((1 : Nat)) ∧ ∀ (i : Nat), i < (16 : Nat) → sm ((fillS (2 : Int)).low.getD i (0 : Int)) ∧ True) ∧ (sm ((16 : Nat)) ∧ sm ((1 : Nat))
    ∧ ∀ (i : Nat), i < (16 : Nat) → sm ((fillS (2 : Int)).high.getD i (0 : Int)) ∧ True) ∧ True) ∧ ((sm ((16 : Nat)) ∧ sm ((0 : Nat) + (1 : Nat)) ∧ ∀ (i : Nat), i <
    (16 : Nat) → sm ((fillS (1 : Int)).low.getD i (0 : Int)) ∧ True) ∧ (sm ((16 : Nat)) ∧ sm ((0 : Nat) + (1 : Nat)) ∧ ∀ (i : Nat), i < (16 : Nat) → sm ((fillS (1 :
    Int)).high.getD i (0 : Int)) ∧ True) ∧ True) ∧ n_1 = n_1 ∧ sm (W (W (n.tmod (30 : Int)) + (1 : Int))) ∧ True ∧ True ∧ True ∧ (((sm ((16 : Nat)) ∧ sm ((1 : Nat))
    ∧ ∀ (i : Nat), i < (16 : Nat) → sm ((F6 k n n_1).low.getD i (0 : Int)) ∧ True) ∧ (sm ((16 : Nat)) ∧ sm ((1 : Nat)) ∧ ∀ (i : Nat), i < (16 : Nat) → sm ((F6 k n n_1).high.getD
    i (0 : Int)) ∧ True) ∧ True) ∧ sm (bldE (W (k.tmod (6 : Int))) (W (W (n.tmod (30 : Int)) + (1 : Int)))) ∧ True) ∧ sm (W (k.tmod (6 : Int))) ∧ ((sm ((16 : Nat)) ∧
    sm ((0 : Nat) + (1 : Nat)) ∧ ∀ (i : Nat), i < (16 : Nat) → sm ((fillS (1 : Int)).low.getD i (0 : Int)) ∧ True) ∧ (sm ((16 : Nat)) ∧ sm ((0 : Nat) + (1 : Nat)) ∧
    ∀ (i : Nat), i < (16 : Nat) → sm ((fillS (1 : Int)).high.getD i (0 : Int)) ∧ True) ∧ True) ∧ ((sm ((16 : Nat)) ∧ sm ((0 : Nat) + (1 : Nat)) ∧ ∀ (i : Nat), i < (16
    : Nat) → sm ((fillS (2 : Int)).low.getD i (0 : Int)) ∧ True) ∧ (sm ((16 : Nat)) ∧ sm ((0 : Nat) + (1 : Nat)) ∧ ∀ (i : Nat), i < (16 : Nat) → sm ((fillS (2 : Int)).high.getD
    i (0 : Int)) ∧ True) ∧ True) ∧ n_1 = n_1 ∧ sm (W (W (n.tmod (30 : Int)) + (1 : Int))) ∧ (((sm ((16 : Nat)) ∧ sm ((1 : Nat)) ∧ ∀ (i : Nat), i < (16 : Nat) → sm ((F6
    k n n_1).low.getD i (0 : Int)) ∧ True) ∧ (sm ((16 : Nat)) ∧ sm ((1 : Nat)) ∧ ∀ (i : Nat), i < (16 : Nat) → sm ((F6 k n n_1).high.getD i (0 : Int)) ∧ True) ∧ True)
    ∧ sm (bldE (W (k.tmod (6 : Int))) (W (W (n.tmod (30 : Int)) + (1 : Int)))) ∧ True) ∧ ((sm ((16 : Nat)) ∧ sm ((1 : Nat)) ∧ ∀ (i : Nat), i < (16 : Nat) → sm ((F6 k
    n n_1).low.getD i (0 : Int)) ∧ True) ∧ (sm ((16 : Nat)) ∧ sm ((1 : Nat)) ∧ ∀ (i : Nat), i < (16 : Nat) → sm ((F6 k n n_1).high.getD i (0 : Int)) ∧ True) ∧ True)
    ∧ sm (bldE (W (k.tmod (6 : Int))) (W (W (n.tmod (30 : Int)) + (1 : Int)))) ∧ sm (bldE (W (k.tmod (6 : Int))) (W (W (n.tmod (30 : Int)) + (1 : Int)))) ∧ sm ((bldE
    (W (k.tmod (6 : Int))) (W (W (n.tmod (30 : Int)) + (1 : Int))) != (0 : Int))) ∧ True ∧ n_1 = n_1 ∧ sm ((n_1 == (0 : Int))) ∧ True ∧ ((sm ((16 : Nat)) ∧ sm ((0 :
    Nat) + (1 : Nat)) ∧ ∀ (i : Nat), i < (16 : Nat) → sm ((F6 k n n_1).low.getD i (0 : Int)) ∧ True) ∧ (sm ((16 : Nat)) ∧ sm ((0 : Nat) + (1 : Nat)) ∧ ∀ (i : Nat), i
    < (16 : Nat) → sm ((F6 k n n_1).high.getD i (0 : Int)) ∧ True) ∧ True) ∧ ((sm ((16 : Nat)) ∧ sm ((0 : Nat) + (1 : Nat)) ∧ ∀ (i : Nat), i < (16 : Nat) → sm ((fillS
    (1 : Int)).low.getD i (0 : Int)) ∧ True) ∧ (sm ((16 : Nat)) ∧ sm ((0 : Nat) + (1 : Nat)) ∧ ∀ (i : Nat), i < (16 : Nat) → sm ((fillS (1 : Int)).high.getD i (0 : Int))
    ∧ True) ∧ True) ∧ sm (!eqSegs [Seg.a (16 : Nat) ((0 : Nat) + (1 : Nat)) fun j => [SV.int IntKind.u64 ((F6 k n n_1).low.getD j (0 : Int))], Seg.a (16 : Nat) ((0 :
    Nat) + (1 : Nat)) fun j => [SV.int IntKind.u64 ((F6 k n n_1).high.getD j (0 : Int))]] [Seg.a (16 : Nat) ((0 : Nat) + (1 : Nat)) fun j => [SV.int IntKind.u64 ((fillS
    (1 : Int)).low.getD j (0 : Int))], Seg.a (16 : Nat) ((0 : Nat) + (1 : Nat)) fun j => [SV.int IntKind.u64 ((fillS (1 : Int)).high.getD j (0 : Int))]]) ∧ sm (!eqSegs
    [Seg.a (16 : Nat) ((0 : Nat) + (1 : Nat)) fun j => [SV.int IntKind.u64 ((F6 k n n_1).low.getD j (0 : Int))], Seg.a (16 : Nat) ((0 : Nat) + (1 : Nat)) fun j => [SV.int
    IntKind.u64 ((F6 k n n_1).high.getD j (0 : Int))]] [Seg.a (16 : Nat) ((0 : Nat) + (1 : Nat)) fun j => [SV.int IntKind.u64 ((fillS (1 : Int)).low.getD j (0 : Int))],
    Seg.a (16 : Nat) ((0 : Nat) + (1 : Nat)) fun j => [SV.int IntKind.u64 ((fillS (1 : Int)).high.getD j (0 : Int))]]) ∧ sm (!eqSegs [Seg.a (16 : Nat) ((0 : Nat) + (1
    : Nat)) fun j => [SV.int IntKind.u64 ((F6 k n n_1).low.getD j (0 : Int))], Seg.a (16 : Nat) ((0 : Nat) + (1 : Nat)) fun j => [SV.int IntKind.u64 ((F6 k n n_1).high.getD
    j (0 : Int))]] [Seg.a (16 : Nat) ((0 : Nat) + (1 : Nat)) fun j => [SV.int IntKind.u64 ((fillS (1 : Int)).low.getD j (0 : Int))], Seg.a (16 : Nat) ((0 : Nat) + (1
    : Nat)) fun j => [SV.int IntKind.u64 ((fillS (1 : Int)).high.getD j (0 : Int))]]) ∧ True ∧ n_1 = n_1 ∧ sm (W (W (n.tmod (30 : Int)) + (1 : Int))) ∧ sm ((n_1 == W
    (W (n.tmod (30 : Int)) + (1 : Int)))) ∧ True ∧ True ∧ True ∧ True ∧ True ∧ True ∧ n_2 = n_2 ∧ True ∧ True ∧ True ∧ True ∧ True ∧ True ∧ True ∧ True ∧ True ∧ True
    ∧ True ∧ True ∧ True ∧ True ∧ True ∧ True ∧ True ∧ True ∧ True ∧ True ∧ True ∧ True ∧ True ∧ True ∧ True ∧ True ∧ True ∧ True) ∧ ((if false = true then [] else List.map
    Seg.shape ([Seg.a (16 : Nat) (1 : Nat) fun x => [SV.int IntKind.u64 (0 : Int)]] ++ ([Seg.a (16 : Nat) (1 : Nat) fun x => [SV.int IntKind.u64 (0 : Int)]] ++ [])))
    = if false = true then [] else List.map Seg.shape ([Seg.a (16 : Nat) (1 : Nat) fun x => [SV.int IntKind.u64 (0 : Int)]] ++ ([Seg.a (16 : Nat) (1 : Nat) fun x =>
    [SV.int IntKind.u64 (0 : Int)]] ++ []))) ∧ ((sm ((16 : Nat)) ∧ sm ((1 : Nat)) ∧ ∀ (i : Nat), i < (16 : Nat) → sm ((fillS (1 : Int)).low.getD i (0 : Int)) ∧ True)
    ∧ (sm ((16 : Nat)) ∧ sm ((1 : Nat)) ∧ ∀ (i : Nat), i < (16 : Nat) → sm ((fillS (1 : Int)).high.getD i (0 : Int)) ∧ True) ∧ True) ∧ ((if false = true then [] else
    List.map Seg.shape ([Seg.a (16 : Nat) (1 : Nat) fun x => [SV.int IntKind.u64 (0 : Int)]] ++ ([Seg.a (16 : Nat) (1 : Nat) fun x => [SV.int IntKind.u64 (0 : Int)]]
    ++ []))) = if false = true then [] else List.map Seg.shape ([Seg.a (16 : Nat) (1 : Nat) fun x => [SV.int IntKind.u64 (0 : Int)]] ++ ([Seg.a (16 : Nat) (1 : Nat)
    fun x => [SV.int IntKind.u64 (0 : Int)]] ++ []))) ∧ ((sm ((16 : Nat)) ∧ sm ((1 : Nat)) ∧ ∀ (i : Nat), i < (16 : Nat) → sm ((fillS (2 : Int)).low.getD i (0 : Int))
    ∧ True) ∧ (sm ((16 : Nat)) ∧ sm ((1 : Nat)) ∧ ∀ (i : Nat), i < (16 : Nat) → sm ((fillS (2 : Int)).high.getD i (0 : Int)) ∧ True) ∧ True) ∧ ((if false = true then
    [] else List.map Seg.shape ([Seg.a (16 : Nat) (1 : Nat) fun x => [SV.int IntKind.u64 (0 : Int)]] ++ ([Seg.a (16 : Nat) (1 : Nat) fun x => [SV.int IntKind.u64 (0
    : Int)]] ++ []))) = if false = true then [] else List.map Seg.shape ([Seg.a (16 : Nat) (1 : Nat) fun x => [SV.int IntKind.u64 (0 : Int)]] ++ ([Seg.a (16 : Nat) (1
    : Nat) fun x => [SV.int IntKind.u64 (0 : Int)]] ++ []))) ∧ ((sm ((16 : Nat)) ∧ sm ((codI IntKind.u64).n) ∧ ∀ (i : Nat), i < (16 : Nat) → sm (l.getD i (codI IntKind.u64).dft)
    ∧ True) ∧ (sm ((16 : Nat)) ∧ sm ((codI IntKind.u64).n) ∧ ∀ (i : Nat), i < (16 : Nat) → sm (l_1.getD i (codI IntKind.u64).dft) ∧ True) ∧ True) ∧ ((if false = true
    then [] else List.map Seg.shape ([Seg.a (16 : Nat) (1 : Nat) fun x => [SV.int IntKind.u64 (0 : Int)]] ++ ([Seg.a (16 : Nat) (1 : Nat) fun x => [SV.int IntKind.u64
    (0 : Int)]] ++ []))) = if false = true then [] else List.map Seg.shape ([Seg.a (16 : Nat) (1 : Nat) fun x => [SV.int IntKind.u64 (0 : Int)]] ++ ([Seg.a (16 : Nat)
    (1 : Nat) fun x => [SV.int IntKind.u64 (0 : Int)]] ++ []))) ∧ ((sm ((16 : Nat)) ∧ sm ((1 : Nat)) ∧ ∀ (i : Nat), i < (16 : Nat) → sm ((F6 k n n_1).low.getD i (0 :
    Int)) ∧ True) ∧ (sm ((16 : Nat)) ∧ sm ((1 : Nat)) ∧ ∀ (i : Nat), i < (16 : Nat) → sm ((F6 k n n_1).high.getD i (0 : Int)) ∧ True) ∧ True) ∧ True) ∧ ∀ (n_3 : Int),
    (0 : Int) ≤ n_3 ∧ n_3 ≤ (64 : Int) → True ∧ (decide (n_3 < (64 : Int)) = true → (t16 ∧ t16 ∧ True) ∧ True ∧ True ∧ ((((∀ (i : Nat), i < (16 : Nat) → true = true
    ∧ True) ∧ ∀ (i : Nat), i < (16 : Nat) → true = true ∧ True) ∧ True ∧ True) ∧ okF { low := rr (F6 k n n_1).low, high := rr (F6 k n n_1).high : Fr }) ∧ True ∧ ((getS
    { low := rr (F6 k n n_1).low, high := rr (F6 k n n_1).high : Fr } n_3 n_2 != (1 : Int)) = true → ((getS { low := rr (F6 k n n_1).low, high := rr (F6 k n n_1).high : Fr }
    n_3 n_2 != (2 : Int)) = true → True ∧ True ∧ True ∧ true = false ∧ True) ∧ ((getS { low := rr (F6 k n n_1).low, high := rr (F6 k n n_1).high : Fr } n_3 n_2 != (2
    : Int)) = false → (t16 ∧ t16 ∧ True) ∧ True ∧ True ∧ ((((∀ (i : Nat), i < (16 : Nat) → true = true ∧ True) ∧ ∀ (i : Nat), i < (16 : Nat) → true = true ∧ True) ∧
    True ∧ True) ∧ okF { low := rowL (codI IntKind.u64) (16 : Nat) fun j => (codI IntKind.u64).enc (l.getD j (codI IntKind.u64).dft), high := rowL (codI IntKind.u64) (16 : Nat) fun j => (codI IntKind.u64).enc (l_1.getD j (codI IntKind.u64).dft) : Fr })
    ∧ True ∧ (decide (getS { low := rr (F6 k n n_1).low, high := rr (F6 k n n_1).high : Fr } n_3 n_2 < getS { low := rowL (codI IntKind.u64) (16 : Nat) fun j => (codI IntKind.u64).enc (l.getD j (codI IntKind.u64).dft), high := rowL (codI IntKind.u64) (16 : Nat) fun j => (codI IntKind.u64).enc (l_1.getD j (codI IntKind.u64).dft) : Fr }
    n_3 n_2) = true → True ∧ True ∧ true = false ∧ True) ∧ (decide (getS { low := rr (F6 k n n_1).low, high := rr (F6 k n n_1).high : Fr } n_3 n_2 < getS { low := rowL (codI IntKind.u64) (16 : Nat) fun j => (codI IntKind.u64).enc (l.getD j (codI IntKind.u64).dft), high := rowL (codI IntKind.u64) (16 : Nat) fun j => (codI IntKind.u64).enc (l_1.getD j (codI IntKind.u64).dft) : Fr }
    n_3 n_2) = false → True ∧ ((0 : Int) ≤ W (n_3 + (1 : Int)) ∧ W (n_3 + (1 : Int)) ≤ (64 : Int)) ∧ ((64 : Int) - W (n_3 + (1 : Int))).toNat < ((64 : Int) - n_3).toNat
    ∧ (k = k ∧ n = n ∧ True ∧ True ∧ True ∧ sm (W (k.tmod (6 : Int))) ∧ sm (W (W (n.tmod (30 : Int)) + (1 : Int))) ∧ True ∧ True ∧ True ∧ n_1 = n_1 ∧ True ∧ sm (bldE
    (W (k.tmod (6 : Int))) (W (W (n.tmod (30 : Int)) + (1 : Int)))) ∧ n_2 = n_2 ∧ sm (W (n_3 + (1 : Int))) ∧ True ∧ k = k ∧ sm (k.tmod (6 : Int)) ∧ sm (W (k.tmod (6
    : Int))) ∧ n = n ∧ sm (n.tmod (30 : Int)) ∧ sm (W (n.tmod (30 : Int))) ∧ sm (W (W (n.tmod (30 : Int)) + (1 : Int))) ∧ ((sm ((16 : Nat)) ∧ sm ((1 : Nat)) ∧ ∀ (i :
    Nat), i < (16 : Nat) → sm ((fillS (1 : Int)).low.getD i (0 : Int)) ∧ True) ∧ (sm ((16 : Nat)) ∧ sm ((1 : Nat)) ∧ ∀ (i : Nat), i < (16 : Nat) → sm ((fillS (1 : Int)).high.getD
    i (0 : Int)) ∧ True) ∧ True) ∧ ((sm ((16 : Nat)) ∧ sm ((1 : Nat)) ∧ ∀ (i : Nat), i < (16 : Nat) → sm ((fillS (2 : Int)).low.getD i (0 : Int)) ∧ True) ∧ (sm ((16
    : Nat)) ∧ sm ((1 : Nat)) ∧ ∀ (i : Nat), i < (16 : Nat) → sm ((fillS (2 : Int)).high.getD i (0 : Int)) ∧ True) ∧ True) ∧ ((sm ((16 : Nat)) ∧ sm ((0 : Nat) + (1 :
    Nat)) ∧ ∀ (i : Nat), i < (16 : Nat) → sm ((fillS (1 : Int)).low.getD i (0 : Int)) ∧ True) ∧ (sm ((16 : Nat)) ∧ sm ((0 : Nat) + (1 : Nat)) ∧ ∀ (i : Nat), i < (16
    : Nat) → sm ((fillS (1 : Int)).high.getD i (0 : Int)) ∧ True) ∧ True) ∧ n_1 = n_1 ∧ sm (W (W (n.tmod (30 : Int)) + (1 : Int))) ∧ True ∧ True ∧ True ∧ (((sm ((16
    : Nat)) ∧ sm ((1 : Nat)) ∧ ∀ (i : Nat), i < (16 : Nat) → sm ((F6 k n n_1).low.getD i (0 : Int)) ∧ True) ∧ (sm ((16 : Nat)) ∧ sm ((1 : Nat)) ∧ ∀ (i : Nat), i < (16
    : Nat) → sm ((F6 k n n_1).high.getD i (0 : Int)) ∧ True) ∧ True) ∧ sm (bldE (W (k.tmod (6 : Int))) (W (W (n.tmod (30 : Int)) + (1 : Int)))) ∧ True) ∧ sm (W (k.tmod
    (6 : Int))) ∧ ((sm ((16 : Nat)) ∧ sm ((0 : Nat) + (1 : Nat)) ∧ ∀ (i : Nat), i < (16 : Nat) → sm ((fillS (1 : Int)).low.getD i (0 : Int)) ∧ True) ∧ (sm ((16 : Nat))
    ∧ sm ((0 : Nat) + (1 : Nat)) ∧ ∀ (i : Nat), i < (16 : Nat) → sm ((fillS (1 : Int)).high.getD i (0 : Int)) ∧ True) ∧ True) ∧ ((sm ((16 : Nat)) ∧ sm ((0 : Nat) + (1
    : Nat)) ∧ ∀ (i : Nat), i < (16 : Nat) → sm ((fillS (2 : Int)).low.getD i (0 : Int)) ∧ True) ∧ (sm ((16 : Nat)) ∧ sm ((0 : Nat) + (1 : Nat)) ∧ ∀ (i : Nat), i < (16
    : Nat) → sm ((fillS (2 : Int)).high.getD i (0 : Int)) ∧ True) ∧ True) ∧ n_1 = n_1 ∧ sm (W (W (n.tmod (30 : Int)) + (1 : Int))) ∧ (((sm ((16 : Nat)) ∧ sm ((1 : Nat))
    ∧ ∀ (i : Nat), i < (16 : Nat) → sm ((F6 k n n_1).low.getD i (0 : Int)) ∧ True) ∧ (sm ((16 : Nat)) ∧ sm ((1 : Nat)) ∧ ∀ (i : Nat), i < (16 : Nat) → sm ((F6 k n n_1).high.getD
    i (0 : Int)) ∧ True) ∧ True) ∧ sm (bldE (W (k.tmod (6 : Int))) (W (W (n.tmod (30 : Int)) + (1 : Int)))) ∧ True) ∧ ((sm ((16 : Nat)) ∧ sm ((1 : Nat)) ∧ ∀ (i : Nat),
    i < (16 : Nat) → sm ((F6 k n n_1).low.getD i (0 : Int)) ∧ True) ∧ (sm ((16 : Nat)) ∧ sm ((1 : Nat)) ∧ ∀ (i : Nat), i < (16 : Nat) → sm ((F6 k n n_1).high.getD i
    (0 : Int)) ∧ True) ∧ True) ∧ sm (bldE (W (k.tmod (6 : Int))) (W (W (n.tmod (30 : Int)) + (1 : Int)))) ∧ sm (bldE (W (k.tmod (6 : Int))) (W (W (n.tmod (30 : Int))
    + (1 : Int)))) ∧ sm ((bldE (W (k.tmod (6 : Int))) (W (W (n.tmod (30 : Int)) + (1 : Int))) != (0 : Int))) ∧ True ∧ n_1 = n_1 ∧ sm ((n_1 == (0 : Int))) ∧ True ∧ ((sm
    ((16 : Nat)) ∧ sm ((0 : Nat) + (1 : Nat)) ∧ ∀ (i : Nat), i < (16 : Nat) → sm ((F6 k n n_1).low.getD i (0 : Int)) ∧ True) ∧ (sm ((16 : Nat)) ∧ sm ((0 : Nat) + (1
    : Nat)) ∧ ∀ (i : Nat), i < (16 : Nat) → sm ((F6 k n n_1).high.getD i (0 : Int)) ∧ True) ∧ True) ∧ ((sm ((16 : Nat)) ∧ sm ((0 : Nat) + (1 : Nat)) ∧ ∀ (i : Nat), i
    < (16 : Nat) → sm ((fillS (1 : Int)).low.getD i (0 : Int)) ∧ True) ∧ (sm ((16 : Nat)) ∧ sm ((0 : Nat) + (1 : Nat)) ∧ ∀ (i : Nat), i < (16 : Nat) → sm ((fillS (1
    : Int)).high.getD i (0 : Int)) ∧ True) ∧ True) ∧ sm (!eqSegs [Seg.a (16 : Nat) ((0 : Nat) + (1 : Nat)) fun j => [SV.int IntKind.u64 ((F6 k n n_1).low.getD j (0 :
    Int))], Seg.a (16 : Nat) ((0 : Nat) + (1 : Nat)) fun j => [SV.int IntKind.u64 ((F6 k n n_1).high.getD j (0 : Int))]] [Seg.a (16 : Nat) ((0 : Nat) + (1 : Nat)) fun
    j => [SV.int IntKind.u64 ((fillS (1 : Int)).low.getD j (0 : Int))], Seg.a (16 : Nat) ((0 : Nat) + (1 : Nat)) fun j => [SV.int IntKind.u64 ((fillS (1 : Int)).high.getD
    j (0 : Int))]]) ∧ sm (!eqSegs [Seg.a (16 : Nat) ((0 : Nat) + (1 : Nat)) fun j => [SV.int IntKind.u64 ((F6 k n n_1).low.getD j (0 : Int))], Seg.a (16 : Nat) ((0 :
    Nat) + (1 : Nat)) fun j => [SV.int IntKind.u64 ((F6 k n n_1).high.getD j (0 : Int))]] [Seg.a (16 : Nat) ((0 : Nat) + (1 : Nat)) fun j => [SV.int IntKind.u64 ((fillS
    (1 : Int)).low.getD j (0 : Int))], Seg.a (16 : Nat) ((0 : Nat) + (1 : Nat)) fun j => [SV.int IntKind.u64 ((fillS (1 : Int)).high.getD j (0 : Int))]]) ∧ sm (!eqSegs
    [Seg.a (16 : Nat) ((0 : Nat) + (1 : Nat)) fun j => [SV.int IntKind.u64 ((F6 k n n_1).low.getD j (0 : Int))], Seg.a (16 : Nat) ((0 : Nat) + (1 : Nat)) fun j => [SV.int
    IntKind.u64 ((F6 k n n_1).high.getD j (0 : Int))]] [Seg.a (16 : Nat) ((0 : Nat) + (1 : Nat)) fun j => [SV.int IntKind.u64 ((fillS (1 : Int)).low.getD j (0 : Int))],
    Seg.a (16 : Nat) ((0 : Nat) + (1 : Nat)) fun j => [SV.int IntKind.u64 ((fillS (1 : Int)).high.getD j (0 : Int))]]) ∧ True ∧ n_1 = n_1 ∧ sm (W (W (n.tmod (30 : Int))
    + (1 : Int))) ∧ sm ((n_1 == W (W (n.tmod (30 : Int)) + (1 : Int)))) ∧ True ∧ True ∧ True ∧ True ∧ True ∧ True ∧ n_2 = n_2 ∧ True ∧ True ∧ True ∧ True ∧ True ∧ True
    ∧ True ∧ True ∧ True ∧ True ∧ True ∧ True ∧ True ∧ True ∧ True ∧ True ∧ True ∧ True ∧ True ∧ True ∧ True ∧ True ∧ True ∧ True ∧ True ∧ True ∧ True ∧ True) ∧ ((if
    false = true then [] else List.map Seg.shape ([Seg.a (16 : Nat) (1 : Nat) fun x => [SV.int IntKind.u64 (0 : Int)]] ++ ([Seg.a (16 : Nat) (1 : Nat) fun x => [SV.int
    IntKind.u64 (0 : Int)]] ++ []))) = if false = true then [] else List.map Seg.shape ([Seg.a (16 : Nat) (1 : Nat) fun x => [SV.int IntKind.u64 (0 : Int)]] ++ ([Seg.a
    (16 : Nat) (1 : Nat) fun x => [SV.int IntKind.u64 (0 : Int)]] ++ []))) ∧ ((sm ((16 : Nat)) ∧ sm ((1 : Nat)) ∧ ∀ (i : Nat), i < (16 : Nat) → sm ((fillS (1 : Int)).low.getD
    i (0 : Int)) ∧ True) ∧ (sm ((16 : Nat)) ∧ sm ((1 : Nat)) ∧ ∀ (i : Nat), i < (16 : Nat) → sm ((fillS (1 : Int)).high.getD i (0 : Int)) ∧ True) ∧ True) ∧ ((if false
    = true then [] else List.map Seg.shape ([Seg.a (16 : Nat) (1 : Nat) fun x => [SV.int IntKind.u64 (0 : Int)]] ++ ([Seg.a (16 : Nat) (1 : Nat) fun x => [SV.int IntKind.u64
    (0 : Int)]] ++ []))) = if false = true then [] else List.map Seg.shape ([Seg.a (16 : Nat) (1 : Nat) fun x => [SV.int IntKind.u64 (0 : Int)]] ++ ([Seg.a (16 : Nat)
    (1 : Nat) fun x => [SV.int IntKind.u64 (0 : Int)]] ++ []))) ∧ ((sm ((16 : Nat)) ∧ sm ((1 : Nat)) ∧ ∀ (i : Nat), i < (16 : Nat) → sm ((fillS (2 : Int)).low.getD i
    (0 : Int)) ∧ True) ∧ (sm ((16 : Nat)) ∧ sm ((1 : Nat)) ∧ ∀ (i : Nat), i < (16 : Nat) → sm ((fillS (2 : Int)).high.getD i (0 : Int)) ∧ True) ∧ True) ∧ ((if false
    = true then [] else List.map Seg.shape ([Seg.a (16 : Nat) (1 : Nat) fun x => [SV.int IntKind.u64 (0 : Int)]] ++ ([Seg.a (16 : Nat) (1 : Nat) fun x => [SV.int IntKind.u64
    (0 : Int)]] ++ []))) = if false = true then [] else List.map Seg.shape ([Seg.a (16 : Nat) (1 : Nat) fun x => [SV.int IntKind.u64 (0 : Int)]] ++ ([Seg.a (16 : Nat)
    (1 : Nat) fun x => [SV.int IntKind.u64 (0 : Int)]] ++ []))) ∧ ((sm ((16 : Nat)) ∧ sm ((codI IntKind.u64).n) ∧ ∀ (i : Nat), i < (16 : Nat) → sm (l.getD i (codI IntKind.u64).dft)
    ∧ True) ∧ (sm ((16 : Nat)) ∧ sm ((codI IntKind.u64).n) ∧ ∀ (i : Nat), i < (16 : Nat) → sm (l_1.getD i (codI IntKind.u64).dft) ∧ True) ∧ True) ∧ ((if false = true
    then [] else List.map Seg.shape ([Seg.a (16 : Nat) (1 : Nat) fun x => [SV.int IntKind.u64 (0 : Int)]] ++ ([Seg.a (16 : Nat) (1 : Nat) fun x => [SV.int IntKind.u64
    (0 : Int)]] ++ []))) = if false = true then [] else List.map Seg.shape ([Seg.a (16 : Nat) (1 : Nat) fun x => [SV.int IntKind.u64 (0 : Int)]] ++ ([Seg.a (16 : Nat)
    (1 : Nat) fun x => [SV.int IntKind.u64 (0 : Int)]] ++ []))) ∧ ((sm ((16 : Nat)) ∧ sm ((1 : Nat)) ∧ ∀ (i : Nat), i < (16 : Nat) → sm ((F6 k n n_1).low.getD i (0 :
    Int)) ∧ True) ∧ (sm ((16 : Nat)) ∧ sm ((1 : Nat)) ∧ ∀ (i : Nat), i < (16 : Nat) → sm ((F6 k n n_1).high.getD i (0 : Int)) ∧ True) ∧ True) ∧ True))) ∧ ((getS { low := rr (F6 k n n_1).low, high := rr (F6 k n n_1).high : Fr }
    n_3 n_2 != (1 : Int)) = false → (t16 ∧ t16 ∧ True) ∧ True ∧ True ∧ ((((∀ (i : Nat), i < (16 : Nat) → true = true ∧ True) ∧ ∀ (i : Nat), i < (16 : Nat) → true = true
    ∧ True) ∧ True ∧ True) ∧ okF { low := rowL (codI IntKind.u64) (16 : Nat) fun j => (codI IntKind.u64).enc (l.getD j (codI IntKind.u64).dft), high := rowL (codI IntKind.u64) (16 : Nat) fun j => (codI IntKind.u64).enc (l_1.getD j (codI IntKind.u64).dft) : Fr })
    ∧ True ∧ (decide (getS { low := rr (F6 k n n_1).low, high := rr (F6 k n n_1).high : Fr } n_3 n_2 < getS { low := rowL (codI IntKind.u64) (16 : Nat) fun j => (codI IntKind.u64).enc (l.getD j (codI IntKind.u64).dft), high := rowL (codI IntKind.u64) (16 : Nat) fun j => (codI IntKind.u64).enc (l_1.getD j (codI IntKind.u64).dft) : Fr }
    n_3 n_2) = true → True ∧ True ∧ true = false ∧ True) ∧ (decide (getS { low := rr (F6 k n n_1).low, high := rr (F6 k n n_1).high : Fr } n_3 n_2 < getS { low := rowL (codI IntKind.u64) (16 : Nat) fun j => (codI IntKind.u64).enc (l.getD j (codI IntKind.u64).dft), high := rowL (codI IntKind.u64) (16 : Nat) fun j => (codI IntKind.u64).enc (l_1.getD j (codI IntKind.u64).dft) : Fr }
    n_3 n_2) = false → True ∧ ((0 : Int) ≤ W (n_3 + (1 : Int)) ∧ W (n_3 + (1 : Int)) ≤ (64 : Int)) ∧ ((64 : Int) - W (n_3 + (1 : Int))).toNat < ((64 : Int) - n_3).toNat
    ∧ (k = k ∧ n = n ∧ True ∧ True ∧ True ∧ sm (W (k.tmod (6 : Int))) ∧ sm (W (W (n.tmod (30 : Int)) + (1 : Int))) ∧ True ∧ True ∧ True ∧ n_1 = n_1 ∧ True ∧ sm (bldE
    (W (k.tmod (6 : Int))) (W (W (n.tmod (30 : Int)) + (1 : Int)))) ∧ n_2 = n_2 ∧ sm (W (n_3 + (1 : Int))) ∧ True ∧ k = k ∧ sm (k.tmod (6 : Int)) ∧ sm (W (k.tmod (6
    : Int))) ∧ n = n ∧ sm (n.tmod (30 : Int)) ∧ sm (W (n.tmod (30 : Int))) ∧ sm (W (W (n.tmod (30 : Int)) + (1 : Int))) ∧ ((sm ((16 : Nat)) ∧ sm ((1 : Nat)) ∧ ∀ (i :
    Nat), i < (16 : Nat) → sm ((fillS (1 : Int)).low.getD i (0 : Int)) ∧ True) ∧ (sm ((16 : Nat)) ∧ sm ((1 : Nat)) ∧ ∀ (i : Nat), i < (16 : Nat) → sm ((fillS (1 : Int)).high.getD
    i (0 : Int)) ∧ True) ∧ True) ∧ ((sm ((16 : Nat)) ∧ sm ((1 : Nat)) ∧ ∀ (i : Nat), i < (16 : Nat) → sm ((fillS (2 : Int)).low.getD i (0 : Int)) ∧ True) ∧ (sm ((16
    : Nat)) ∧ sm ((1 : Nat)) ∧ ∀ (i : Nat), i < (16 : Nat) → sm ((fillS (2 : Int)).high.getD i (0 : Int)) ∧ True) ∧ True) ∧ ((sm ((16 : Nat)) ∧ sm ((0 : Nat) + (1 :
    Nat)) ∧ ∀ (i : Nat), i < (16 : Nat) → sm ((fillS (1 : Int)).low.getD i (0 : Int)) ∧ True) ∧ (sm ((16 : Nat)) ∧ sm ((0 : Nat) + (1 : Nat)) ∧ ∀ (i : Nat), i < (16
    : Nat) → sm ((fillS (1 : Int)).high.getD i (0 : Int)) ∧ True) ∧ True) ∧ n_1 = n_1 ∧ sm (W (W (n.tmod (30 : Int)) + (1 : Int))) ∧ True ∧ True ∧ True ∧ (((sm ((16
    : Nat)) ∧ sm ((1 : Nat)) ∧ ∀ (i : Nat), i < (16 : Nat) → sm ((F6 k n n_1).low.getD i (0 : Int)) ∧ True) ∧ (sm ((16 : Nat)) ∧ sm ((1 : Nat)) ∧ ∀ (i : Nat), i < (16
    : Nat) → sm ((F6 k n n_1).high.getD i (0 : Int)) ∧ True) ∧ True) ∧ sm (bldE (W (k.tmod (6 : Int))) (W (W (n.tmod (30 : Int)) + (1 : Int)))) ∧ True) ∧ sm (W (k.tmod
    (6 : Int))) ∧ ((sm ((16 : Nat)) ∧ sm ((0 : Nat) + (1 : Nat)) ∧ ∀ (i : Nat), i < (16 : Nat) → sm ((fillS (1 : Int)).low.getD i (0 : Int)) ∧ True) ∧ (sm ((16 : Nat))
    ∧ sm ((0 : Nat) + (1 : Nat)) ∧ ∀ (i : Nat), i < (16 : Nat) → sm ((fillS (1 : Int)).high.getD i (0 : Int)) ∧ True) ∧ True) ∧ ((sm ((16 : Nat)) ∧ sm ((0 : Nat) + (1
    : Nat)) ∧ ∀ (i : Nat), i < (16 : Nat) → sm ((fillS (2 : Int)).low.getD i (0 : Int)) ∧ True) ∧ (sm ((16 : Nat)) ∧ sm ((0 : Nat) + (1 : Nat)) ∧ ∀ (i : Nat), i < (16
    : Nat) → sm ((fillS (2 : Int)).high.getD i (0 : Int)) ∧ True) ∧ True) ∧ n_1 = n_1 ∧ sm (W (W (n.tmod (30 : Int)) + (1 : Int))) ∧ (((sm ((16 : Nat)) ∧ sm ((1 : Nat))
    ∧ ∀ (i : Nat), i < (16 : Nat) → sm ((F6 k n n_1).low.getD i (0 : Int)) ∧ True) ∧ (sm ((16 : Nat)) ∧ sm ((1 : Nat)) ∧ ∀ (i : Nat), i < (16 : Nat) → sm ((F6 k n n_1).high.getD
    i (0 : Int)) ∧ True) ∧ True) ∧ sm (bldE (W (k.tmod (6 : Int))) (W (W (n.tmod (30 : Int)) + (1 : Int)))) ∧ True) ∧ ((sm ((16 : Nat)) ∧ sm ((1 : Nat)) ∧ ∀ (i : Nat),
    i < (16 : Nat) → sm ((F6 k n n_1).low.getD i (0 : Int)) ∧ True) ∧ (sm ((16 : Nat)) ∧ sm ((1 : Nat)) ∧ ∀ (i : Nat), i < (16 : Nat) → sm ((F6 k n n_1).high.getD i
    (0 : Int)) ∧ True) ∧ True) ∧ sm (bldE (W (k.tmod (6 : Int))) (W (W (n.tmod (30 : Int)) + (1 : Int)))) ∧ sm (bldE (W (k.tmod (6 : Int))) (W (W (n.tmod (30 : Int))
    + (1 : Int)))) ∧ sm ((bldE (W (k.tmod (6 : Int))) (W (W (n.tmod (30 : Int)) + (1 : Int))) != (0 : Int))) ∧ True ∧ n_1 = n_1 ∧ sm ((n_1 == (0 : Int))) ∧ True ∧ ((sm
    ((16 : Nat)) ∧ sm ((0 : Nat) + (1 : Nat)) ∧ ∀ (i : Nat), i < (16 : Nat) → sm ((F6 k n n_1).low.getD i (0 : Int)) ∧ True) ∧ (sm ((16 : Nat)) ∧ sm ((0 : Nat) + (1
    : Nat)) ∧ ∀ (i : Nat), i < (16 : Nat) → sm ((F6 k n n_1).high.getD i (0 : Int)) ∧ True) ∧ True) ∧ ((sm ((16 : Nat)) ∧ sm ((0 : Nat) + (1 : Nat)) ∧ ∀ (i : Nat), i
    < (16 : Nat) → sm ((fillS (1 : Int)).low.getD i (0 : Int)) ∧ True) ∧ (sm ((16 : Nat)) ∧ sm ((0 : Nat) + (1 : Nat)) ∧ ∀ (i : Nat), i < (16 : Nat) → sm ((fillS (1
    : Int)).high.getD i (0 : Int)) ∧ True) ∧ True) ∧ sm (!eqSegs [Seg.a (16 : Nat) ((0 : Nat) + (1 : Nat)) fun j => [SV.int IntKind.u64 ((F6 k n n_1).low.getD j (0 :
    Int))], Seg.a (16 : Nat) ((0 : Nat) + (1 : Nat)) fun j => [SV.int IntKind.u64 ((F6 k n n_1).high.getD j (0 : Int))]] [Seg.a (16 : Nat) ((0 : Nat) + (1 : Nat)) fun
    j => [SV.int IntKind.u64 ((fillS (1 : Int)).low.getD j (0 : Int))], Seg.a (16 : Nat) ((0 : Nat) + (1 : Nat)) fun j => [SV.int IntKind.u64 ((fillS (1 : Int)).high.getD
    j (0 : Int))]]) ∧ sm (!eqSegs [Seg.a (16 : Nat) ((0 : Nat) + (1 : Nat)) fun j => [SV.int IntKind.u64 ((F6 k n n_1).low.getD j (0 : Int))], Seg.a (16 : Nat) ((0 :
    Nat) + (1 : Nat)) fun j => [SV.int IntKind.u64 ((F6 k n n_1).high.getD j (0 : Int))]] [Seg.a (16 : Nat) ((0 : Nat) + (1 : Nat)) fun j => [SV.int IntKind.u64 ((fillS
    (1 : Int)).low.getD j (0 : Int))], Seg.a (16 : Nat) ((0 : Nat) + (1 : Nat)) fun j => [SV.int IntKind.u64 ((fillS (1 : Int)).high.getD j (0 : Int))]]) ∧ sm (!eqSegs
    [Seg.a (16 : Nat) ((0 : Nat) + (1 : Nat)) fun j => [SV.int IntKind.u64 ((F6 k n n_1).low.getD j (0 : Int))], Seg.a (16 : Nat) ((0 : Nat) + (1 : Nat)) fun j => [SV.int
    IntKind.u64 ((F6 k n n_1).high.getD j (0 : Int))]] [Seg.a (16 : Nat) ((0 : Nat) + (1 : Nat)) fun j => [SV.int IntKind.u64 ((fillS (1 : Int)).low.getD j (0 : Int))],
    Seg.a (16 : Nat) ((0 : Nat) + (1 : Nat)) fun j => [SV.int IntKind.u64 ((fillS (1 : Int)).high.getD j (0 : Int))]]) ∧ True ∧ n_1 = n_1 ∧ sm (W (W (n.tmod (30 : Int))
    + (1 : Int))) ∧ sm ((n_1 == W (W (n.tmod (30 : Int)) + (1 : Int)))) ∧ True ∧ True ∧ True ∧ True ∧ True ∧ True ∧ n_2 = n_2 ∧ True ∧ True ∧ True ∧ True ∧ True ∧ True
    ∧ True ∧ True ∧ True ∧ True ∧ True ∧ True ∧ True ∧ True ∧ True ∧ True ∧ True ∧ True ∧ True ∧ True ∧ True ∧ True ∧ True ∧ True ∧ True ∧ True ∧ True ∧ True) ∧ ((if
    false = true then [] else List.map Seg.shape ([Seg.a (16 : Nat) (1 : Nat) fun x => [SV.int IntKind.u64 (0 : Int)]] ++ ([Seg.a (16 : Nat) (1 : Nat) fun x => [SV.int
    IntKind.u64 (0 : Int)]] ++ []))) = if false = true then [] else List.map Seg.shape ([Seg.a (16 : Nat) (1 : Nat) fun x => [SV.int IntKind.u64 (0 : Int)]] ++ ([Seg.a
    (16 : Nat) (1 : Nat) fun x => [SV.int IntKind.u64 (0 : Int)]] ++ []))) ∧ ((sm ((16 : Nat)) ∧ sm ((1 : Nat)) ∧ ∀ (i : Nat), i < (16 : Nat) → sm ((fillS (1 : Int)).low.getD
    i (0 : Int)) ∧ True) ∧ (sm ((16 : Nat)) ∧ sm ((1 : Nat)) ∧ ∀ (i : Nat), i < (16 : Nat) → sm ((fillS (1 : Int)).high.getD i (0 : Int)) ∧ True) ∧ True) ∧ ((if false
    = true then [] else List.map Seg.shape ([Seg.a (16 : Nat) (1 : Nat) fun x => [SV.int IntKind.u64 (0 : Int)]] ++ ([Seg.a (16 : Nat) (1 : Nat) fun x => [SV.int IntKind.u64
    (0 : Int)]] ++ []))) = if false = true then [] else List.map Seg.shape ([Seg.a (16 : Nat) (1 : Nat) fun x => [SV.int IntKind.u64 (0 : Int)]] ++ ([Seg.a (16 : Nat)
    (1 : Nat) fun x => [SV.int IntKind.u64 (0 : Int)]] ++ []))) ∧ ((sm ((16 : Nat)) ∧ sm ((1 : Nat)) ∧ ∀ (i : Nat), i < (16 : Nat) → sm ((fillS (2 : Int)).low.getD i
    (0 : Int)) ∧ True) ∧ (sm ((16 : Nat)) ∧ sm ((1 : Nat)) ∧ ∀ (i : Nat), i < (16 : Nat) → sm ((fillS (2 : Int)).high.getD i (0 : Int)) ∧ True) ∧ True) ∧ ((if false
    = true then [] else List.map Seg.shape ([Seg.a (16 : Nat) (1 : Nat) fun x => [SV.int IntKind.u64 (0 : Int)]] ++ ([Seg.a (16 : Nat) (1 : Nat) fun x => [SV.int IntKind.u64
    (0 : Int)]] ++ []))) = if false = true then [] else List.map Seg.shape ([Seg.a (16 : Nat) (1 : Nat) fun x => [SV.int IntKind.u64 (0 : Int)]] ++ ([Seg.a (16 : Nat)
    (1 : Nat) fun x => [SV.int IntKind.u64 (0 : Int)]] ++ []))) ∧ ((sm ((16 : Nat)) ∧ sm ((codI IntKind.u64).n) ∧ ∀ (i : Nat), i < (16 : Nat) → sm (l.getD i (codI IntKind.u64).dft)
    ∧ True) ∧ (sm ((16 : Nat)) ∧ sm ((codI IntKind.u64).n) ∧ ∀ (i : Nat), i < (16 : Nat) → sm (l_1.getD i (codI IntKind.u64).dft) ∧ True) ∧ True) ∧ ((if false = true
    then [] else List.map Seg.shape ([Seg.a (16 : Nat) (1 : Nat) fun x => [SV.int IntKind.u64 (0 : Int)]] ++ ([Seg.a (16 : Nat) (1 : Nat) fun x => [SV.int IntKind.u64
    (0 : Int)]] ++ []))) = if false = true then [] else List.map Seg.shape ([Seg.a (16 : Nat) (1 : Nat) fun x => [SV.int IntKind.u64 (0 : Int)]] ++ ([Seg.a (16 : Nat)
    (1 : Nat) fun x => [SV.int IntKind.u64 (0 : Int)]] ++ []))) ∧ ((sm ((16 : Nat)) ∧ sm ((1 : Nat)) ∧ ∀ (i : Nat), i < (16 : Nat) → sm ((F6 k n n_1).low.getD i (0 :
    Int)) ∧ True) ∧ (sm ((16 : Nat)) ∧ sm ((1 : Nat)) ∧ ∀ (i : Nat), i < (16 : Nat) → sm ((F6 k n n_1).high.getD i (0 : Int)) ∧ True) ∧ True) ∧ True))) ∧ (decide (n_3
    < (64 : Int)) = false → True ∧ ((0 : Int) ≤ W (n_2 + (1 : Int)) ∧ W (n_2 + (1 : Int)) ≤ (16 : Int)) ∧ ((16 : Int) - W (n_2 + (1 : Int))).toNat < ((16 : Int) - n_2).toNat
    ∧ (k = k ∧ n = n ∧ True ∧ True ∧ True ∧ sm (W (k.tmod (6 : Int))) ∧ sm (W (W (n.tmod (30 : Int)) + (1 : Int))) ∧ True ∧ True ∧ True ∧ n_1 = n_1 ∧ True ∧ sm (bldE
    (W (k.tmod (6 : Int))) (W (W (n.tmod (30 : Int)) + (1 : Int)))) ∧ sm (W (n_2 + (1 : Int))) ∧ True ∧ True ∧ k = k ∧ sm (k.tmod (6 : Int)) ∧ sm (W (k.tmod (6 : Int)))
    ∧ n = n ∧ sm (n.tmod (30 : Int)) ∧ sm (W (n.tmod (30 : Int))) ∧ sm (W (W (n.tmod (30 : Int)) + (1 : Int))) ∧ ((sm ((16 : Nat)) ∧ sm ((1 : Nat)) ∧ ∀ (i : Nat), i
    < (16 : Nat) → sm ((fillS (1 : Int)).low.getD i (0 : Int)) ∧ True) ∧ (sm ((16 : Nat)) ∧ sm ((1 : Nat)) ∧ ∀ (i : Nat), i < (16 : Nat) → sm ((fillS (1 : Int)).high.getD
    i (0 : Int)) ∧ True) ∧ True) ∧ ((sm ((16 : Nat)) ∧ sm ((1 : Nat)) ∧ ∀ (i : Nat), i < (16 : Nat) → sm ((fillS (2 : Int)).low.getD i (0 : Int)) ∧ True) ∧ (sm ((16
    : Nat)) ∧ sm ((1 : Nat)) ∧ ∀ (i : Nat), i < (16 : Nat) → sm ((fillS (2 : Int)).high.getD i (0 : Int)) ∧ True) ∧ True) ∧ ((sm ((16 : Nat)) ∧ sm ((0 : Nat) + (1 :
    Nat)) ∧ ∀ (i : Nat), i < (16 : Nat) → sm ((fillS (1 : Int)).low.getD i (0 : Int)) ∧ True) ∧ (sm ((16 : Nat)) ∧ sm ((0 : Nat) + (1 : Nat)) ∧ ∀ (i : Nat), i < (16
    : Nat) → sm ((fillS (1 : Int)).high.getD i (0 : Int)) ∧ True) ∧ True) ∧ n_1 = n_1 ∧ sm (W (W (n.tmod (30 : Int)) + (1 : Int))) ∧ True ∧ True ∧ True ∧ (((sm ((16
    : Nat)) ∧ sm ((1 : Nat)) ∧ ∀ (i : Nat), i < (16 : Nat) → sm ((F6 k n n_1).low.getD i (0 : Int)) ∧ True) ∧ (sm ((16 : Nat)) ∧ sm ((1 : Nat)) ∧ ∀ (i : Nat), i < (16
    : Nat) → sm ((F6 k n n_1).high.getD i (0 : Int)) ∧ True) ∧ True) ∧ sm (bldE (W (k.tmod (6 : Int))) (W (W (n.tmod (30 : Int)) + (1 : Int)))) ∧ True) ∧ sm (W (k.tmod
    (6 : Int))) ∧ ((sm ((16 : Nat)) ∧ sm ((0 : Nat) + (1 : Nat)) ∧ ∀ (i : Nat), i < (16 : Nat) → sm ((fillS (1 : Int)).low.getD i (0 : Int)) ∧ True) ∧ (sm ((16 : Nat))
    ∧ sm ((0 : Nat) + (1 : Nat)) ∧ ∀ (i : Nat), i < (16 : Nat) → sm ((fillS (1 : Int)).high.getD i (0 : Int)) ∧ True) ∧ True) ∧ ((sm ((16 : Nat)) ∧ sm ((0 : Nat) + (1
    : Nat)) ∧ ∀ (i : Nat), i < (16 : Nat) → sm ((fillS (2 : Int)).low.getD i (0 : Int)) ∧ True) ∧ (sm ((16 : Nat)) ∧ sm ((0 : Nat) + (1 : Nat)) ∧ ∀ (i : Nat), i < (16
    : Nat) → sm ((fillS (2 : Int)).high.getD i (0 : Int)) ∧ True) ∧ True) ∧ n_1 = n_1 ∧ sm (W (W (n.tmod (30 : Int)) + (1 : Int))) ∧ (((sm ((16 : Nat)) ∧ sm ((1 : Nat))
    ∧ ∀ (i : Nat), i < (16 : Nat) → sm ((F6 k n n_1).low.getD i (0 : Int)) ∧ True) ∧ (sm ((16 : Nat)) ∧ sm ((1 : Nat)) ∧ ∀ (i : Nat), i < (16 : Nat) → sm ((F6 k n n_1).high.getD
    i (0 : Int)) ∧ True) ∧ True) ∧ sm (bldE (W (k.tmod (6 : Int))) (W (W (n.tmod (30 : Int)) + (1 : Int)))) ∧ True) ∧ ((sm ((16 : Nat)) ∧ sm ((1 : Nat)) ∧ ∀ (i : Nat),
    i < (16 : Nat) → sm ((F6 k n n_1).low.getD i (0 : Int)) ∧ True) ∧ (sm ((16 : Nat)) ∧ sm ((1 : Nat)) ∧ ∀ (i : Nat), i < (16 : Nat) → sm ((F6 k n n_1).high.getD i
    (0 : Int)) ∧ True) ∧ True) ∧ sm (bldE (W (k.tmod (6 : Int))) (W (W (n.tmod (30 : Int)) + (1 : Int)))) ∧ sm (bldE (W (k.tmod (6 : Int))) (W (W (n.tmod (30 : Int))
    + (1 : Int)))) ∧ sm ((bldE (W (k.tmod (6 : Int))) (W (W (n.tmod (30 : Int)) + (1 : Int))) != (0 : Int))) ∧ True ∧ n_1 = n_1 ∧ sm ((n_1 == (0 : Int))) ∧ True ∧ ((sm
    ((16 : Nat)) ∧ sm ((0 : Nat) + (1 : Nat)) ∧ ∀ (i : Nat), i < (16 : Nat) → sm ((F6 k n n_1).low.getD i (0 : Int)) ∧ True) ∧ (sm ((16 : Nat)) ∧ sm ((0 : Nat) + (1
    : Nat)) ∧ ∀ (i : Nat), i < (16 : Nat) → sm ((F6 k n n_1).high.getD i (0 : Int)) ∧ True) ∧ True) ∧ ((sm ((16 : Nat)) ∧ sm ((0 : Nat) + (1 : Nat)) ∧ ∀ (i : Nat), i
    < (16 : Nat) → sm ((fillS (1 : Int)).low.getD i (0 : Int)) ∧ True) ∧ (sm ((16 : Nat)) ∧ sm ((0 : Nat) + (1 : Nat)) ∧ ∀ (i : Nat), i < (16 : Nat) → sm ((fillS (1
    : Int)).high.getD i (0 : Int)) ∧ True) ∧ True) ∧ sm (!eqSegs [Seg.a (16 : Nat) ((0 : Nat) + (1 : Nat)) fun j => [SV.int IntKind.u64 ((F6 k n n_1).low.getD j (0 :
    Int))], Seg.a (16 : Nat) ((0 : Nat) + (1 : Nat)) fun j => [SV.int IntKind.u64 ((F6 k n n_1).high.getD j (0 : Int))]] [Seg.a (16 : Nat) ((0 : Nat) + (1 : Nat)) fun
    j => [SV.int IntKind.u64 ((fillS (1 : Int)).low.getD j (0 : Int))], Seg.a (16 : Nat) ((0 : Nat) + (1 : Nat)) fun j => [SV.int IntKind.u64 ((fillS (1 : Int)).high.getD
    j (0 : Int))]]) ∧ sm (!eqSegs [Seg.a (16 : Nat) ((0 : Nat) + (1 : Nat)) fun j => [SV.int IntKind.u64 ((F6 k n n_1).low.getD j (0 : Int))], Seg.a (16 : Nat) ((0 :
    Nat) + (1 : Nat)) fun j => [SV.int IntKind.u64 ((F6 k n n_1).high.getD j (0 : Int))]] [Seg.a (16 : Nat) ((0 : Nat) + (1 : Nat)) fun j => [SV.int IntKind.u64 ((fillS
    (1 : Int)).low.getD j (0 : Int))], Seg.a (16 : Nat) ((0 : Nat) + (1 : Nat)) fun j => [SV.int IntKind.u64 ((fillS (1 : Int)).high.getD j (0 : Int))]]) ∧ sm (!eqSegs
    [Seg.a (16 : Nat) ((0 : Nat) + (1 : Nat)) fun j => [SV.int IntKind.u64 ((F6 k n n_1).low.getD j (0 : Int))], Seg.a (16 : Nat) ((0 : Nat) + (1 : Nat)) fun j => [SV.int
    IntKind.u64 ((F6 k n n_1).high.getD j (0 : Int))]] [Seg.a (16 : Nat) ((0 : Nat) + (1 : Nat)) fun j => [SV.int IntKind.u64 ((fillS (1 : Int)).low.getD j (0 : Int))],
    Seg.a (16 : Nat) ((0 : Nat) + (1 : Nat)) fun j => [SV.int IntKind.u64 ((fillS (1 : Int)).high.getD j (0 : Int))]]) ∧ True ∧ n_1 = n_1 ∧ sm (W (W (n.tmod (30 : Int))
    + (1 : Int))) ∧ sm ((n_1 == W (W (n.tmod (30 : Int)) + (1 : Int)))) ∧ True ∧ True ∧ True ∧ True ∧ True ∧ True ∧ True ∧ True ∧ True ∧ True ∧ True ∧ True ∧ True ∧
    True ∧ True ∧ True ∧ True ∧ True ∧ True ∧ True ∧ True ∧ True ∧ True ∧ True ∧ True ∧ True ∧ True ∧ True ∧ True ∧ True ∧ True ∧ True ∧ True ∧ True ∧ True) ∧ ((if false
    = true then [] else List.map Seg.shape ([Seg.a (16 : Nat) (1 : Nat) fun x => [SV.int IntKind.u64 (0 : Int)]] ++ ([Seg.a (16 : Nat) (1 : Nat) fun x => [SV.int IntKind.u64
    (0 : Int)]] ++ []))) = if false = true then [] else List.map Seg.shape ([Seg.a (16 : Nat) (1 : Nat) fun x => [SV.int IntKind.u64 (0 : Int)]] ++ ([Seg.a (16 : Nat)
    (1 : Nat) fun x => [SV.int IntKind.u64 (0 : Int)]] ++ []))) ∧ ((sm ((16 : Nat)) ∧ sm ((1 : Nat)) ∧ ∀ (i : Nat), i < (16 : Nat) → sm ((fillS (1 : Int)).low.getD i
    (0 : Int)) ∧ True) ∧ (sm ((16 : Nat)) ∧ sm ((1 : Nat)) ∧ ∀ (i : Nat), i < (16 : Nat) → sm ((fillS (1 : Int)).high.getD i (0 : Int)) ∧ True) ∧ True) ∧ ((if false
    = true then [] else List.map Seg.shape ([Seg.a (16 : Nat) (1 : Nat) fun x => [SV.int IntKind.u64 (0 : Int)]] ++ ([Seg.a (16 : Nat) (1 : Nat) fun x => [SV.int IntKind.u64
    (0 : Int)]] ++ []))) = if false = true then [] else List.map Seg.shape ([Seg.a (16 : Nat) (1 : Nat) fun x => [SV.int IntKind.u64 (0 : Int)]] ++ ([Seg.a (16 : Nat)
    (1 : Nat) fun x => [SV.int IntKind.u64 (0 : Int)]] ++ []))) ∧ ((sm ((16 : Nat)) ∧ sm ((1 : Nat)) ∧ ∀ (i : Nat), i < (16 : Nat) → sm ((fillS (2 : Int)).low.getD i
    (0 : Int)) ∧ True) ∧ (sm ((16 : Nat)) ∧ sm ((1 : Nat)) ∧ ∀ (i : Nat), i < (16 : Nat) → sm ((fillS (2 : Int)).high.getD i (0 : Int)) ∧ True) ∧ True) ∧ ((if false
    = true then [] else List.map Seg.shape ([Seg.a (16 : Nat) (1 : Nat) fun x => [SV.int IntKind.u64 (0 : Int)]] ++ ([Seg.a (16 : Nat) (1 : Nat) fun x => [SV.int IntKind.u64
    (0 : Int)]] ++ []))) = if false = true then [] else List.map Seg.shape ([Seg.a (16 : Nat) (1 : Nat) fun x => [SV.int IntKind.u64 (0 : Int)]] ++ ([Seg.a (16 : Nat)
    (1 : Nat) fun x => [SV.int IntKind.u64 (0 : Int)]] ++ []))) ∧ ((sm ((16 : Nat)) ∧ sm ((codI IntKind.u64).n) ∧ ∀ (i : Nat), i < (16 : Nat) → sm (l.getD i (codI IntKind.u64).dft)
    ∧ True) ∧ (sm ((16 : Nat)) ∧ sm ((codI IntKind.u64).n) ∧ ∀ (i : Nat), i < (16 : Nat) → sm (l_1.getD i (codI IntKind.u64).dft) ∧ True) ∧ True) ∧ ((if false = true
    then [] else List.map Seg.shape ([Seg.a (16 : Nat) (1 : Nat) fun x => [SV.int IntKind.u64 (0 : Int)]] ++ ([Seg.a (16 : Nat) (1 : Nat) fun x => [SV.int IntKind.u64
    (0 : Int)]] ++ []))) = if false = true then [] else List.map Seg.shape ([Seg.a (16 : Nat) (1 : Nat) fun x => [SV.int IntKind.u64 (0 : Int)]] ++ ([Seg.a (16 : Nat)
    (1 : Nat) fun x => [SV.int IntKind.u64 (0 : Int)]] ++ []))) ∧ ((sm ((16 : Nat)) ∧ sm ((1 : Nat)) ∧ ∀ (i : Nat), i < (16 : Nat) → sm ((F6 k n n_1).low.getD i (0 :
    Int)) ∧ True) ∧ (sm ((16 : Nat)) ∧ sm ((1 : Nat)) ∧ ∀ (i : Nat), i < (16 : Nat) → sm ((F6 k n n_1).high.getD i (0 : Int)) ∧ True) ∧ True) ∧ True)) ∧ (decide (n_2
    < (16 : Int)) = false → t16 ∧ t16 ∧ True ∧ True ∧ L6 (k.tmod (6 : Int)) (n.tmod (30 : Int) + (1 : Int)) (W (n_1 + (1 : Int))) (rr (F6 k n n_1).low) (rr (F6 k n n_1).high)
    ∧ (n.tmod (30 : Int) + (2 : Int) - W (n_1 + (1 : Int))).toNat < (n.tmod (30 : Int) + (2 : Int) - n_1).toNat ∧ (k = k ∧ n = n ∧ True ∧ True ∧ True ∧ sm (W (k.tmod
    (6 : Int))) ∧ sm (W (W (n.tmod (30 : Int)) + (1 : Int))) ∧ True ∧ True ∧ True ∧ sm (W (n_1 + (1 : Int))) ∧ True ∧ True ∧ True ∧ True ∧ True ∧ k = k ∧ sm (k.tmod
    (6 : Int)) ∧ sm (W (k.tmod (6 : Int))) ∧ n = n ∧ sm (n.tmod (30 : Int)) ∧ sm (W (n.tmod (30 : Int))) ∧ sm (W (W (n.tmod (30 : Int)) + (1 : Int))) ∧ ((sm ((16 : Nat))
    ∧ sm ((1 : Nat)) ∧ ∀ (i : Nat), i < (16 : Nat) → sm ((fillS (1 : Int)).low.getD i (0 : Int)) ∧ True) ∧ (sm ((16 : Nat)) ∧ sm ((1 : Nat)) ∧ ∀ (i : Nat), i < (16 :
    Nat) → sm ((fillS (1 : Int)).high.getD i (0 : Int)) ∧ True) ∧ True) ∧ ((sm ((16 : Nat)) ∧ sm ((1 : Nat)) ∧ ∀ (i : Nat), i < (16 : Nat) → sm ((fillS (2 : Int)).low.getD
    i (0 : Int)) ∧ True) ∧ (sm ((16 : Nat)) ∧ sm ((1 : Nat)) ∧ ∀ (i : Nat), i < (16 : Nat) → sm ((fillS (2 : Int)).high.getD i (0 : Int)) ∧ True) ∧ True) ∧ ((sm ((16
    : Nat)) ∧ sm ((0 : Nat) + (1 : Nat)) ∧ ∀ (i : Nat), i < (16 : Nat) → sm ((fillS (1 : Int)).low.getD i (0 : Int)) ∧ True) ∧ (sm ((16 : Nat)) ∧ sm ((0 : Nat) + (1
    : Nat)) ∧ ∀ (i : Nat), i < (16 : Nat) → sm ((fillS (1 : Int)).high.getD i (0 : Int)) ∧ True) ∧ True) ∧ True ∧ True ∧ True ∧ True ∧ True ∧ True ∧ True ∧ True ∧ True
    ∧ True ∧ True ∧ True ∧ True ∧ True ∧ True ∧ True ∧ True ∧ True ∧ True ∧ True ∧ True ∧ True ∧ True ∧ True ∧ True ∧ True ∧ True ∧ True ∧ True ∧ True ∧ True ∧ True
    ∧ True ∧ True ∧ True ∧ True ∧ True ∧ True ∧ True ∧ True ∧ True ∧ True ∧ True ∧ True ∧ True ∧ True ∧ True ∧ True ∧ True ∧ True ∧ True ∧ True ∧ True ∧ True ∧ True
    ∧ True ∧ True ∧ True ∧ True ∧ True ∧ True ∧ True ∧ True ∧ True) ∧ ((if false = true then [] else List.map Seg.shape ([Seg.a (16 : Nat) (1 : Nat) fun x => [SV.int
    IntKind.u64 (0 : Int)]] ++ ([Seg.a (16 : Nat) (1 : Nat) fun x => [SV.int IntKind.u64 (0 : Int)]] ++ []))) = if false = true then [] else List.map Seg.shape ([Seg.a
    (16 : Nat) (1 : Nat) fun x => [SV.int IntKind.u64 (0 : Int)]] ++ ([Seg.a (16 : Nat) (1 : Nat) fun x => [SV.int IntKind.u64 (0 : Int)]] ++ []))) ∧ ((sm ((16 : Nat))
    ∧ sm ((1 : Nat)) ∧ ∀ (i : Nat), i < (16 : Nat) → sm ((fillS (1 : Int)).low.getD i (0 : Int)) ∧ True) ∧ (sm ((16 : Nat)) ∧ sm ((1 : Nat)) ∧ ∀ (i : Nat), i < (16 :
    Nat) → sm ((fillS (1 : Int)).high.getD i (0 : Int)) ∧ True) ∧ True) ∧ ((if false = true then [] else List.map Seg.shape ([Seg.a (16 : Nat) (1 : Nat) fun x => [SV.int
    IntKind.u64 (0 : Int)]] ++ ([Seg.a (16 : Nat) (1 : Nat) fun x => [SV.int IntKind.u64 (0 : Int)]] ++ []))) = if false = true then [] else List.map Seg.shape ([Seg.a
    (16 : Nat) (1 : Nat) fun x => [SV.int IntKind.u64 (0 : Int)]] ++ ([Seg.a (16 : Nat) (1 : Nat) fun x => [SV.int IntKind.u64 (0 : Int)]] ++ []))) ∧ ((sm ((16 : Nat))
    ∧ sm ((1 : Nat)) ∧ ∀ (i : Nat), i < (16 : Nat) → sm ((fillS (2 : Int)).low.getD i (0 : Int)) ∧ True) ∧ (sm ((16 : Nat)) ∧ sm ((1 : Nat)) ∧ ∀ (i : Nat), i < (16 :
    Nat) → sm ((fillS (2 : Int)).high.getD i (0 : Int)) ∧ True) ∧ True) ∧ ((if false = true then [] else List.map Seg.shape ([Seg.a (16 : Nat) (1 : Nat) fun x => [SV.int
    IntKind.u64 (0 : Int)]] ++ ([Seg.a (16 : Nat) (1 : Nat) fun x => [SV.int IntKind.u64 (0 : Int)]] ++ []))) = if false = true then [] else List.map Seg.shape ([Seg.a
    (16 : Nat) (1 : Nat) fun x => [SV.int IntKind.u64 (0 : Int)]] ++ ([Seg.a (16 : Nat) (1 : Nat) fun x => [SV.int IntKind.u64 (0 : Int)]] ++ []))) ∧ ((sm ((16 : Nat))
    ∧ (0 : Nat) + (1 : Nat) = (codI IntKind.u64).n ∧ ∀ (i : Nat), i < (16 : Nat) → (F6 k n n_1).low.getD i (0 : Int) = (rr (F6 k n n_1).low).getD i (codI IntKind.u64).dft
    ∧ True) ∧ (sm ((16 : Nat)) ∧ (0 : Nat) + (1 : Nat) = (codI IntKind.u64).n ∧ ∀ (i : Nat), i < (16 : Nat) → (F6 k n n_1).high.getD i (0 : Int) = (rr (F6 k n n_1).high).getD
    i (codI IntKind.u64).dft ∧ True) ∧ True) ∧ True)))) ∧ ((n_1 == (0 : Int)) = false → ((n_1 == W (W (n.tmod (30 : Int)) + (1 : Int))) = true → ((t16 ∧ t16 ∧ True)
    ∧ t16 ∧ t16 ∧ True) ∧ True ∧ ((!eqSegs [Seg.a (16 : Nat) ((0 : Nat) + (1 : Nat)) fun j => [SV.int IntKind.u64 ((F6 k n n_1).low.getD j (0 : Int))], Seg.a (16 : Nat)
    ((0 : Nat) + (1 : Nat)) fun j => [SV.int IntKind.u64 ((F6 k n n_1).high.getD j (0 : Int))]] [Seg.a (16 : Nat) ((0 : Nat) + (1 : Nat)) fun j => [SV.int IntKind.u64
    ((fillS (2 : Int)).low.getD j (0 : Int))], Seg.a (16 : Nat) ((0 : Nat) + (1 : Nat)) fun j => [SV.int IntKind.u64 ((fillS (2 : Int)).high.getD j (0 : Int))]]) = true
    → True ∧ True ∧ true = false ∧ True) ∧ ((!eqSegs [Seg.a (16 : Nat) ((0 : Nat) + (1 : Nat)) fun j => [SV.int IntKind.u64 ((F6 k n n_1).low.getD j (0 : Int))], Seg.a
    (16 : Nat) ((0 : Nat) + (1 : Nat)) fun j => [SV.int IntKind.u64 ((F6 k n n_1).high.getD j (0 : Int))]] [Seg.a (16 : Nat) ((0 : Nat) + (1 : Nat)) fun j => [SV.int
    IntKind.u64 ((fillS (2 : Int)).low.getD j (0 : Int))], Seg.a (16 : Nat) ((0 : Nat) + (1 : Nat)) fun j => [SV.int IntKind.u64 ((fillS (2 : Int)).high.getD j (0 :
    Int))]]) = false → True ∧ (((0 : Int) ≤ (0 : Int) ∧ (0 : Int) ≤ (16 : Int)) ∧ (k = k ∧ n = n ∧ True ∧ True ∧ True ∧ sm (W (k.tmod (6 : Int))) ∧ sm (W (W (n.tmod
    (30 : Int)) + (1 : Int))) ∧ True ∧ True ∧ True ∧ n_1 = n_1 ∧ True ∧ sm (bldE (W (k.tmod (6 : Int))) (W (W (n.tmod (30 : Int)) + (1 : Int)))) ∧ sm ((0 : Int)) ∧ True
    ∧ True ∧ k = k ∧ sm (k.tmod (6 : Int)) ∧ sm (W (k.tmod (6 : Int))) ∧ n = n ∧ sm (n.tmod (30 : Int)) ∧ sm (W (n.tmod (30 : Int))) ∧ sm (W (W (n.tmod (30 : Int)) +
    (1 : Int))) ∧ ((sm ((16 : Nat)) ∧ sm ((1 : Nat)) ∧ ∀ (i : Nat), i < (16 : Nat) → sm ((fillS (1 : Int)).low.getD i (0 : Int)) ∧ True) ∧ (sm ((16 : Nat)) ∧ sm ((1
    : Nat)) ∧ ∀ (i : Nat), i < (16 : Nat) → sm ((fillS (1 : Int)).high.getD i (0 : Int)) ∧ True) ∧ True) ∧ ((sm ((16 : Nat)) ∧ sm ((1 : Nat)) ∧ ∀ (i : Nat), i < (16
    : Nat) → sm ((fillS (2 : Int)).low.getD i (0 : Int)) ∧ True) ∧ (sm ((16 : Nat)) ∧ sm ((1 : Nat)) ∧ ∀ (i : Nat), i < (16 : Nat) → sm ((fillS (2 : Int)).high.getD
    i (0 : Int)) ∧ True) ∧ True) ∧ ((sm ((16 : Nat)) ∧ sm ((0 : Nat) + (1 : Nat)) ∧ ∀ (i : Nat), i < (16 : Nat) → sm ((fillS (1 : Int)).low.getD i (0 : Int)) ∧ True)
    ∧ (sm ((16 : Nat)) ∧ sm ((0 : Nat) + (1 : Nat)) ∧ ∀ (i : Nat), i < (16 : Nat) → sm ((fillS (1 : Int)).high.getD i (0 : Int)) ∧ True) ∧ True) ∧ n_1 = n_1 ∧ sm (W
    (W (n.tmod (30 : Int)) + (1 : Int))) ∧ True ∧ True ∧ True ∧ (((sm ((16 : Nat)) ∧ sm ((1 : Nat)) ∧ ∀ (i : Nat), i < (16 : Nat) → sm ((F6 k n n_1).low.getD i (0 :
    Int)) ∧ True) ∧ (sm ((16 : Nat)) ∧ sm ((1 : Nat)) ∧ ∀ (i : Nat), i < (16 : Nat) → sm ((F6 k n n_1).high.getD i (0 : Int)) ∧ True) ∧ True) ∧ sm (bldE (W (k.tmod (6
    : Int))) (W (W (n.tmod (30 : Int)) + (1 : Int)))) ∧ True) ∧ sm (W (k.tmod (6 : Int))) ∧ ((sm ((16 : Nat)) ∧ sm ((0 : Nat) + (1 : Nat)) ∧ ∀ (i : Nat), i < (16 : Nat)
    → sm ((fillS (1 : Int)).low.getD i (0 : Int)) ∧ True) ∧ (sm ((16 : Nat)) ∧ sm ((0 : Nat) + (1 : Nat)) ∧ ∀ (i : Nat), i < (16 : Nat) → sm ((fillS (1 : Int)).high.getD
    i (0 : Int)) ∧ True) ∧ True) ∧ ((sm ((16 : Nat)) ∧ sm ((0 : Nat) + (1 : Nat)) ∧ ∀ (i : Nat), i < (16 : Nat) → sm ((fillS (2 : Int)).low.getD i (0 : Int)) ∧ True)
    ∧ (sm ((16 : Nat)) ∧ sm ((0 : Nat) + (1 : Nat)) ∧ ∀ (i : Nat), i < (16 : Nat) → sm ((fillS (2 : Int)).high.getD i (0 : Int)) ∧ True) ∧ True) ∧ n_1 = n_1 ∧ sm (W
    (W (n.tmod (30 : Int)) + (1 : Int))) ∧ (((sm ((16 : Nat)) ∧ sm ((1 : Nat)) ∧ ∀ (i : Nat), i < (16 : Nat) → sm ((F6 k n n_1).low.getD i (0 : Int)) ∧ True) ∧ (sm ((16
    : Nat)) ∧ sm ((1 : Nat)) ∧ ∀ (i : Nat), i < (16 : Nat) → sm ((F6 k n n_1).high.getD i (0 : Int)) ∧ True) ∧ True) ∧ sm (bldE (W (k.tmod (6 : Int))) (W (W (n.tmod
    (30 : Int)) + (1 : Int)))) ∧ True) ∧ ((sm ((16 : Nat)) ∧ sm ((1 : Nat)) ∧ ∀ (i : Nat), i < (16 : Nat) → sm ((F6 k n n_1).low.getD i (0 : Int)) ∧ True) ∧ (sm ((16
    : Nat)) ∧ sm ((1 : Nat)) ∧ ∀ (i : Nat), i < (16 : Nat) → sm ((F6 k n n_1).high.getD i (0 : Int)) ∧ True) ∧ True) ∧ sm (bldE (W (k.tmod (6 : Int))) (W (W (n.tmod
    (30 : Int)) + (1 : Int)))) ∧ sm (bldE (W (k.tmod (6 : Int))) (W (W (n.tmod (30 : Int)) + (1 : Int)))) ∧ sm ((bldE (W (k.tmod (6 : Int))) (W (W (n.tmod (30 : Int))
    + (1 : Int))) != (0 : Int))) ∧ True ∧ n_1 = n_1 ∧ sm ((n_1 == (0 : Int))) ∧ True ∧ True ∧ True ∧ True ∧ True ∧ True ∧ True ∧ n_1 = n_1 ∧ sm (W (W (n.tmod (30 : Int))
    + (1 : Int))) ∧ sm ((n_1 == W (W (n.tmod (30 : Int)) + (1 : Int)))) ∧ True ∧ ((sm ((16 : Nat)) ∧ sm ((0 : Nat) + (1 : Nat)) ∧ ∀ (i : Nat), i < (16 : Nat) → sm ((F6
    k n n_1).low.getD i (0 : Int)) ∧ True) ∧ (sm ((16 : Nat)) ∧ sm ((0 : Nat) + (1 : Nat)) ∧ ∀ (i : Nat), i < (16 : Nat) → sm ((F6 k n n_1).high.getD i (0 : Int)) ∧
    True) ∧ True) ∧ ((sm ((16 : Nat)) ∧ sm ((0 : Nat) + (1 : Nat)) ∧ ∀ (i : Nat), i < (16 : Nat) → sm ((fillS (2 : Int)).low.getD i (0 : Int)) ∧ True) ∧ (sm ((16 : Nat))
    ∧ sm ((0 : Nat) + (1 : Nat)) ∧ ∀ (i : Nat), i < (16 : Nat) → sm ((fillS (2 : Int)).high.getD i (0 : Int)) ∧ True) ∧ True) ∧ sm (!eqSegs [Seg.a (16 : Nat) ((0 : Nat)
    + (1 : Nat)) fun j => [SV.int IntKind.u64 ((F6 k n n_1).low.getD j (0 : Int))], Seg.a (16 : Nat) ((0 : Nat) + (1 : Nat)) fun j => [SV.int IntKind.u64 ((F6 k n n_1).high.getD
    j (0 : Int))]] [Seg.a (16 : Nat) ((0 : Nat) + (1 : Nat)) fun j => [SV.int IntKind.u64 ((fillS (2 : Int)).low.getD j (0 : Int))], Seg.a (16 : Nat) ((0 : Nat) + (1
    : Nat)) fun j => [SV.int IntKind.u64 ((fillS (2 : Int)).high.getD j (0 : Int))]]) ∧ sm (!eqSegs [Seg.a (16 : Nat) ((0 : Nat) + (1 : Nat)) fun j => [SV.int IntKind.u64
    ((F6 k n n_1).low.getD j (0 : Int))], Seg.a (16 : Nat) ((0 : Nat) + (1 : Nat)) fun j => [SV.int IntKind.u64 ((F6 k n n_1).high.getD j (0 : Int))]] [Seg.a (16 : Nat)
    ((0 : Nat) + (1 : Nat)) fun j => [SV.int IntKind.u64 ((fillS (2 : Int)).low.getD j (0 : Int))], Seg.a (16 : Nat) ((0 : Nat) + (1 : Nat)) fun j => [SV.int IntKind.u64
    ((fillS (2 : Int)).high.getD j (0 : Int))]]) ∧ True ∧ True ∧ True ∧ True ∧ True ∧ True ∧ True ∧ True ∧ True ∧ True ∧ True ∧ True ∧ True ∧ True ∧ True ∧ True ∧ True
    ∧ True ∧ True ∧ True ∧ True ∧ True ∧ True ∧ True ∧ True ∧ True ∧ True ∧ True ∧ True ∧ True) ∧ ((if false = true then [] else List.map Seg.shape ([Seg.a (16 : Nat)
    (1 : Nat) fun x => [SV.int IntKind.u64 (0 : Int)]] ++ ([Seg.a (16 : Nat) (1 : Nat) fun x => [SV.int IntKind.u64 (0 : Int)]] ++ []))) = if false = true then [] else
    List.map Seg.shape ([Seg.a (16 : Nat) (1 : Nat) fun x => [SV.int IntKind.u64 (0 : Int)]] ++ ([Seg.a (16 : Nat) (1 : Nat) fun x => [SV.int IntKind.u64 (0 : Int)]]
    ++ []))) ∧ ((sm ((16 : Nat)) ∧ sm ((1 : Nat)) ∧ ∀ (i : Nat), i < (16 : Nat) → sm ((fillS (1 : Int)).low.getD i (0 : Int)) ∧ True) ∧ (sm ((16 : Nat)) ∧ sm ((1 : Nat))
    ∧ ∀ (i : Nat), i < (16 : Nat) → sm ((fillS (1 : Int)).high.getD i (0 : Int)) ∧ True) ∧ True) ∧ ((if false = true then [] else List.map Seg.shape ([Seg.a (16 : Nat)
    (1 : Nat) fun x => [SV.int IntKind.u64 (0 : Int)]] ++ ([Seg.a (16 : Nat) (1 : Nat) fun x => [SV.int IntKind.u64 (0 : Int)]] ++ []))) = if false = true then [] else
    List.map Seg.shape ([Seg.a (16 : Nat) (1 : Nat) fun x => [SV.int IntKind.u64 (0 : Int)]] ++ ([Seg.a (16 : Nat) (1 : Nat) fun x => [SV.int IntKind.u64 (0 : Int)]]
    ++ []))) ∧ ((sm ((16 : Nat)) ∧ sm ((1 : Nat)) ∧ ∀ (i : Nat), i < (16 : Nat) → sm ((fillS (2 : Int)).low.getD i (0 : Int)) ∧ True) ∧ (sm ((16 : Nat)) ∧ sm ((1 : Nat))
    ∧ ∀ (i : Nat), i < (16 : Nat) → sm ((fillS (2 : Int)).high.getD i (0 : Int)) ∧ True) ∧ True) ∧ ((if false = true then [] else List.map Seg.shape ([Seg.a (16 : Nat)
    (1 : Nat) fun x => [SV.int IntKind.u64 (0 : Int)]] ++ ([Seg.a (16 : Nat) (1 : Nat) fun x => [SV.int IntKind.u64 (0 : Int)]] ++ []))) = if false = true then [] else
    List.map Seg.shape ([Seg.a (16 : Nat) (1 : Nat) fun x => [SV.int IntKind.u64 (0 : Int)]] ++ ([Seg.a (16 : Nat) (1 : Nat) fun x => [SV.int IntKind.u64 (0 : Int)]]
    ++ []))) ∧ ((sm ((16 : Nat)) ∧ sm ((codI IntKind.u64).n) ∧ ∀ (i : Nat), i < (16 : Nat) → sm (l.getD i (codI IntKind.u64).dft) ∧ True) ∧ (sm ((16 : Nat)) ∧ sm ((codI
    IntKind.u64).n) ∧ ∀ (i : Nat), i < (16 : Nat) → sm (l_1.getD i (codI IntKind.u64).dft) ∧ True) ∧ True) ∧ ((if false = true then [] else List.map Seg.shape ([Seg.a
    (16 : Nat) (1 : Nat) fun x => [SV.int IntKind.u64 (0 : Int)]] ++ ([Seg.a (16 : Nat) (1 : Nat) fun x => [SV.int IntKind.u64 (0 : Int)]] ++ []))) = if false = true
    then [] else List.map Seg.shape ([Seg.a (16 : Nat) (1 : Nat) fun x => [SV.int IntKind.u64 (0 : Int)]] ++ ([Seg.a (16 : Nat) (1 : Nat) fun x => [SV.int IntKind.u64
    (0 : Int)]] ++ []))) ∧ ((sm ((16 : Nat)) ∧ sm ((1 : Nat)) ∧ ∀ (i : Nat), i < (16 : Nat) → sm ((F6 k n n_1).low.getD i (0 : Int)) ∧ True) ∧ (sm ((16 : Nat)) ∧ sm
    ((1 : Nat)) ∧ ∀ (i : Nat), i < (16 : Nat) → sm ((F6 k n n_1).high.getD i (0 : Int)) ∧ True) ∧ True) ∧ True) ∧ ∀ (n_2 : Int), (0 : Int) ≤ n_2 ∧ n_2 ≤ (16 : Int) →
    True ∧ (decide (n_2 < (16 : Int)) = true → True ∧ (((0 : Int) ≤ (0 : Int) ∧ (0 : Int) ≤ (64 : Int)) ∧ (k = k ∧ n = n ∧ True ∧ True ∧ True ∧ sm (W (k.tmod (6 : Int)))
    ∧ sm (W (W (n.tmod (30 : Int)) + (1 : Int))) ∧ True ∧ True ∧ True ∧ n_1 = n_1 ∧ True ∧ sm (bldE (W (k.tmod (6 : Int))) (W (W (n.tmod (30 : Int)) + (1 : Int)))) ∧
    n_2 = n_2 ∧ sm ((0 : Int)) ∧ True ∧ k = k ∧ sm (k.tmod (6 : Int)) ∧ sm (W (k.tmod (6 : Int))) ∧ n = n ∧ sm (n.tmod (30 : Int)) ∧ sm (W (n.tmod (30 : Int))) ∧ sm
    (W (W (n.tmod (30 : Int)) + (1 : Int))) ∧ ((sm ((16 : Nat)) ∧ sm ((1 : Nat)) ∧ ∀ (i : Nat), i < (16 : Nat) → sm ((fillS (1 : Int)).low.getD i (0 : Int)) ∧ True)
    ∧ (sm ((16 : Nat)) ∧ sm ((1 : Nat)) ∧ ∀ (i : Nat), i < (16 : Nat) → sm ((fillS (1 : Int)).high.getD i (0 : Int)) ∧ True) ∧ True) ∧ ((sm ((16 : Nat)) ∧ sm ((1 : Nat))
    ∧ ∀ (i : Nat), i < (16 : Nat) → sm ((fillS (2 : Int)).low.getD i (0 : Int)) ∧ True) ∧ (sm ((16 : Nat)) ∧ sm ((1 : Nat)) ∧ ∀ (i : Nat), i < (16 : Nat) → sm ((fillS
    (2 : Int)).high.getD i (0 : Int)) ∧ True) ∧ True) ∧ ((sm ((16 : Nat)) ∧ sm ((0 : Nat) + (1 : Nat)) ∧ ∀ (i : Nat), i < (16 : Nat) → sm ((fillS (1 : Int)).low.getD
    i (0 : Int)) ∧ True) ∧ (sm ((16 : Nat)) ∧ sm ((0 : Nat) + (1 : Nat)) ∧ ∀ (i : Nat), i < (16 : Nat) → sm ((fillS (1 : Int)).high.getD i (0 : Int)) ∧ True) ∧ True)
    ∧ n_1 = n_1 ∧ sm (W (W (n.tmod (30 : Int)) + (1 : Int))) ∧ True ∧ True ∧ True ∧ (((sm ((16 : Nat)) ∧ sm ((1 : Nat)) ∧ ∀ (i : Nat), i < (16 : Nat) → sm ((F6 k n n_1).low.getD
    i (0 : Int)) ∧ True) ∧ (sm ((16 : Nat)) ∧ sm ((1 : Nat)) ∧ ∀ (i : Nat), i < (16 : Nat) → sm ((F6 k n n_1).high.getD i (0 : Int)) ∧ True) ∧ True) ∧ sm (bldE (W (k.tmod
    (6 : Int))) (W (W (n.tmod (30 : Int)) + (1 : Int)))) ∧ True) ∧ sm (W (k.tmod (6 : Int))) ∧ ((sm ((16 : Nat)) ∧ sm ((0 : Nat) + (1 : Nat)) ∧ ∀ (i : Nat), i < (16
    : Nat) → sm ((fillS (1 : Int)).low.getD i (0 : Int)) ∧ True) ∧ (sm ((16 : Nat)) ∧ sm ((0 : Nat) + (1 : Nat)) ∧ ∀ (i : Nat), i < (16 : Nat) → sm ((fillS (1 : Int)).high.getD
    i (0 : Int)) ∧ True) ∧ True) ∧ ((sm ((16 : Nat)) ∧ sm ((0 : Nat) + (1 : Nat)) ∧ ∀ (i : Nat), i < (16 : Nat) → sm ((fillS (2 : Int)).low.getD i (0 : Int)) ∧ True)
    ∧ (sm ((16 : Nat)) ∧ sm ((0 : Nat) + (1 : Nat)) ∧ ∀ (i : Nat), i < (16 : Nat) → sm ((fillS (2 : Int)).high.getD i (0 : Int)) ∧ True) ∧ True) ∧ n_1 = n_1 ∧ sm (W
    (W (n.tmod (30 : Int)) + (1 : Int))) ∧ (((sm ((16 : Nat)) ∧ sm ((1 : Nat)) ∧ ∀ (i : Nat), i < (16 : Nat) → sm ((F6 k n n_1).low.getD i (0 : Int)) ∧ True) ∧ (sm ((16
    : Nat)) ∧ sm ((1 : Nat)) ∧ ∀ (i : Nat), i < (16 : Nat) → sm ((F6 k n n_1).high.getD i (0 : Int)) ∧ True) ∧ True) ∧ sm (bldE (W (k.tmod (6 : Int))) (W (W (n.tmod
    (30 : Int)) + (1 : Int)))) ∧ True) ∧ ((sm ((16 : Nat)) ∧ sm ((1 : Nat)) ∧ ∀ (i : Nat), i < (16 : Nat) → sm ((F6 k n n_1).low.getD i (0 : Int)) ∧ True) ∧ (sm ((16
    : Nat)) ∧ sm ((1 : Nat)) ∧ ∀ (i : Nat), i < (16 : Nat) → sm ((F6 k n n_1).high.getD i (0 : Int)) ∧ True) ∧ True) ∧ sm (bldE (W (k.tmod (6 : Int))) (W (W (n.tmod
    (30 : Int)) + (1 : Int)))) ∧ sm (bldE (W (k.tmod (6 : Int))) (W (W (n.tmod (30 : Int)) + (1 : Int)))) ∧ sm ((bldE (W (k.tmod (6 : Int))) (W (W (n.tmod (30 : Int))
    + (1 : Int))) != (0 : Int))) ∧ True ∧ n_1 = n_1 ∧ sm ((n_1 == (0 : Int))) ∧ True ∧ True ∧ True ∧ True ∧ True ∧ True ∧ True ∧ n_1 = n_1 ∧ sm (W (W (n.tmod (30 : Int))
    + (1 : Int))) ∧ sm ((n_1 == W (W (n.tmod (30 : Int)) + (1 : Int)))) ∧ True ∧ ((sm ((16 : Nat)) ∧ sm ((0 : Nat) + (1 : Nat)) ∧ ∀ (i : Nat), i < (16 : Nat) → sm ((F6
    k n n_1).low.getD i (0 : Int)) ∧ True) ∧ (sm ((16 : Nat)) ∧ sm ((0 : Nat) + (1 : Nat)) ∧ ∀ (i : Nat), i < (16 : Nat) → sm ((F6 k n n_1).high.getD i (0 : Int)) ∧
    True) ∧ True) ∧ ((sm ((16 : Nat)) ∧ sm ((0 : Nat) + (1 : Nat)) ∧ ∀ (i : Nat), i < (16 : Nat) → sm ((fillS (2 : Int)).low.getD i (0 : Int)) ∧ True) ∧ (sm ((16 : Nat))
    ∧ sm ((0 : Nat) + (1 : Nat)) ∧ ∀ (i : Nat), i < (16 : Nat) → sm ((fillS (2 : Int)).high.getD i (0 : Int)) ∧ True) ∧ True) ∧ sm (!eqSegs [Seg.a (16 : Nat) ((0 : Nat)
    + (1 : Nat)) fun j => [SV.int IntKind.u64 ((F6 k n n_1).low.getD j (0 : Int))], Seg.a (16 : Nat) ((0 : Nat) + (1 : Nat)) fun j => [SV.int IntKind.u64 ((F6 k n n_1).high.getD
    j (0 : Int))]] [Seg.a (16 : Nat) ((0 : Nat) + (1 : Nat)) fun j => [SV.int IntKind.u64 ((fillS (2 : Int)).low.getD j (0 : Int))], Seg.a (16 : Nat) ((0 : Nat) + (1
    : Nat)) fun j => [SV.int IntKind.u64 ((fillS (2 : Int)).high.getD j (0 : Int))]]) ∧ sm (!eqSegs [Seg.a (16 : Nat) ((0 : Nat) + (1 : Nat)) fun j => [SV.int IntKind.u64
    ((F6 k n n_1).low.getD j (0 : Int))], Seg.a (16 : Nat) ((0 : Nat) + (1 : Nat)) fun j => [SV.int IntKind.u64 ((F6 k n n_1).high.getD j (0 : Int))]] [Seg.a (16 : Nat)
    ((0 : Nat) + (1 : Nat)) fun j => [SV.int IntKind.u64 ((fillS (2 : Int)).low.getD j (0 : Int))], Seg.a (16 : Nat) ((0 : Nat) + (1 : Nat)) fun j => [SV.int IntKind.u64
    ((fillS (2 : Int)).high.getD j (0 : Int))]]) ∧ True ∧ n_2 = n_2 ∧ True ∧ True ∧ True ∧ True ∧ True ∧ True ∧ True ∧ True ∧ True ∧ True ∧ True ∧ True ∧ True ∧ True
    ∧ True ∧ True ∧ True ∧ True ∧ True ∧ True ∧ True ∧ True ∧ True ∧ True ∧ True ∧ True ∧ True ∧ True) ∧ ((if false = true then [] else List.map Seg.shape ([Seg.a (16
    : Nat) (1 : Nat) fun x => [SV.int IntKind.u64 (0 : Int)]] ++ ([Seg.a (16 : Nat) (1 : Nat) fun x => [SV.int IntKind.u64 (0 : Int)]] ++ []))) = if false = true then
    [] else List.map Seg.shape ([Seg.a (16 : Nat) (1 : Nat) fun x => [SV.int IntKind.u64 (0 : Int)]] ++ ([Seg.a (16 : Nat) (1 : Nat) fun x => [SV.int IntKind.u64 (0
    : Int)]] ++ []))) ∧ ((sm ((16 : Nat)) ∧ sm ((1 : Nat)) ∧ ∀ (i : Nat), i < (16 : Nat) → sm ((fillS (1 : Int)).low.getD i (0 : Int)) ∧ True) ∧ (sm ((16 : Nat)) ∧ sm
    ((1 : Nat)) ∧ ∀ (i : Nat), i < (16 : Nat) → sm ((fillS (1 : Int)).high.getD i (0 : Int)) ∧ True) ∧ True) ∧ ((if false = true then [] else List.map Seg.shape ([Seg.a
    (16 : Nat) (1 : Nat) fun x => [SV.int IntKind.u64 (0 : Int)]] ++ ([Seg.a (16 : Nat) (1 : Nat) fun x => [SV.int IntKind.u64 (0 : Int)]] ++ []))) = if false = true
    then [] else List.map Seg.shape ([Seg.a (16 : Nat) (1 : Nat) fun x => [SV.int IntKind.u64 (0 : Int)]] ++ ([Seg.a (16 : Nat) (1 : Nat) fun x => [SV.int IntKind.u64
    (0 : Int)]] ++ []))) ∧ ((sm ((16 : Nat)) ∧ sm ((1 : Nat)) ∧ ∀ (i : Nat), i < (16 : Nat) → sm ((fillS (2 : Int)).low.getD i (0 : Int)) ∧ True) ∧ (sm ((16 : Nat))
    ∧ sm ((1 : Nat)) ∧ ∀ (i : Nat), i < (16 : Nat) → sm ((fillS (2 : Int)).high.getD i (0 : Int)) ∧ True) ∧ True) ∧ ((if false = true then [] else List.map Seg.shape
    ([Seg.a (16 : Nat) (1 : Nat) fun x => [SV.int IntKind.u64 (0 : Int)]] ++ ([Seg.a (16 : Nat) (1 : Nat) fun x => [SV.int IntKind.u64 (0 : Int)]] ++ []))) = if false
    = true then [] else List.map Seg.shape ([Seg.a (16 : Nat) (1 : Nat) fun x => [SV.int IntKind.u64 (0 : Int)]] ++ ([Seg.a (16 : Nat) (1 : Nat) fun x => [SV.int IntKind.u64
    (0 : Int)]] ++ []))) ∧ ((sm ((16 : Nat)) ∧ sm ((codI IntKind.u64).n) ∧ ∀ (i : Nat), i < (16 : Nat) → sm (l.getD i (codI IntKind.u64).dft) ∧ True) ∧ (sm ((16 : Nat))
    ∧ sm ((codI IntKind.u64).n) ∧ ∀ (i : Nat), i < (16 : Nat) → sm (l_1.getD i (codI IntKind.u64).dft) ∧ True) ∧ True) ∧ ((if false = true then [] else List.map Seg.shape
    ([Seg.a (16 : Nat) (1 : Nat) fun x => [SV.int IntKind.u64 (0 : Int)]] ++ ([Seg.a (16 : Nat) (1 : Nat) fun x => [SV.int IntKind.u64 (0 : Int)]] ++ []))) = if false
    = true then [] else List.map Seg.shape ([Seg.a (16 : Nat) (1 : Nat) fun x => [SV.int IntKind.u64 (0 : Int)]] ++ ([Seg.a (16 : Nat) (1 : Nat) fun x => [SV.int IntKind.u64
    (0 : Int)]] ++ []))) ∧ ((sm ((16 : Nat)) ∧ sm ((1 : Nat)) ∧ ∀ (i : Nat), i < (16 : Nat) → sm ((F6 k n n_1).low.getD i (0 : Int)) ∧ True) ∧ (sm ((16 : Nat)) ∧ sm
    ((1 : Nat)) ∧ ∀ (i : Nat), i < (16 : Nat) → sm ((F6 k n n_1).high.getD i (0 : Int)) ∧ True) ∧ True) ∧ True) ∧ ∀ (n_3 : Int), (0 : Int) ≤ n_3 ∧ n_3 ≤ (64 : Int) →
    True ∧ (decide (n_3 < (64 : Int)) = true → (t16 ∧ t16 ∧ True) ∧ True ∧ True ∧ ((((∀ (i : Nat), i < (16 : Nat) → true = true ∧ True) ∧ ∀ (i : Nat), i < (16 : Nat)
    → true = true ∧ True) ∧ True ∧ True) ∧ okF { low := rr (F6 k n n_1).low, high := rr (F6 k n n_1).high : Fr }) ∧ True ∧ ((getS { low := rr (F6 k n n_1).low, high := rr (F6 k n n_1).high : Fr }
    n_3 n_2 != (1 : Int)) = true → ((getS { low := rr (F6 k n n_1).low, high := rr (F6 k n n_1).high : Fr } n_3 n_2 != (2 : Int)) = true → True ∧ True ∧ True ∧ true
    = false ∧ True) ∧ ((getS { low := rr (F6 k n n_1).low, high := rr (F6 k n n_1).high : Fr } n_3 n_2 != (2 : Int)) = false → (t16 ∧ t16 ∧ True) ∧ True ∧ True ∧ ((((∀
    (i : Nat), i < (16 : Nat) → true = true ∧ True) ∧ ∀ (i : Nat), i < (16 : Nat) → true = true ∧ True) ∧ True ∧ True) ∧ okF { low := rowL (codI IntKind.u64) (16 : Nat) fun j => (codI IntKind.u64).enc (l.getD j (codI IntKind.u64).dft), high := rowL (codI IntKind.u64) (16 : Nat) fun j => (codI IntKind.u64).enc (l_1.getD j (codI IntKind.u64).dft) : Fr })
    ∧ True ∧ (decide (getS { low := rr (F6 k n n_1).low, high := rr (F6 k n n_1).high : Fr } n_3 n_2 < getS { low := rowL (codI IntKind.u64) (16 : Nat) fun j => (codI IntKind.u64).enc (l.getD j (codI IntKind.u64).dft), high := rowL (codI IntKind.u64) (16 : Nat) fun j => (codI IntKind.u64).enc (l_1.getD j (codI IntKind.u64).dft) : Fr }
    n_3 n_2) = true → True ∧ True ∧ true = false ∧ True) ∧ (decide (getS { low := rr (F6 k n n_1).low, high := rr (F6 k n n_1).high : Fr } n_3 n_2 < getS { low := rowL (codI IntKind.u64) (16 : Nat) fun j => (codI IntKind.u64).enc (l.getD j (codI IntKind.u64).dft), high := rowL (codI IntKind.u64) (16 : Nat) fun j => (codI IntKind.u64).enc (l_1.getD j (codI IntKind.u64).dft) : Fr }
    n_3 n_2) = false → True ∧ ((0 : Int) ≤ W (n_3 + (1 : Int)) ∧ W (n_3 + (1 : Int)) ≤ (64 : Int)) ∧ ((64 : Int) - W (n_3 + (1 : Int))).toNat < ((64 : Int) - n_3).toNat
    ∧ (k = k ∧ n = n ∧ True ∧ True ∧ True ∧ sm (W (k.tmod (6 : Int))) ∧ sm (W (W (n.tmod (30 : Int)) + (1 : Int))) ∧ True ∧ True ∧ True ∧ n_1 = n_1 ∧ True ∧ sm (bldE
    (W (k.tmod (6 : Int))) (W (W (n.tmod (30 : Int)) + (1 : Int)))) ∧ n_2 = n_2 ∧ sm (W (n_3 + (1 : Int))) ∧ True ∧ k = k ∧ sm (k.tmod (6 : Int)) ∧ sm (W (k.tmod (6
    : Int))) ∧ n = n ∧ sm (n.tmod (30 : Int)) ∧ sm (W (n.tmod (30 : Int))) ∧ sm (W (W (n.tmod (30 : Int)) + (1 : Int))) ∧ ((sm ((16 : Nat)) ∧ sm ((1 : Nat)) ∧ ∀ (i :
    Nat), i < (16 : Nat) → sm ((fillS (1 : Int)).low.getD i (0 : Int)) ∧ True) ∧ (sm ((16 : Nat)) ∧ sm ((1 : Nat)) ∧ ∀ (i : Nat), i < (16 : Nat) → sm ((fillS (1 : Int)).high.getD
    i (0 : Int)) ∧ True) ∧ True) ∧ ((sm ((16 : Nat)) ∧ sm ((1 : Nat)) ∧ ∀ (i : Nat), i < (16 : Nat) → sm ((fillS (2 : Int)).low.getD i (0 : Int)) ∧ True) ∧ (sm ((16
    : Nat)) ∧ sm ((1 : Nat)) ∧ ∀ (i : Nat), i < (16 : Nat) → sm ((fillS (2 : Int)).high.getD i (0 : Int)) ∧ True) ∧ True) ∧ ((sm ((16 : Nat)) ∧ sm ((0 : Nat) + (1 :
    Nat)) ∧ ∀ (i : Nat), i < (16 : Nat) → sm ((fillS (1 : Int)).low.getD i (0 : Int)) ∧ True) ∧ (sm ((16 : Nat)) ∧ sm ((0 : Nat) + (1 : Nat)) ∧ ∀ (i : Nat), i < (16
    : Nat) → sm ((fillS (1 : Int)).high.getD i (0 : Int)) ∧ True) ∧ True) ∧ n_1 = n_1 ∧ sm (W (W (n.tmod (30 : Int)) + (1 : Int))) ∧ True ∧ True ∧ True ∧ (((sm ((16
    : Nat)) ∧ sm ((1 : Nat)) ∧ ∀ (i : Nat), i < (16 : Nat) → sm ((F6 k n n_1).low.getD i (0 : Int)) ∧ True) ∧ (sm ((16 : Nat)) ∧ sm ((1 : Nat)) ∧ ∀ (i : Nat), i < (16
    : Nat) → sm ((F6 k n n_1).high.getD i (0 : Int)) ∧ True) ∧ True) ∧ sm (bldE (W (k.tmod (6 : Int))) (W (W (n.tmod (30 : Int)) + (1 : Int)))) ∧ True) ∧ sm (W (k.tmod
    (6 : Int))) ∧ ((sm ((16 : Nat)) ∧ sm ((0 : Nat) + (1 : Nat)) ∧ ∀ (i : Nat), i < (16 : Nat) → sm ((fillS (1 : Int)).low.getD i (0 : Int)) ∧ True) ∧ (sm ((16 : Nat))
    ∧ sm ((0 : Nat) + (1 : Nat)) ∧ ∀ (i : Nat), i < (16 : Nat) → sm ((fillS (1 : Int)).high.getD i (0 : Int)) ∧ True) ∧ True) ∧ ((sm ((16 : Nat)) ∧ sm ((0 : Nat) + (1
    : Nat)) ∧ ∀ (i : Nat), i < (16 : Nat) → sm ((fillS (2 : Int)).low.getD i (0 : Int)) ∧ True) ∧ (sm ((16 : Nat)) ∧ sm ((0 : Nat) + (1 : Nat)) ∧ ∀ (i : Nat), i < (16
    : Nat) → sm ((fillS (2 : Int)).high.getD i (0 : Int)) ∧ True) ∧ True) ∧ n_1 = n_1 ∧ sm (W (W (n.tmod (30 : Int)) + (1 : Int))) ∧ (((sm ((16 : Nat)) ∧ sm ((1 : Nat))
    ∧ ∀ (i : Nat), i < (16 : Nat) → sm ((F6 k n n_1).low.getD i (0 : Int)) ∧ True) ∧ (sm ((16 : Nat)) ∧ sm ((1 : Nat)) ∧ ∀ (i : Nat), i < (16 : Nat) → sm ((F6 k n n_1).high.getD
    i (0 : Int)) ∧ True) ∧ True) ∧ sm (bldE (W (k.tmod (6 : Int))) (W (W (n.tmod (30 : Int)) + (1 : Int)))) ∧ True) ∧ ((sm ((16 : Nat)) ∧ sm ((1 : Nat)) ∧ ∀ (i : Nat),
    i < (16 : Nat) → sm ((F6 k n n_1).low.getD i (0 : Int)) ∧ True) ∧ (sm ((16 : Nat)) ∧ sm ((1 : Nat)) ∧ ∀ (i : Nat), i < (16 : Nat) → sm ((F6 k n n_1).high.getD i
    (0 : Int)) ∧ True) ∧ True) ∧ sm (bldE (W (k.tmod (6 : Int))) (W (W (n.tmod (30 : Int)) + (1 : Int)))) ∧ sm (bldE (W (k.tmod (6 : Int))) (W (W (n.tmod (30 : Int))
    + (1 : Int)))) ∧ sm ((bldE (W (k.tmod (6 : Int))) (W (W (n.tmod (30 : Int)) + (1 : Int))) != (0 : Int))) ∧ True ∧ n_1 = n_1 ∧ sm ((n_1 == (0 : Int))) ∧ True ∧ True
    ∧ True ∧ True ∧ True ∧ True ∧ True ∧ n_1 = n_1 ∧ sm (W (W (n.tmod (30 : Int)) + (1 : Int))) ∧ sm ((n_1 == W (W (n.tmod (30 : Int)) + (1 : Int)))) ∧ True ∧ ((sm ((16
    : Nat)) ∧ sm ((0 : Nat) + (1 : Nat)) ∧ ∀ (i : Nat), i < (16 : Nat) → sm ((F6 k n n_1).low.getD i (0 : Int)) ∧ True) ∧ (sm ((16 : Nat)) ∧ sm ((0 : Nat) + (1 : Nat))
    ∧ ∀ (i : Nat), i < (16 : Nat) → sm ((F6 k n n_1).high.getD i (0 : Int)) ∧ True) ∧ True) ∧ ((sm ((16 : Nat)) ∧ sm ((0 : Nat) + (1 : Nat)) ∧ ∀ (i : Nat), i < (16 :
    Nat) → sm ((fillS (2 : Int)).low.getD i (0 : Int)) ∧ True) ∧ (sm ((16 : Nat)) ∧ sm ((0 : Nat) + (1 : Nat)) ∧ ∀ (i : Nat), i < (16 : Nat) → sm ((fillS (2 : Int)).high.getD
    i (0 : Int)) ∧ True) ∧ True) ∧ sm (!eqSegs [Seg.a (16 : Nat) ((0 : Nat) + (1 : Nat)) fun j => [SV.int IntKind.u64 ((F6 k n n_1).low.getD j (0 : Int))], Seg.a (16
    : Nat) ((0 : Nat) + (1 : Nat)) fun j => [SV.int IntKind.u64 ((F6 k n n_1).high.getD j (0 : Int))]] [Seg.a (16 : Nat) ((0 : Nat) + (1 : Nat)) fun j => [SV.int IntKind.u64
    ((fillS (2 : Int)).low.getD j (0 : Int))], Seg.a (16 : Nat) ((0 : Nat) + (1 : Nat)) fun j => [SV.int IntKind.u64 ((fillS (2 : Int)).high.getD j (0 : Int))]]) ∧ sm
    (!eqSegs [Seg.a (16 : Nat) ((0 : Nat) + (1 : Nat)) fun j => [SV.int IntKind.u64 ((F6 k n n_1).low.getD j (0 : Int))], Seg.a (16 : Nat) ((0 : Nat) + (1 : Nat)) fun
    j => [SV.int IntKind.u64 ((F6 k n n_1).high.getD j (0 : Int))]] [Seg.a (16 : Nat) ((0 : Nat) + (1 : Nat)) fun j => [SV.int IntKind.u64 ((fillS (2 : Int)).low.getD
    j (0 : Int))], Seg.a (16 : Nat) ((0 : Nat) + (1 : Nat)) fun j => [SV.int IntKind.u64 ((fillS (2 : Int)).high.getD j (0 : Int))]]) ∧ True ∧ n_2 = n_2 ∧ True ∧ True
    ∧ True ∧ True ∧ True ∧ True ∧ True ∧ True ∧ True ∧ True ∧ True ∧ True ∧ True ∧ True ∧ True ∧ True ∧ True ∧ True ∧ True ∧ True ∧ True ∧ True ∧ True ∧ True ∧ True
    ∧ True ∧ True ∧ True) ∧ ((if false = true then [] else List.map Seg.shape ([Seg.a (16 : Nat) (1 : Nat) fun x => [SV.int IntKind.u64 (0 : Int)]] ++ ([Seg.a (16 :
    Nat) (1 : Nat) fun x => [SV.int IntKind.u64 (0 : Int)]] ++ []))) = if false = true then [] else List.map Seg.shape ([Seg.a (16 : Nat) (1 : Nat) fun x => [SV.int
    IntKind.u64 (0 : Int)]] ++ ([Seg.a (16 : Nat) (1 : Nat) fun x => [SV.int IntKind.u64 (0 : Int)]] ++ []))) ∧ ((sm ((16 : Nat)) ∧ sm ((1 : Nat)) ∧ ∀ (i : Nat), i <
    (16 : Nat) → sm ((fillS (1 : Int)).low.getD i (0 : Int)) ∧ True) ∧ (sm ((16 : Nat)) ∧ sm ((1 : Nat)) ∧ ∀ (i : Nat), i < (16 : Nat) → sm ((fillS (1 : Int)).high.getD
    i (0 : Int)) ∧ True) ∧ True) ∧ ((if false = true then [] else List.map Seg.shape ([Seg.a (16 : Nat) (1 : Nat) fun x => [SV.int IntKind.u64 (0 : Int)]] ++ ([Seg.a
    (16 : Nat) (1 : Nat) fun x => [SV.int IntKind.u64 (0 : Int)]] ++ []))) = if false = true then [] else List.map Seg.shape ([Seg.a (16 : Nat) (1 : Nat) fun x => [SV.int
    IntKind.u64 (0 : Int)]] ++ ([Seg.a (16 : Nat) (1 : Nat) fun x => [SV.int IntKind.u64 (0 : Int)]] ++ []))) ∧ ((sm ((16 : Nat)) ∧ sm ((1 : Nat)) ∧ ∀ (i : Nat), i <
    (16 : Nat) → sm ((fillS (2 : Int)).low.getD i (0 : Int)) ∧ True) ∧ (sm ((16 : Nat)) ∧ sm ((1 : Nat)) ∧ ∀ (i : Nat), i < (16 : Nat) → sm ((fillS (2 : Int)).high.getD
    i (0 : Int)) ∧ True) ∧ True) ∧ ((if false = true then [] else List.map Seg.shape ([Seg.a (16 : Nat) (1 : Nat) fun x => [SV.int IntKind.u64 (0 : Int)]] ++ ([Seg.a
    (16 : Nat) (1 : Nat) fun x => [SV.int IntKind.u64 (0 : Int)]] ++ []))) = if false = true then [] else List.map Seg.shape ([Seg.a (16 : Nat) (1 : Nat) fun x => [SV.int
    IntKind.u64 (0 : Int)]] ++ ([Seg.a (16 : Nat) (1 : Nat) fun x => [SV.int IntKind.u64 (0 : Int)]] ++ []))) ∧ ((sm ((16 : Nat)) ∧ sm ((codI IntKind.u64).n) ∧ ∀ (i
    : Nat), i < (16 : Nat) → sm (l.getD i (codI IntKind.u64).dft) ∧ True) ∧ (sm ((16 : Nat)) ∧ sm ((codI IntKind.u64).n) ∧ ∀ (i : Nat), i < (16 : Nat) → sm (l_1.getD
    i (codI IntKind.u64).dft) ∧ True) ∧ True) ∧ ((if false = true then [] else List.map Seg.shape ([Seg.a (16 : Nat) (1 : Nat) fun x => [SV.int IntKind.u64 (0 : Int)]]
    ++ ([Seg.a (16 : Nat) (1 : Nat) fun x => [SV.int IntKind.u64 (0 : Int)]] ++ []))) = if false = true then [] else List.map Seg.shape ([Seg.a (16 : Nat) (1 : Nat)
    fun x => [SV.int IntKind.u64 (0 : Int)]] ++ ([Seg.a (16 : Nat) (1 : Nat) fun x => [SV.int IntKind.u64 (0 : Int)]] ++ []))) ∧ ((sm ((16 : Nat)) ∧ sm ((1 : Nat)) ∧
    ∀ (i : Nat), i < (16 : Nat) → sm ((F6 k n n_1).low.getD i (0 : Int)) ∧ True) ∧ (sm ((16 : Nat)) ∧ sm ((1 : Nat)) ∧ ∀ (i : Nat), i < (16 : Nat) → sm ((F6 k n n_1).high.getD
    i (0 : Int)) ∧ True) ∧ True) ∧ True))) ∧ ((getS { low := rr (F6 k n n_1).low, high := rr (F6 k n n_1).high : Fr } n_3 n_2 != (1 : Int)) = false → (t16 ∧ t16 ∧ True)
    ∧ True ∧ True ∧ ((((∀ (i : Nat), i < (16 : Nat) → true = true ∧ True) ∧ ∀ (i : Nat), i < (16 : Nat) → true = true ∧ True) ∧ True ∧ True) ∧ okF { low := rowL (codI IntKind.u64) (16 : Nat) fun j => (codI IntKind.u64).enc (l.getD j (codI IntKind.u64).dft), high := rowL (codI IntKind.u64) (16 : Nat) fun j => (codI IntKind.u64).enc (l_1.getD j (codI IntKind.u64).dft) : Fr })
    ∧ True ∧ (decide (getS { low := rr (F6 k n n_1).low, high := rr (F6 k n n_1).high : Fr } n_3 n_2 < getS { low := rowL (codI IntKind.u64) (16 : Nat) fun j => (codI IntKind.u64).enc (l.getD j (codI IntKind.u64).dft), high := rowL (codI IntKind.u64) (16 : Nat) fun j => (codI IntKind.u64).enc (l_1.getD j (codI IntKind.u64).dft) : Fr }
    n_3 n_2) = true → True ∧ True ∧ true = false ∧ True) ∧ (decide (getS { low := rr (F6 k n n_1).low, high := rr (F6 k n n_1).high : Fr } n_3 n_2 < getS { low := rowL (codI IntKind.u64) (16 : Nat) fun j => (codI IntKind.u64).enc (l.getD j (codI IntKind.u64).dft), high := rowL (codI IntKind.u64) (16 : Nat) fun j => (codI IntKind.u64).enc (l_1.getD j (codI IntKind.u64).dft) : Fr }
    n_3 n_2) = false → True ∧ ((0 : Int) ≤ W (n_3 + (1 : Int)) ∧ W (n_3 + (1 : Int)) ≤ (64 : Int)) ∧ ((64 : Int) - W (n_3 + (1 : Int))).toNat < ((64 : Int) - n_3).toNat
    ∧ (k = k ∧ n = n ∧ True ∧ True ∧ True ∧ sm (W (k.tmod (6 : Int))) ∧ sm (W (W (n.tmod (30 : Int)) + (1 : Int))) ∧ True ∧ True ∧ True ∧ n_1 = n_1 ∧ True ∧ sm (bldE
    (W (k.tmod (6 : Int))) (W (W (n.tmod (30 : Int)) + (1 : Int)))) ∧ n_2 = n_2 ∧ sm (W (n_3 + (1 : Int))) ∧ True ∧ k = k ∧ sm (k.tmod (6 : Int)) ∧ sm (W (k.tmod (6
    : Int))) ∧ n = n ∧ sm (n.tmod (30 : Int)) ∧ sm (W (n.tmod (30 : Int))) ∧ sm (W (W (n.tmod (30 : Int)) + (1 : Int))) ∧ ((sm ((16 : Nat)) ∧ sm ((1 : Nat)) ∧ ∀ (i :
    Nat), i < (16 : Nat) → sm ((fillS (1 : Int)).low.getD i (0 : Int)) ∧ True) ∧ (sm ((16 : Nat)) ∧ sm ((1 : Nat)) ∧ ∀ (i : Nat), i < (16 : Nat) → sm ((fillS (1 : Int)).high.getD
    i (0 : Int)) ∧ True) ∧ True) ∧ ((sm ((16 : Nat)) ∧ sm ((1 : Nat)) ∧ ∀ (i : Nat), i < (16 : Nat) → sm ((fillS (2 : Int)).low.getD i (0 : Int)) ∧ True) ∧ (sm ((16
    : Nat)) ∧ sm ((1 : Nat)) ∧ ∀ (i : Nat), i < (16 : Nat) → sm ((fillS (2 : Int)).high.getD i (0 : Int)) ∧ True) ∧ True) ∧ ((sm ((16 : Nat)) ∧ sm ((0 : Nat) + (1 :
    Nat)) ∧ ∀ (i : Nat), i < (16 : Nat) → sm ((fillS (1 : Int)).low.getD i (0 : Int)) ∧ True) ∧ (sm ((16 : Nat)) ∧ sm ((0 : Nat) + (1 : Nat)) ∧ ∀ (i : Nat), i < (16
    : Nat) → sm ((fillS (1 : Int)).high.getD i (0 : Int)) ∧ True) ∧ True) ∧ n_1 = n_1 ∧ sm (W (W (n.tmod (30 : Int)) + (1 : Int))) ∧ True ∧ True ∧ True ∧ (((sm ((16
    : Nat)) ∧ sm ((1 : Nat)) ∧ ∀ (i : Nat), i < (16 : Nat) → sm ((F6 k n n_1).low.getD i (0 : Int)) ∧ True) ∧ (sm ((16 : Nat)) ∧ sm ((1 : Nat)) ∧ ∀ (i : Nat), i < (16
    : Nat) → sm ((F6 k n n_1).high.getD i (0 : Int)) ∧ True) ∧ True) ∧ sm (bldE (W (k.tmod (6 : Int))) (W (W (n.tmod (30 : Int)) + (1 : Int)))) ∧ True) ∧ sm (W (k.tmod
    (6 : Int))) ∧ ((sm ((16 : Nat)) ∧ sm ((0 : Nat) + (1 : Nat)) ∧ ∀ (i : Nat), i < (16 : Nat) → sm ((fillS (1 : Int)).low.getD i (0 : Int)) ∧ True) ∧ (sm ((16 : Nat))
    ∧ sm ((0 : Nat) + (1 : Nat)) ∧ ∀ (i : Nat), i < (16 : Nat) → sm ((fillS (1 : Int)).high.getD i (0 : Int)) ∧ True) ∧ True) ∧ ((sm ((16 : Nat)) ∧ sm ((0 : Nat) + (1
    : Nat)) ∧ ∀ (i : Nat), i < (16 : Nat) → sm ((fillS (2 : Int)).low.getD i (0 : Int)) ∧ True) ∧ (sm ((16 : Nat)) ∧ sm ((0 : Nat) + (1 : Nat)) ∧ ∀ (i : Nat), i < (16
    : Nat) → sm ((fillS (2 : Int)).high.getD i (0 : Int)) ∧ True) ∧ True) ∧ n_1 = n_1 ∧ sm (W (W (n.tmod (30 : Int)) + (1 : Int))) ∧ (((sm ((16 : Nat)) ∧ sm ((1 : Nat))
    ∧ ∀ (i : Nat), i < (16 : Nat) → sm ((F6 k n n_1).low.getD i (0 : Int)) ∧ True) ∧ (sm ((16 : Nat)) ∧ sm ((1 : Nat)) ∧ ∀ (i : Nat), i < (16 : Nat) → sm ((F6 k n n_1).high.getD
    i (0 : Int)) ∧ True) ∧ True) ∧ sm (bldE (W (k.tmod (6 : Int))) (W (W (n.tmod (30 : Int)) + (1 : Int)))) ∧ True) ∧ ((sm ((16 : Nat)) ∧ sm ((1 : Nat)) ∧ ∀ (i : Nat),
    i < (16 : Nat) → sm ((F6 k n n_1).low.getD i (0 : Int)) ∧ True) ∧ (sm ((16 : Nat)) ∧ sm ((1 : Nat)) ∧ ∀ (i : Nat), i < (16 : Nat) → sm ((F6 k n n_1).high.getD i
    (0 : Int)) ∧ True) ∧ True) ∧ sm (bldE (W (k.tmod (6 : Int))) (W (W (n.tmod (30 : Int)) + (1 : Int)))) ∧ sm (bldE (W (k.tmod (6 : Int))) (W (W (n.tmod (30 : Int))
    + (1 : Int)))) ∧ sm ((bldE (W (k.tmod (6 : Int))) (W (W (n.tmod (30 : Int)) + (1 : Int))) != (0 : Int))) ∧ True ∧ n_1 = n_1 ∧ sm ((n_1 == (0 : Int))) ∧ True ∧ True
    ∧ True ∧ True ∧ True ∧ True ∧ True ∧ n_1 = n_1 ∧ sm (W (W (n.tmod (30 : Int)) + (1 : Int))) ∧ sm ((n_1 == W (W (n.tmod (30 : Int)) + (1 : Int)))) ∧ True ∧ ((sm ((16
    : Nat)) ∧ sm ((0 : Nat) + (1 : Nat)) ∧ ∀ (i : Nat), i < (16 : Nat) → sm ((F6 k n n_1).low.getD i (0 : Int)) ∧ True) ∧ (sm ((16 : Nat)) ∧ sm ((0 : Nat) + (1 : Nat))
    ∧ ∀ (i : Nat), i < (16 : Nat) → sm ((F6 k n n_1).high.getD i (0 : Int)) ∧ True) ∧ True) ∧ ((sm ((16 : Nat)) ∧ sm ((0 : Nat) + (1 : Nat)) ∧ ∀ (i : Nat), i < (16 :
    Nat) → sm ((fillS (2 : Int)).low.getD i (0 : Int)) ∧ True) ∧ (sm ((16 : Nat)) ∧ sm ((0 : Nat) + (1 : Nat)) ∧ ∀ (i : Nat), i < (16 : Nat) → sm ((fillS (2 : Int)).high.getD
    i (0 : Int)) ∧ True) ∧ True) ∧ sm (!eqSegs [Seg.a (16 : Nat) ((0 : Nat) + (1 : Nat)) fun j => [SV.int IntKind.u64 ((F6 k n n_1).low.getD j (0 : Int))], Seg.a (16
    : Nat) ((0 : Nat) + (1 : Nat)) fun j => [SV.int IntKind.u64 ((F6 k n n_1).high.getD j (0 : Int))]] [Seg.a (16 : Nat) ((0 : Nat) + (1 : Nat)) fun j => [SV.int IntKind.u64
    ((fillS (2 : Int)).low.getD j (0 : Int))], Seg.a (16 : Nat) ((0 : Nat) + (1 : Nat)) fun j => [SV.int IntKind.u64 ((fillS (2 : Int)).high.getD j (0 : Int))]]) ∧ sm
    (!eqSegs [Seg.a (16 : Nat) ((0 : Nat) + (1 : Nat)) fun j => [SV.int IntKind.u64 ((F6 k n n_1).low.getD j (0 : Int))], Seg.a (16 : Nat) ((0 : Nat) + (1 : Nat)) fun
    j => [SV.int IntKind.u64 ((F6 k n n_1).high.getD j (0 : Int))]] [Seg.a (16 : Nat) ((0 : Nat) + (1 : Nat)) fun j => [SV.int IntKind.u64 ((fillS (2 : Int)).low.getD
    j (0 : Int))], Seg.a (16 : Nat) ((0 : Nat) + (1 : Nat)) fun j => [SV.int IntKind.u64 ((fillS (2 : Int)).high.getD j (0 : Int))]]) ∧ True ∧ n_2 = n_2 ∧ True ∧ True
    ∧ True ∧ True ∧ True ∧ True ∧ True ∧ True ∧ True ∧ True ∧ True ∧ True ∧ True ∧ True ∧ True ∧ True ∧ True ∧ True ∧ True ∧ True ∧ True ∧ True ∧ True ∧ True ∧ True
    ∧ True ∧ True ∧ True) ∧ ((if false = true then [] else List.map Seg.shape ([Seg.a (16 : Nat) (1 : Nat) fun x => [SV.int IntKind.u64 (0 : Int)]] ++ ([Seg.a (16 :
    Nat) (1 : Nat) fun x => [SV.int IntKind.u64 (0 : Int)]] ++ []))) = if false = true then [] else List.map Seg.shape ([Seg.a (16 : Nat) (1 : Nat) fun x => [SV.int
    IntKind.u64 (0 : Int)]] ++ ([Seg.a (16 : Nat) (1 : Nat) fun x => [SV.int IntKind.u64 (0 : Int)]] ++ []))) ∧ ((sm ((16 : Nat)) ∧ sm ((1 : Nat)) ∧ ∀ (i : Nat), i <
    (16 : Nat) → sm ((fillS (1 : Int)).low.getD i (0 : Int)) ∧ True) ∧ (sm ((16 : Nat)) ∧ sm ((1 : Nat)) ∧ ∀ (i : Nat), i < (16 : Nat) → sm ((fillS (1 : Int)).high.getD
    i (0 : Int)) ∧ True) ∧ True) ∧ ((if false = true then [] else List.map Seg.shape ([Seg.a (16 : Nat) (1 : Nat) fun x => [SV.int IntKind.u64 (0 : Int)]] ++ ([Seg.a
    (16 : Nat) (1 : Nat) fun x => [SV.int IntKind.u64 (0 : Int)]] ++ []))) = if false = true then [] else List.map Seg.shape ([Seg.a (16 : Nat) (1 : Nat) fun x => [SV.int
    IntKind.u64 (0 : Int)]] ++ ([Seg.a (16 : Nat) (1 : Nat) fun x => [SV.int IntKind.u64 (0 : Int)]] ++ []))) ∧ ((sm ((16 : Nat)) ∧ sm ((1 : Nat)) ∧ ∀ (i : Nat), i <
    (16 : Nat) → sm ((fillS (2 : Int)).low.getD i (0 : Int)) ∧ True) ∧ (sm ((16 : Nat)) ∧ sm ((1 : Nat)) ∧ ∀ (i : Nat), i < (16 : Nat) → sm ((fillS (2 : Int)).high.getD
    i (0 : Int)) ∧ True) ∧ True) ∧ ((if false = true then [] else List.map Seg.shape ([Seg.a (16 : Nat) (1 : Nat) fun x => [SV.int IntKind.u64 (0 : Int)]] ++ ([Seg.a
    (16 : Nat) (1 : Nat) fun x => [SV.int IntKind.u64 (0 : Int)]] ++ []))) = if false = true then [] else List.map Seg.shape ([Seg.a (16 : Nat) (1 : Nat) fun x => [SV.int
    IntKind.u64 (0 : Int)]] ++ ([Seg.a (16 : Nat) (1 : Nat) fun x => [SV.int IntKind.u64 (0 : Int)]] ++ []))) ∧ ((sm ((16 : Nat)) ∧ sm ((codI IntKind.u64).n) ∧ ∀ (i
    : Nat), i < (16 : Nat) → sm (l.getD i (codI IntKind.u64).dft) ∧ True) ∧ (sm ((16 : Nat)) ∧ sm ((codI IntKind.u64).n) ∧ ∀ (i : Nat), i < (16 : Nat) → sm (l_1.getD
    i (codI IntKind.u64).dft) ∧ True) ∧ True) ∧ ((if false = true then [] else List.map Seg.shape ([Seg.a (16 : Nat) (1 : Nat) fun x => [SV.int IntKind.u64 (0 : Int)]]
    ++ ([Seg.a (16 : Nat) (1 : Nat) fun x => [SV.int IntKind.u64 (0 : Int)]] ++ []))) = if false = true then [] else List.map Seg.shape ([Seg.a (16 : Nat) (1 : Nat)
    fun x => [SV.int IntKind.u64 (0 : Int)]] ++ ([Seg.a (16 : Nat) (1 : Nat) fun x => [SV.int IntKind.u64 (0 : Int)]] ++ []))) ∧ ((sm ((16 : Nat)) ∧ sm ((1 : Nat)) ∧
    ∀ (i : Nat), i < (16 : Nat) → sm ((F6 k n n_1).low.getD i (0 : Int)) ∧ True) ∧ (sm ((16 : Nat)) ∧ sm ((1 : Nat)) ∧ ∀ (i : Nat), i < (16 : Nat) → sm ((F6 k n n_1).high.getD
    i (0 : Int)) ∧ True) ∧ True) ∧ True))) ∧ (decide (n_3 < (64 : Int)) = false → True ∧ ((0 : Int) ≤ W (n_2 + (1 : Int)) ∧ W (n_2 + (1 : Int)) ≤ (16 : Int)) ∧ ((16
    : Int) - W (n_2 + (1 : Int))).toNat < ((16 : Int) - n_2).toNat ∧ (k = k ∧ n = n ∧ True ∧ True ∧ True ∧ sm (W (k.tmod (6 : Int))) ∧ sm (W (W (n.tmod (30 : Int)) +
    (1 : Int))) ∧ True ∧ True ∧ True ∧ n_1 = n_1 ∧ True ∧ sm (bldE (W (k.tmod (6 : Int))) (W (W (n.tmod (30 : Int)) + (1 : Int)))) ∧ sm (W (n_2 + (1 : Int))) ∧ True
    ∧ True ∧ k = k ∧ sm (k.tmod (6 : Int)) ∧ sm (W (k.tmod (6 : Int))) ∧ n = n ∧ sm (n.tmod (30 : Int)) ∧ sm (W (n.tmod (30 : Int))) ∧ sm (W (W (n.tmod (30 : Int)) +
    (1 : Int))) ∧ ((sm ((16 : Nat)) ∧ sm ((1 : Nat)) ∧ ∀ (i : Nat), i < (16 : Nat) → sm ((fillS (1 : Int)).low.getD i (0 : Int)) ∧ True) ∧ (sm ((16 : Nat)) ∧ sm ((1
    : Nat)) ∧ ∀ (i : Nat), i < (16 : Nat) → sm ((fillS (1 : Int)).high.getD i (0 : Int)) ∧ True) ∧ True) ∧ ((sm ((16 : Nat)) ∧ sm ((1 : Nat)) ∧ ∀ (i : Nat), i < (16
    : Nat) → sm ((fillS (2 : Int)).low.getD i (0 : Int)) ∧ True) ∧ (sm ((16 : Nat)) ∧ sm ((1 : Nat)) ∧ ∀ (i : Nat), i < (16 : Nat) → sm ((fillS (2 : Int)).high.getD
    i (0 : Int)) ∧ True) ∧ True) ∧ ((sm ((16 : Nat)) ∧ sm ((0 : Nat) + (1 : Nat)) ∧ ∀ (i : Nat), i < (16 : Nat) → sm ((fillS (1 : Int)).low.getD i (0 : Int)) ∧ True)
    ∧ (sm ((16 : Nat)) ∧ sm ((0 : Nat) + (1 : Nat)) ∧ ∀ (i : Nat), i < (16 : Nat) → sm ((fillS (1 : Int)).high.getD i (0 : Int)) ∧ True) ∧ True) ∧ n_1 = n_1 ∧ sm (W
    (W (n.tmod (30 : Int)) + (1 : Int))) ∧ True ∧ True ∧ True ∧ (((sm ((16 : Nat)) ∧ sm ((1 : Nat)) ∧ ∀ (i : Nat), i < (16 : Nat) → sm ((F6 k n n_1).low.getD i (0 :
    Int)) ∧ True) ∧ (sm ((16 : Nat)) ∧ sm ((1 : Nat)) ∧ ∀ (i : Nat), i < (16 : Nat) → sm ((F6 k n n_1).high.getD i (0 : Int)) ∧ True) ∧ True) ∧ sm (bldE (W (k.tmod (6
    : Int))) (W (W (n.tmod (30 : Int)) + (1 : Int)))) ∧ True) ∧ sm (W (k.tmod (6 : Int))) ∧ ((sm ((16 : Nat)) ∧ sm ((0 : Nat) + (1 : Nat)) ∧ ∀ (i : Nat), i < (16 : Nat)
    → sm ((fillS (1 : Int)).low.getD i (0 : Int)) ∧ True) ∧ (sm ((16 : Nat)) ∧ sm ((0 : Nat) + (1 : Nat)) ∧ ∀ (i : Nat), i < (16 : Nat) → sm ((fillS (1 : Int)).high.getD
    i (0 : Int)) ∧ True) ∧ True) ∧ ((sm ((16 : Nat)) ∧ sm ((0 : Nat) + (1 : Nat)) ∧ ∀ (i : Nat), i < (16 : Nat) → sm ((fillS (2 : Int)).low.getD i (0 : Int)) ∧ True)
    ∧ (sm ((16 : Nat)) ∧ sm ((0 : Nat) + (1 : Nat)) ∧ ∀ (i : Nat), i < (16 : Nat) → sm ((fillS (2 : Int)).high.getD i (0 : Int)) ∧ True) ∧ True) ∧ n_1 = n_1 ∧ sm (W
    (W (n.tmod (30 : Int)) + (1 : Int))) ∧ (((sm ((16 : Nat)) ∧ sm ((1 : Nat)) ∧ ∀ (i : Nat), i < (16 : Nat) → sm ((F6 k n n_1).low.getD i (0 : Int)) ∧ True) ∧ (sm ((16
    : Nat)) ∧ sm ((1 : Nat)) ∧ ∀ (i : Nat), i < (16 : Nat) → sm ((F6 k n n_1).high.getD i (0 : Int)) ∧ True) ∧ True) ∧ sm (bldE (W (k.tmod (6 : Int))) (W (W (n.tmod
    (30 : Int)) + (1 : Int)))) ∧ True) ∧ ((sm ((16 : Nat)) ∧ sm ((1 : Nat)) ∧ ∀ (i : Nat), i < (16 : Nat) → sm ((F6 k n n_1).low.getD i (0 : Int)) ∧ True) ∧ (sm ((16
    : Nat)) ∧ sm ((1 : Nat)) ∧ ∀ (i : Nat), i < (16 : Nat) → sm ((F6 k n n_1).high.getD i (0 : Int)) ∧ True) ∧ True) ∧ sm (bldE (W (k.tmod (6 : Int))) (W (W (n.tmod
    (30 : Int)) + (1 : Int)))) ∧ sm (bldE (W (k.tmod (6 : Int))) (W (W (n.tmod (30 : Int)) + (1 : Int)))) ∧ sm ((bldE (W (k.tmod (6 : Int))) (W (W (n.tmod (30 : Int))
    + (1 : Int))) != (0 : Int))) ∧ True ∧ n_1 = n_1 ∧ sm ((n_1 == (0 : Int))) ∧ True ∧ True ∧ True ∧ True ∧ True ∧ True ∧ True ∧ n_1 = n_1 ∧ sm (W (W (n.tmod (30 : Int))
    + (1 : Int))) ∧ sm ((n_1 == W (W (n.tmod (30 : Int)) + (1 : Int)))) ∧ True ∧ ((sm ((16 : Nat)) ∧ sm ((0 : Nat) + (1 : Nat)) ∧ ∀ (i : Nat), i < (16 : Nat) → sm ((F6
    k n n_1).low.getD i (0 : Int)) ∧ True) ∧ (sm ((16 : Nat)) ∧ sm ((0 : Nat) + (1 : Nat)) ∧ ∀ (i : Nat), i < (16 : Nat) → sm ((F6 k n n_1).high.getD i (0 : Int)) ∧
    True) ∧ True) ∧ ((sm ((16 : Nat)) ∧ sm ((0 : Nat) + (1 : Nat)) ∧ ∀ (i : Nat), i < (16 : Nat) → sm ((fillS (2 : Int)).low.getD i (0 : Int)) ∧ True) ∧ (sm ((16 : Nat))
    ∧ sm ((0 : Nat) + (1 : Nat)) ∧ ∀ (i : Nat), i < (16 : Nat) → sm ((fillS (2 : Int)).high.getD i (0 : Int)) ∧ True) ∧ True) ∧ sm (!eqSegs [Seg.a (16 : Nat) ((0 : Nat)
    + (1 : Nat)) fun j => [SV.int IntKind.u64 ((F6 k n n_1).low.getD j (0 : Int))], Seg.a (16 : Nat) ((0 : Nat) + (1 : Nat)) fun j => [SV.int IntKind.u64 ((F6 k n n_1).high.getD
    j (0 : Int))]] [Seg.a (16 : Nat) ((0 : Nat) + (1 : Nat)) fun j => [SV.int IntKind.u64 ((fillS (2 : Int)).low.getD j (0 : Int))], Seg.a (16 : Nat) ((0 : Nat) + (1
    : Nat)) fun j => [SV.int IntKind.u64 ((fillS (2 : Int)).high.getD j (0 : Int))]]) ∧ sm (!eqSegs [Seg.a (16 : Nat) ((0 : Nat) + (1 : Nat)) fun j => [SV.int IntKind.u64
    ((F6 k n n_1).low.getD j (0 : Int))], Seg.a (16 : Nat) ((0 : Nat) + (1 : Nat)) fun j => [SV.int IntKind.u64 ((F6 k n n_1).high.getD j (0 : Int))]] [Seg.a (16 : Nat)
    ((0 : Nat) + (1 : Nat)) fun j => [SV.int IntKind.u64 ((fillS (2 : Int)).low.getD j (0 : Int))], Seg.a (16 : Nat) ((0 : Nat) + (1 : Nat)) fun j => [SV.int IntKind.u64
    ((fillS (2 : Int)).high.getD j (0 : Int))]]) ∧ True ∧ True ∧ True ∧ True ∧ True ∧ True ∧ True ∧ True ∧ True ∧ True ∧ True ∧ True ∧ True ∧ True ∧ True ∧ True ∧ True
    ∧ True ∧ True ∧ True ∧ True ∧ True ∧ True ∧ True ∧ True ∧ True ∧ True ∧ True ∧ True ∧ True) ∧ ((if false = true then [] else List.map Seg.shape ([Seg.a (16 : Nat)
    (1 : Nat) fun x => [SV.int IntKind.u64 (0 : Int)]] ++ ([Seg.a (16 : Nat) (1 : Nat) fun x => [SV.int IntKind.u64 (0 : Int)]] ++ []))) = if false = true then [] else
    List.map Seg.shape ([Seg.a (16 : Nat) (1 : Nat) fun x => [SV.int IntKind.u64 (0 : Int)]] ++ ([Seg.a (16 : Nat) (1 : Nat) fun x => [SV.int IntKind.u64 (0 : Int)]]
    ++ []))) ∧ ((sm ((16 : Nat)) ∧ sm ((1 : Nat)) ∧ ∀ (i : Nat), i < (16 : Nat) → sm ((fillS (1 : Int)).low.getD i (0 : Int)) ∧ True) ∧ (sm ((16 : Nat)) ∧ sm ((1 : Nat))
    ∧ ∀ (i : Nat), i < (16 : Nat) → sm ((fillS (1 : Int)).high.getD i (0 : Int)) ∧ True) ∧ True) ∧ ((if false = true then [] else List.map Seg.shape ([Seg.a (16 : Nat)
    (1 : Nat) fun x => [SV.int IntKind.u64 (0 : Int)]] ++ ([Seg.a (16 : Nat) (1 : Nat) fun x => [SV.int IntKind.u64 (0 : Int)]] ++ []))) = if false = true then [] else
    List.map Seg.shape ([Seg.a (16 : Nat) (1 : Nat) fun x => [SV.int IntKind.u64 (0 : Int)]] ++ ([Seg.a (16 : Nat) (1 : Nat) fun x => [SV.int IntKind.u64 (0 : Int)]]
    ++ []))) ∧ ((sm ((16 : Nat)) ∧ sm ((1 : Nat)) ∧ ∀ (i : Nat), i < (16 : Nat) → sm ((fillS (2 : Int)).low.getD i (0 : Int)) ∧ True) ∧ (sm ((16 : Nat)) ∧ sm ((1 : Nat))
    ∧ ∀ (i : Nat), i < (16 : Nat) → sm ((fillS (2 : Int)).high.getD i (0 : Int)) ∧ True) ∧ True) ∧ ((if false = true then [] else List.map Seg.shape ([Seg.a (16 : Nat)
    (1 : Nat) fun x => [SV.int IntKind.u64 (0 : Int)]] ++ ([Seg.a (16 : Nat) (1 : Nat) fun x => [SV.int IntKind.u64 (0 : Int)]] ++ []))) = if false = true then [] else
    List.map Seg.shape ([Seg.a (16 : Nat) (1 : Nat) fun x => [SV.int IntKind.u64 (0 : Int)]] ++ ([Seg.a (16 : Nat) (1 : Nat) fun x => [SV.int IntKind.u64 (0 : Int)]]
    ++ []))) ∧ ((sm ((16 : Nat)) ∧ sm ((codI IntKind.u64).n) ∧ ∀ (i : Nat), i < (16 : Nat) → sm (l.getD i (codI IntKind.u64).dft) ∧ True) ∧ (sm ((16 : Nat)) ∧ sm ((codI
    IntKind.u64).n) ∧ ∀ (i : Nat), i < (16 : Nat) → sm (l_1.getD i (codI IntKind.u64).dft) ∧ True) ∧ True) ∧ ((if false = true then [] else List.map Seg.shape ([Seg.a
    (16 : Nat) (1 : Nat) fun x => [SV.int IntKind.u64 (0 : Int)]] ++ ([Seg.a (16 : Nat) (1 : Nat) fun x => [SV.int IntKind.u64 (0 : Int)]] ++ []))) = if false = true
    then [] else List.map Seg.shape ([Seg.a (16 : Nat) (1 : Nat) fun x => [SV.int IntKind.u64 (0 : Int)]] ++ ([Seg.a (16 : Nat) (1 : Nat) fun x => [SV.int IntKind.u64
    (0 : Int)]] ++ []))) ∧ ((sm ((16 : Nat)) ∧ sm ((1 : Nat)) ∧ ∀ (i : Nat), i < (16 : Nat) → sm ((F6 k n n_1).low.getD i (0 : Int)) ∧ True) ∧ (sm ((16 : Nat)) ∧ sm
    ((1 : Nat)) ∧ ∀ (i : Nat), i < (16 : Nat) → sm ((F6 k n n_1).high.getD i (0 : Int)) ∧ True) ∧ True) ∧ True)) ∧ (decide (n_2 < (16 : Int)) = false → t16 ∧ t16 ∧ True
    ∧ True ∧ L6 (k.tmod (6 : Int)) (n.tmod (30 : Int) + (1 : Int)) (W (n_1 + (1 : Int))) (rr (F6 k n n_1).low) (rr (F6 k n n_1).high) ∧ (n.tmod (30 : Int) + (2 : Int)
    - W (n_1 + (1 : Int))).toNat < (n.tmod (30 : Int) + (2 : Int) - n_1).toNat ∧ (k = k ∧ n = n ∧ True ∧ True ∧ True ∧ sm (W (k.tmod (6 : Int))) ∧ sm (W (W (n.tmod (30
    : Int)) + (1 : Int))) ∧ True ∧ True ∧ True ∧ sm (W (n_1 + (1 : Int))) ∧ True ∧ True ∧ True ∧ True ∧ True ∧ k = k ∧ sm (k.tmod (6 : Int)) ∧ sm (W (k.tmod (6 : Int)))
    ∧ n = n ∧ sm (n.tmod (30 : Int)) ∧ sm (W (n.tmod (30 : Int))) ∧ sm (W (W (n.tmod (30 : Int)) + (1 : Int))) ∧ ((sm ((16 : Nat)) ∧ sm ((1 : Nat)) ∧ ∀ (i : Nat), i
    < (16 : Nat) → sm ((fillS (1 : Int)).low.getD i (0 : Int)) ∧ True) ∧ (sm ((16 : Nat)) ∧ sm ((1 : Nat)) ∧ ∀ (i : Nat), i < (16 : Nat) → sm ((fillS (1 : Int)).high.getD
    i (0 : Int)) ∧ True) ∧ True) ∧ ((sm ((16 : Nat)) ∧ sm ((1 : Nat)) ∧ ∀ (i : Nat), i < (16 : Nat) → sm ((fillS (2 : Int)).low.getD i (0 : Int)) ∧ True) ∧ (sm ((16
    : Nat)) ∧ sm ((1 : Nat)) ∧ ∀ (i : Nat), i < (16 : Nat) → sm ((fillS (2 : Int)).high.getD i (0 : Int)) ∧ True) ∧ True) ∧ ((sm ((16 : Nat)) ∧ sm ((0 : Nat) + (1 :
    Nat)) ∧ ∀ (i : Nat), i < (16 : Nat) → sm ((fillS (1 : Int)).low.getD i (0 : Int)) ∧ True) ∧ (sm ((16 : Nat)) ∧ sm ((0 : Nat) + (1 : Nat)) ∧ ∀ (i : Nat), i < (16
    : Nat) → sm ((fillS (1 : Int)).high.getD i (0 : Int)) ∧ True) ∧ True) ∧ True ∧ True ∧ True ∧ True ∧ True ∧ True ∧ True ∧ True ∧ True ∧ True ∧ True ∧ True ∧ True
    ∧ True ∧ True ∧ True ∧ True ∧ True ∧ True ∧ True ∧ True ∧ True ∧ True ∧ True ∧ True ∧ True ∧ True ∧ True ∧ True ∧ True ∧ True ∧ True ∧ True ∧ True ∧ True ∧ True
    ∧ True ∧ True ∧ True ∧ True ∧ True ∧ True ∧ True ∧ True ∧ True ∧ True ∧ True ∧ True ∧ True ∧ True ∧ True ∧ True ∧ True ∧ True ∧ True ∧ True ∧ True ∧ True ∧ True
    ∧ True ∧ True ∧ True ∧ True ∧ True) ∧ ((if false = true then [] else List.map Seg.shape ([Seg.a (16 : Nat) (1 : Nat) fun x => [SV.int IntKind.u64 (0 : Int)]] ++
    ([Seg.a (16 : Nat) (1 : Nat) fun x => [SV.int IntKind.u64 (0 : Int)]] ++ []))) = if false = true then [] else List.map Seg.shape ([Seg.a (16 : Nat) (1 : Nat) fun
    x => [SV.int IntKind.u64 (0 : Int)]] ++ ([Seg.a (16 : Nat) (1 : Nat) fun x => [SV.int IntKind.u64 (0 : Int)]] ++ []))) ∧ ((sm ((16 : Nat)) ∧ sm ((1 : Nat)) ∧ ∀ (i
    : Nat), i < (16 : Nat) → sm ((fillS (1 : Int)).low.getD i (0 : Int)) ∧ True) ∧ (sm ((16 : Nat)) ∧ sm ((1 : Nat)) ∧ ∀ (i : Nat), i < (16 : Nat) → sm ((fillS (1 :
    Int)).high.getD i (0 : Int)) ∧ True) ∧ True) ∧ ((if false = true then [] else List.map Seg.shape ([Seg.a (16 : Nat) (1 : Nat) fun x => [SV.int IntKind.u64 (0 : Int)]]
    ++ ([Seg.a (16 : Nat) (1 : Nat) fun x => [SV.int IntKind.u64 (0 : Int)]] ++ []))) = if false = true then [] else List.map Seg.shape ([Seg.a (16 : Nat) (1 : Nat)
    fun x => [SV.int IntKind.u64 (0 : Int)]] ++ ([Seg.a (16 : Nat) (1 : Nat) fun x => [SV.int IntKind.u64 (0 : Int)]] ++ []))) ∧ ((sm ((16 : Nat)) ∧ sm ((1 : Nat)) ∧
    ∀ (i : Nat), i < (16 : Nat) → sm ((fillS (2 : Int)).low.getD i (0 : Int)) ∧ True) ∧ (sm ((16 : Nat)) ∧ sm ((1 : Nat)) ∧ ∀ (i : Nat), i < (16 : Nat) → sm ((fillS
    (2 : Int)).high.getD i (0 : Int)) ∧ True) ∧ True) ∧ ((if false = true then [] else List.map Seg.shape ([Seg.a (16 : Nat) (1 : Nat) fun x => [SV.int IntKind.u64 (0
    : Int)]] ++ ([Seg.a (16 : Nat) (1 : Nat) fun x => [SV.int IntKind.u64 (0 : Int)]] ++ []))) = if false = true then [] else List.map Seg.shape ([Seg.a (16 : Nat) (1
    : Nat) fun x => [SV.int IntKind.u64 (0 : Int)]] ++ ([Seg.a (16 : Nat) (1 : Nat) fun x => [SV.int IntKind.u64 (0 : Int)]] ++ []))) ∧ ((sm ((16 : Nat)) ∧ (0 : Nat)
    + (1 : Nat) = (codI IntKind.u64).n ∧ ∀ (i : Nat), i < (16 : Nat) → (F6 k n n_1).low.getD i (0 : Int) = (rr (F6 k n n_1).low).getD i (codI IntKind.u64).dft ∧ True)
    ∧ (sm ((16 : Nat)) ∧ (0 : Nat) + (1 : Nat) = (codI IntKind.u64).n ∧ ∀ (i : Nat), i < (16 : Nat) → (F6 k n n_1).high.getD i (0 : Int) = (rr (F6 k n n_1).high).getD
    i (codI IntKind.u64).dft ∧ True) ∧ True) ∧ True))) ∧ ((n_1 == W (W (n.tmod (30 : Int)) + (1 : Int))) = false → True ∧ True ∧ (((0 : Int) ≤ (0 : Int) ∧ (0 : Int)
    ≤ (16 : Int)) ∧ (k = k ∧ n = n ∧ True ∧ True ∧ True ∧ sm (W (k.tmod (6 : Int))) ∧ sm (W (W (n.tmod (30 : Int)) + (1 : Int))) ∧ True ∧ True ∧ True ∧ n_1 = n_1 ∧ True
    ∧ sm (bldE (W (k.tmod (6 : Int))) (W (W (n.tmod (30 : Int)) + (1 : Int)))) ∧ sm ((0 : Int)) ∧ True ∧ True ∧ k = k ∧ sm (k.tmod (6 : Int)) ∧ sm (W (k.tmod (6 : Int)))
    ∧ n = n ∧ sm (n.tmod (30 : Int)) ∧ sm (W (n.tmod (30 : Int))) ∧ sm (W (W (n.tmod (30 : Int)) + (1 : Int))) ∧ ((sm ((16 : Nat)) ∧ sm ((1 : Nat)) ∧ ∀ (i : Nat), i
    < (16 : Nat) → sm ((fillS (1 : Int)).low.getD i (0 : Int)) ∧ True) ∧ (sm ((16 : Nat)) ∧ sm ((1 : Nat)) ∧ ∀ (i : Nat), i < (16 : Nat) → sm ((fillS (1 : Int)).high.getD
    i (0 : Int)) ∧ True) ∧ True) ∧ ((sm ((16 : Nat)) ∧ sm ((1 : Nat)) ∧ ∀ (i : Nat), i < (16 : Nat) → sm ((fillS (2 : Int)).low.getD i (0 : Int)) ∧ True) ∧ (sm ((16
    : Nat)) ∧ sm ((1 : Nat)) ∧ ∀ (i : Nat), i < (16 : Nat) → sm ((fillS (2 : Int)).high.getD i (0 : Int)) ∧ True) ∧ True) ∧ ((sm ((16 : Nat)) ∧ sm ((0 : Nat) + (1 :
    Nat)) ∧ ∀ (i : Nat), i < (16 : Nat) → sm ((fillS (1 : Int)).low.getD i (0 : Int)) ∧ True) ∧ (sm ((16 : Nat)) ∧ sm ((0 : Nat) + (1 : Nat)) ∧ ∀ (i : Nat), i < (16
    : Nat) → sm ((fillS (1 : Int)).high.getD i (0 : Int)) ∧ True) ∧ True) ∧ n_1 = n_1 ∧ sm (W (W (n.tmod (30 : Int)) + (1 : Int))) ∧ True ∧ True ∧ True ∧ (((sm ((16
    : Nat)) ∧ sm ((1 : Nat)) ∧ ∀ (i : Nat), i < (16 : Nat) → sm ((F6 k n n_1).low.getD i (0 : Int)) ∧ True) ∧ (sm ((16 : Nat)) ∧ sm ((1 : Nat)) ∧ ∀ (i : Nat), i < (16
    : Nat) → sm ((F6 k n n_1).high.getD i (0 : Int)) ∧ True) ∧ True) ∧ sm (bldE (W (k.tmod (6 : Int))) (W (W (n.tmod (30 : Int)) + (1 : Int)))) ∧ True) ∧ sm (W (k.tmod
    (6 : Int))) ∧ ((sm ((16 : Nat)) ∧ sm ((0 : Nat) + (1 : Nat)) ∧ ∀ (i : Nat), i < (16 : Nat) → sm ((fillS (1 : Int)).low.getD i (0 : Int)) ∧ True) ∧ (sm ((16 : Nat))
    ∧ sm ((0 : Nat) + (1 : Nat)) ∧ ∀ (i : Nat), i < (16 : Nat) → sm ((fillS (1 : Int)).high.getD i (0 : Int)) ∧ True) ∧ True) ∧ ((sm ((16 : Nat)) ∧ sm ((0 : Nat) + (1
    : Nat)) ∧ ∀ (i : Nat), i < (16 : Nat) → sm ((fillS (2 : Int)).low.getD i (0 : Int)) ∧ True) ∧ (sm ((16 : Nat)) ∧ sm ((0 : Nat) + (1 : Nat)) ∧ ∀ (i : Nat), i < (16
    : Nat) → sm ((fillS (2 : Int)).high.getD i (0 : Int)) ∧ True) ∧ True) ∧ n_1 = n_1 ∧ sm (W (W (n.tmod (30 : Int)) + (1 : Int))) ∧ (((sm ((16 : Nat)) ∧ sm ((1 : Nat))
    ∧ ∀ (i : Nat), i < (16 : Nat) → sm ((F6 k n n_1).low.getD i (0 : Int)) ∧ True) ∧ (sm ((16 : Nat)) ∧ sm ((1 : Nat)) ∧ ∀ (i : Nat), i < (16 : Nat) → sm ((F6 k n n_1).high.getD
    i (0 : Int)) ∧ True) ∧ True) ∧ sm (bldE (W (k.tmod (6 : Int))) (W (W (n.tmod (30 : Int)) + (1 : Int)))) ∧ True) ∧ ((sm ((16 : Nat)) ∧ sm ((1 : Nat)) ∧ ∀ (i : Nat),
    i < (16 : Nat) → sm ((F6 k n n_1).low.getD i (0 : Int)) ∧ True) ∧ (sm ((16 : Nat)) ∧ sm ((1 : Nat)) ∧ ∀ (i : Nat), i < (16 : Nat) → sm ((F6 k n n_1).high.getD i
    (0 : Int)) ∧ True) ∧ True) ∧ sm (bldE (W (k.tmod (6 : Int))) (W (W (n.tmod (30 : Int)) + (1 : Int)))) ∧ sm (bldE (W (k.tmod (6 : Int))) (W (W (n.tmod (30 : Int))
    + (1 : Int)))) ∧ sm ((bldE (W (k.tmod (6 : Int))) (W (W (n.tmod (30 : Int)) + (1 : Int))) != (0 : Int))) ∧ True ∧ n_1 = n_1 ∧ sm ((n_1 == (0 : Int))) ∧ True ∧ True
    ∧ True ∧ True ∧ True ∧ True ∧ True ∧ n_1 = n_1 ∧ sm (W (W (n.tmod (30 : Int)) + (1 : Int))) ∧ sm ((n_1 == W (W (n.tmod (30 : Int)) + (1 : Int)))) ∧ True ∧ True ∧
    True ∧ True ∧ True ∧ True ∧ True ∧ True ∧ True ∧ True ∧ True ∧ True ∧ True ∧ True ∧ True ∧ True ∧ True ∧ True ∧ True ∧ True ∧ True ∧ True ∧ True ∧ True ∧ True ∧
    True ∧ True ∧ True ∧ True ∧ True ∧ True ∧ True ∧ True ∧ True ∧ True) ∧ ((if false = true then [] else List.map Seg.shape ([Seg.a (16 : Nat) (1 : Nat) fun x => [SV.int
    IntKind.u64 (0 : Int)]] ++ ([Seg.a (16 : Nat) (1 : Nat) fun x => [SV.int IntKind.u64 (0 : Int)]] ++ []))) = if false = true then [] else List.map Seg.shape ([Seg.a
    (16 : Nat) (1 : Nat) fun x => [SV.int IntKind.u64 (0 : Int)]] ++ ([Seg.a (16 : Nat) (1 : Nat) fun x => [SV.int IntKind.u64 (0 : Int)]] ++ []))) ∧ ((sm ((16 : Nat))
    ∧ sm ((1 : Nat)) ∧ ∀ (i : Nat), i < (16 : Nat) → sm ((fillS (1 : Int)).low.getD i (0 : Int)) ∧ True) ∧ (sm ((16 : Nat)) ∧ sm ((1 : Nat)) ∧ ∀ (i : Nat), i < (16 :
    Nat) → sm ((fillS (1 : Int)).high.getD i (0 : Int)) ∧ True) ∧ True) ∧ ((if false = true then [] else List.map Seg.shape ([Seg.a (16 : Nat) (1 : Nat) fun x => [SV.int
    IntKind.u64 (0 : Int)]] ++ ([Seg.a (16 : Nat) (1 : Nat) fun x => [SV.int IntKind.u64 (0 : Int)]] ++ []))) = if false = true then [] else List.map Seg.shape ([Seg.a
    (16 : Nat) (1 : Nat) fun x => [SV.int IntKind.u64 (0 : Int)]] ++ ([Seg.a (16 : Nat) (1 : Nat) fun x => [SV.int IntKind.u64 (0 : Int)]] ++ []))) ∧ ((sm ((16 : Nat))
    ∧ sm ((1 : Nat)) ∧ ∀ (i : Nat), i < (16 : Nat) → sm ((fillS (2 : Int)).low.getD i (0 : Int)) ∧ True) ∧ (sm ((16 : Nat)) ∧ sm ((1 : Nat)) ∧ ∀ (i : Nat), i < (16 :
    Nat) → sm ((fillS (2 : Int)).high.getD i (0 : Int)) ∧ True) ∧ True) ∧ ((if false = true then [] else List.map Seg.shape ([Seg.a (16 : Nat) (1 : Nat) fun x => [SV.int
    IntKind.u64 (0 : Int)]] ++ ([Seg.a (16 : Nat) (1 : Nat) fun x => [SV.int IntKind.u64 (0 : Int)]] ++ []))) = if false = true then [] else List.map Seg.shape ([Seg.a
    (16 : Nat) (1 : Nat) fun x => [SV.int IntKind.u64 (0 : Int)]] ++ ([Seg.a (16 : Nat) (1 : Nat) fun x => [SV.int IntKind.u64 (0 : Int)]] ++ []))) ∧ ((sm ((16 : Nat))
    ∧ sm ((codI IntKind.u64).n) ∧ ∀ (i : Nat), i < (16 : Nat) → sm (l.getD i (codI IntKind.u64).dft) ∧ True) ∧ (sm ((16 : Nat)) ∧ sm ((codI IntKind.u64).n) ∧ ∀ (i :
    Nat), i < (16 : Nat) → sm (l_1.getD i (codI IntKind.u64).dft) ∧ True) ∧ True) ∧ ((if false = true then [] else List.map Seg.shape ([Seg.a (16 : Nat) (1 : Nat) fun
    x => [SV.int IntKind.u64 (0 : Int)]] ++ ([Seg.a (16 : Nat) (1 : Nat) fun x => [SV.int IntKind.u64 (0 : Int)]] ++ []))) = if false = true then [] else List.map Seg.shape
    ([Seg.a (16 : Nat) (1 : Nat) fun x => [SV.int IntKind.u64 (0 : Int)]] ++ ([Seg.a (16 : Nat) (1 : Nat) fun x => [SV.int IntKind.u64 (0 : Int)]] ++ []))) ∧ ((sm ((16
    : Nat)) ∧ sm ((1 : Nat)) ∧ ∀ (i : Nat), i < (16 : Nat) → sm ((F6 k n n_1).low.getD i (0 : Int)) ∧ True) ∧ (sm ((16 : Nat)) ∧ sm ((1 : Nat)) ∧ ∀ (i : Nat), i < (16
    : Nat) → sm ((F6 k n n_1).high.getD i (0 : Int)) ∧ True) ∧ True) ∧ True) ∧ ∀ (n_2 : Int), (0 : Int) ≤ n_2 ∧ n_2 ≤ (16 : Int) → True ∧ (decide (n_2 < (16 : Int))
    = true → True ∧ (((0 : Int) ≤ (0 : Int) ∧ (0 : Int) ≤ (64 : Int)) ∧ (k = k ∧ n = n ∧ True ∧ True ∧ True ∧ sm (W (k.tmod (6 : Int))) ∧ sm (W (W (n.tmod (30 : Int))
    + (1 : Int))) ∧ True ∧ True ∧ True ∧ n_1 = n_1 ∧ True ∧ sm (bldE (W (k.tmod (6 : Int))) (W (W (n.tmod (30 : Int)) + (1 : Int)))) ∧ n_2 = n_2 ∧ sm ((0 : Int)) ∧ True
    ∧ k = k ∧ sm (k.tmod (6 : Int)) ∧ sm (W (k.tmod (6 : Int))) ∧ n = n ∧ sm (n.tmod (30 : Int)) ∧ sm (W (n.tmod (30 : Int))) ∧ sm (W (W (n.tmod (30 : Int)) + (1 : Int)))
    ∧ ((sm ((16 : Nat)) ∧ sm ((1 : Nat)) ∧ ∀ (i : Nat), i < (16 : Nat) → sm ((fillS (1 : Int)).low.getD i (0 : Int)) ∧ True) ∧ (sm ((16 : Nat)) ∧ sm ((1 : Nat)) ∧ ∀
    (i : Nat), i < (16 : Nat) → sm ((fillS (1 : Int)).high.getD i (0 : Int)) ∧ True) ∧ True) ∧ ((sm ((16 : Nat)) ∧ sm ((1 : Nat)) ∧ ∀ (i : Nat), i < (16 : Nat) → sm
    ((fillS (2 : Int)).low.getD i (0 : Int)) ∧ True) ∧ (sm ((16 : Nat)) ∧ sm ((1 : Nat)) ∧ ∀ (i : Nat), i < (16 : Nat) → sm ((fillS (2 : Int)).high.getD i (0 : Int))
    ∧ True) ∧ True) ∧ ((sm ((16 : Nat)) ∧ sm ((0 : Nat) + (1 : Nat)) ∧ ∀ (i : Nat), i < (16 : Nat) → sm ((fillS (1 : Int)).low.getD i (0 : Int)) ∧ True) ∧ (sm ((16 :
    Nat)) ∧ sm ((0 : Nat) + (1 : Nat)) ∧ ∀ (i : Nat), i < (16 : Nat) → sm ((fillS (1 : Int)).high.getD i (0 : Int)) ∧ True) ∧ True) ∧ n_1 = n_1 ∧ sm (W (W (n.tmod (30
    : Int)) + (1 : Int))) ∧ True ∧ True ∧ True ∧ (((sm ((16 : Nat)) ∧ sm ((1 : Nat)) ∧ ∀ (i : Nat), i < (16 : Nat) → sm ((F6 k n n_1).low.getD i (0 : Int)) ∧ True) ∧
    (sm ((16 : Nat)) ∧ sm ((1 : Nat)) ∧ ∀ (i : Nat), i < (16 : Nat) → sm ((F6 k n n_1).high.getD i (0 : Int)) ∧ True) ∧ True) ∧ sm (bldE (W (k.tmod (6 : Int))) (W (W
    (n.tmod (30 : Int)) + (1 : Int)))) ∧ True) ∧ sm (W (k.tmod (6 : Int))) ∧ ((sm ((16 : Nat)) ∧ sm ((0 : Nat) + (1 : Nat)) ∧ ∀ (i : Nat), i < (16 : Nat) → sm ((fillS
    (1 : Int)).low.getD i (0 : Int)) ∧ True) ∧ (sm ((16 : Nat)) ∧ sm ((0 : Nat) + (1 : Nat)) ∧ ∀ (i : Nat), i < (16 : Nat) → sm ((fillS (1 : Int)).high.getD i (0 : Int))
    ∧ True) ∧ True) ∧ ((sm ((16 : Nat)) ∧ sm ((0 : Nat) + (1 : Nat)) ∧ ∀ (i : Nat), i < (16 : Nat) → sm ((fillS (2 : Int)).low.getD i (0 : Int)) ∧ True) ∧ (sm ((16 :
    Nat)) ∧ sm ((0 : Nat) + (1 : Nat)) ∧ ∀ (i : Nat), i < (16 : Nat) → sm ((fillS (2 : Int)).high.getD i (0 : Int)) ∧ True) ∧ True) ∧ n_1 = n_1 ∧ sm (W (W (n.tmod (30
    : Int)) + (1 : Int))) ∧ (((sm ((16 : Nat)) ∧ sm ((1 : Nat)) ∧ ∀ (i : Nat), i < (16 : Nat) → sm ((F6 k n n_1).low.getD i (0 : Int)) ∧ True) ∧ (sm ((16 : Nat)) ∧ sm
    ((1 : Nat)) ∧ ∀ (i : Nat), i < (16 : Nat) → sm ((F6 k n n_1).high.getD i (0 : Int)) ∧ True) ∧ True) ∧ sm (bldE (W (k.tmod (6 : Int))) (W (W (n.tmod (30 : Int)) +
    (1 : Int)))) ∧ True) ∧ ((sm ((16 : Nat)) ∧ sm ((1 : Nat)) ∧ ∀ (i : Nat), i < (16 : Nat) → sm ((F6 k n n_1).low.getD i (0 : Int)) ∧ True) ∧ (sm ((16 : Nat)) ∧ sm
    ((1 : Nat)) ∧ ∀ (i : Nat), i < (16 : Nat) → sm ((F6 k n n_1).high.getD i (0 : Int)) ∧ True) ∧ True) ∧ sm (bldE (W (k.tmod (6 : Int))) (W (W (n.tmod (30 : Int)) +
    (1 : Int)))) ∧ sm (bldE (W (k.tmod (6 : Int))) (W (W (n.tmod (30 : Int)) + (1 : Int)))) ∧ sm ((bldE (W (k.tmod (6 : Int))) (W (W (n.tmod (30 : Int)) + (1 : Int)))
    != (0 : Int))) ∧ True ∧ n_1 = n_1 ∧ sm ((n_1 == (0 : Int))) ∧ True ∧ True ∧ True ∧ True ∧ True ∧ True ∧ True ∧ n_1 = n_1 ∧ sm (W (W (n.tmod (30 : Int)) + (1 : Int)))
    ∧ sm ((n_1 == W (W (n.tmod (30 : Int)) + (1 : Int)))) ∧ True ∧ True ∧ True ∧ True ∧ True ∧ True ∧ n_2 = n_2 ∧ True ∧ True ∧ True ∧ True ∧ True ∧ True ∧ True ∧ True
    ∧ True ∧ True ∧ True ∧ True ∧ True ∧ True ∧ True ∧ True ∧ True ∧ True ∧ True ∧ True ∧ True ∧ True ∧ True ∧ True ∧ True ∧ True ∧ True ∧ True) ∧ ((if false = true
    then [] else List.map Seg.shape ([Seg.a (16 : Nat) (1 : Nat) fun x => [SV.int IntKind.u64 (0 : Int)]] ++ ([Seg.a (16 : Nat) (1 : Nat) fun x => [SV.int IntKind.u64
    (0 : Int)]] ++ []))) = if false = true then [] else List.map Seg.shape ([Seg.a (16 : Nat) (1 : Nat) fun x => [SV.int IntKind.u64 (0 : Int)]] ++ ([Seg.a (16 : Nat)
    (1 : Nat) fun x => [SV.int IntKind.u64 (0 : Int)]] ++ []))) ∧ ((sm ((16 : Nat)) ∧ sm ((1 : Nat)) ∧ ∀ (i : Nat), i < (16 : Nat) → sm ((fillS (1 : Int)).low.getD i
    (0 : Int)) ∧ True) ∧ (sm ((16 : Nat)) ∧ sm ((1 : Nat)) ∧ ∀ (i : Nat), i < (16 : Nat) → sm ((fillS (1 : Int)).high.getD i (0 : Int)) ∧ True) ∧ True) ∧ ((if false
    = true then [] else List.map Seg.shape ([Seg.a (16 : Nat) (1 : Nat) fun x => [SV.int IntKind.u64 (0 : Int)]] ++ ([Seg.a (16 : Nat) (1 : Nat) fun x => [SV.int IntKind.u64
    (0 : Int)]] ++ []))) = if false = true then [] else List.map Seg.shape ([Seg.a (16 : Nat) (1 : Nat) fun x => [SV.int IntKind.u64 (0 : Int)]] ++ ([Seg.a (16 : Nat)
    (1 : Nat) fun x => [SV.int IntKind.u64 (0 : Int)]] ++ []))) ∧ ((sm ((16 : Nat)) ∧ sm ((1 : Nat)) ∧ ∀ (i : Nat), i < (16 : Nat) → sm ((fillS (2 : Int)).low.getD i
    (0 : Int)) ∧ True) ∧ (sm ((16 : Nat)) ∧ sm ((1 : Nat)) ∧ ∀ (i : Nat), i < (16 : Nat) → sm ((fillS (2 : Int)).high.getD i (0 : Int)) ∧ True) ∧ True) ∧ ((if false
    = true then [] else List.map Seg.shape ([Seg.a (16 : Nat) (1 : Nat) fun x => [SV.int IntKind.u64 (0 : Int)]] ++ ([Seg.a (16 : Nat) (1 : Nat) fun x => [SV.int IntKind.u64
    (0 : Int)]] ++ []))) = if false = true then [] else List.map Seg.shape ([Seg.a (16 : Nat) (1 : Nat) fun x => [SV.int IntKind.u64 (0 : Int)]] ++ ([Seg.a (16 : Nat)
    (1 : Nat) fun x => [SV.int IntKind.u64 (0 : Int)]] ++ []))) ∧ ((sm ((16 : Nat)) ∧ sm ((codI IntKind.u64).n) ∧ ∀ (i : Nat), i < (16 : Nat) → sm (l.getD i (codI IntKind.u64).dft)
    ∧ True) ∧ (sm ((16 : Nat)) ∧ sm ((codI IntKind.u64).n) ∧ ∀ (i : Nat), i < (16 : Nat) → sm (l_1.getD i (codI IntKind.u64).dft) ∧ True) ∧ True) ∧ ((if false = true
    then [] else List.map Seg.shape ([Seg.a (16 : Nat) (1 : Nat) fun x => [SV.int IntKind.u64 (0 : Int)]] ++ ([Seg.a (16 : Nat) (1 : Nat) fun x => [SV.int IntKind.u64
    (0 : Int)]] ++ []))) = if false = true then [] else List.map Seg.shape ([Seg.a (16 : Nat) (1 : Nat) fun x => [SV.int IntKind.u64 (0 : Int)]] ++ ([Seg.a (16 : Nat)
    (1 : Nat) fun x => [SV.int IntKind.u64 (0 : Int)]] ++ []))) ∧ ((sm ((16 : Nat)) ∧ sm ((1 : Nat)) ∧ ∀ (i : Nat), i < (16 : Nat) → sm ((F6 k n n_1).low.getD i (0 :
    Int)) ∧ True) ∧ (sm ((16 : Nat)) ∧ sm ((1 : Nat)) ∧ ∀ (i : Nat), i < (16 : Nat) → sm ((F6 k n n_1).high.getD i (0 : Int)) ∧ True) ∧ True) ∧ True) ∧ ∀ (n_3 : Int),
    (0 : Int) ≤ n_3 ∧ n_3 ≤ (64 : Int) → True ∧ (decide (n_3 < (64 : Int)) = true → (t16 ∧ t16 ∧ True) ∧ True ∧ True ∧ ((((∀ (i : Nat), i < (16 : Nat) → true = true
    ∧ True) ∧ ∀ (i : Nat), i < (16 : Nat) → true = true ∧ True) ∧ True ∧ True) ∧ okF { low := rr (F6 k n n_1).low, high := rr (F6 k n n_1).high : Fr }) ∧ True ∧ ((getS
    { low := rr (F6 k n n_1).low, high := rr (F6 k n n_1).high : Fr } n_3 n_2 != (1 : Int)) = true → ((getS { low := rr (F6 k n n_1).low, high := rr (F6 k n n_1).high : Fr }
    n_3 n_2 != (2 : Int)) = true → True ∧ True ∧ True ∧ true = false ∧ True) ∧ ((getS { low := rr (F6 k n n_1).low, high := rr (F6 k n n_1).high : Fr } n_3 n_2 != (2
    : Int)) = false → (t16 ∧ t16 ∧ True) ∧ True ∧ True ∧ ((((∀ (i : Nat), i < (16 : Nat) → true = true ∧ True) ∧ ∀ (i : Nat), i < (16 : Nat) → true = true ∧ True) ∧
    True ∧ True) ∧ okF { low := rowL (codI IntKind.u64) (16 : Nat) fun j => (codI IntKind.u64).enc (l.getD j (codI IntKind.u64).dft), high := rowL (codI IntKind.u64) (16 : Nat) fun j => (codI IntKind.u64).enc (l_1.getD j (codI IntKind.u64).dft) : Fr })
    ∧ True ∧ (decide (getS { low := rr (F6 k n n_1).low, high := rr (F6 k n n_1).high : Fr } n_3 n_2 < getS { low := rowL (codI IntKind.u64) (16 : Nat) fun j => (codI IntKind.u64).enc (l.getD j (codI IntKind.u64).dft), high := rowL (codI IntKind.u64) (16 : Nat) fun j => (codI IntKind.u64).enc (l_1.getD j (codI IntKind.u64).dft) : Fr }
    n_3 n_2) = true → True ∧ True ∧ true = false ∧ True) ∧ (decide (getS { low := rr (F6 k n n_1).low, high := rr (F6 k n n_1).high : Fr } n_3 n_2 < getS { low := rowL (codI IntKind.u64) (16 : Nat) fun j => (codI IntKind.u64).enc (l.getD j (codI IntKind.u64).dft), high := rowL (codI IntKind.u64) (16 : Nat) fun j => (codI IntKind.u64).enc (l_1.getD j (codI IntKind.u64).dft) : Fr }
    n_3 n_2) = false → True ∧ ((0 : Int) ≤ W (n_3 + (1 : Int)) ∧ W (n_3 + (1 : Int)) ≤ (64 : Int)) ∧ ((64 : Int) - W (n_3 + (1 : Int))).toNat < ((64 : Int) - n_3).toNat
    ∧ (k = k ∧ n = n ∧ True ∧ True ∧ True ∧ sm (W (k.tmod (6 : Int))) ∧ sm (W (W (n.tmod (30 : Int)) + (1 : Int))) ∧ True ∧ True ∧ True ∧ n_1 = n_1 ∧ True ∧ sm (bldE
    (W (k.tmod (6 : Int))) (W (W (n.tmod (30 : Int)) + (1 : Int)))) ∧ n_2 = n_2 ∧ sm (W (n_3 + (1 : Int))) ∧ True ∧ k = k ∧ sm (k.tmod (6 : Int)) ∧ sm (W (k.tmod (6
    : Int))) ∧ n = n ∧ sm (n.tmod (30 : Int)) ∧ sm (W (n.tmod (30 : Int))) ∧ sm (W (W (n.tmod (30 : Int)) + (1 : Int))) ∧ ((sm ((16 : Nat)) ∧ sm ((1 : Nat)) ∧ ∀ (i :
    Nat), i < (16 : Nat) → sm ((fillS (1 : Int)).low.getD i (0 : Int)) ∧ True) ∧ (sm ((16 : Nat)) ∧ sm ((1 : Nat)) ∧ ∀ (i : Nat), i < (16 : Nat) → sm ((fillS (1 : Int)).high.getD
    i (0 : Int)) ∧ True) ∧ True) ∧ ((sm ((16 : Nat)) ∧ sm ((1 : Nat)) ∧ ∀ (i : Nat), i < (16 : Nat) → sm ((fillS (2 : Int)).low.getD i (0 : Int)) ∧ True) ∧ (sm ((16
    : Nat)) ∧ sm ((1 : Nat)) ∧ ∀ (i : Nat), i < (16 : Nat) → sm ((fillS (2 : Int)).high.getD i (0 : Int)) ∧ True) ∧ True) ∧ ((sm ((16 : Nat)) ∧ sm ((0 : Nat) + (1 :
    Nat)) ∧ ∀ (i : Nat), i < (16 : Nat) → sm ((fillS (1 : Int)).low.getD i (0 : Int)) ∧ True) ∧ (sm ((16 : Nat)) ∧ sm ((0 : Nat) + (1 : Nat)) ∧ ∀ (i : Nat), i < (16
    : Nat) → sm ((fillS (1 : Int)).high.getD i (0 : Int)) ∧ True) ∧ True) ∧ n_1 = n_1 ∧ sm (W (W (n.tmod (30 : Int)) + (1 : Int))) ∧ True ∧ True ∧ True ∧ (((sm ((16
    : Nat)) ∧ sm ((1 : Nat)) ∧ ∀ (i : Nat), i < (16 : Nat) → sm ((F6 k n n_1).low.getD i (0 : Int)) ∧ True) ∧ (sm ((16 : Nat)) ∧ sm ((1 : Nat)) ∧ ∀ (i : Nat), i < (16
    : Nat) → sm ((F6 k n n_1).high.getD i (0 : Int)) ∧ True) ∧ True) ∧ sm (bldE (W (k.tmod (6 : Int))) (W (W (n.tmod (30 : Int)) + (1 : Int)))) ∧ True) ∧ sm (W (k.tmod
    (6 : Int))) ∧ ((sm ((16 : Nat)) ∧ sm ((0 : Nat) + (1 : Nat)) ∧ ∀ (i : Nat), i < (16 : Nat) → sm ((fillS (1 : Int)).low.getD i (0 : Int)) ∧ True) ∧ (sm ((16 : Nat))
    ∧ sm ((0 : Nat) + (1 : Nat)) ∧ ∀ (i : Nat), i < (16 : Nat) → sm ((fillS (1 : Int)).high.getD i (0 : Int)) ∧ True) ∧ True) ∧ ((sm ((16 : Nat)) ∧ sm ((0 : Nat) + (1
    : Nat)) ∧ ∀ (i : Nat), i < (16 : Nat) → sm ((fillS (2 : Int)).low.getD i (0 : Int)) ∧ True) ∧ (sm ((16 : Nat)) ∧ sm ((0 : Nat) + (1 : Nat)) ∧ ∀ (i : Nat), i < (16
    : Nat) → sm ((fillS (2 : Int)).high.getD i (0 : Int)) ∧ True) ∧ True) ∧ n_1 = n_1 ∧ sm (W (W (n.tmod (30 : Int)) + (1 : Int))) ∧ (((sm ((16 : Nat)) ∧ sm ((1 : Nat))
    ∧ ∀ (i : Nat), i < (16 : Nat) → sm ((F6 k n n_1).low.getD i (0 : Int)) ∧ True) ∧ (sm ((16 : Nat)) ∧ sm ((1 : Nat)) ∧ ∀ (i : Nat), i < (16 : Nat) → sm ((F6 k n n_1).high.getD
    i (0 : Int)) ∧ True) ∧ True) ∧ sm (bldE (W (k.tmod (6 : Int))) (W (W (n.tmod (30 : Int)) + (1 : Int)))) ∧ True) ∧ ((sm ((16 : Nat)) ∧ sm ((1 : Nat)) ∧ ∀ (i : Nat),
    i < (16 : Nat) → sm ((F6 k n n_1).low.getD i (0 : Int)) ∧ True) ∧ (sm ((16 : Nat)) ∧ sm ((1 : Nat)) ∧ ∀ (i : Nat), i < (16 : Nat) → sm ((F6 k n n_1).high.getD i
    (0 : Int)) ∧ True) ∧ True) ∧ sm (bldE (W (k.tmod (6 : Int))) (W (W (n.tmod (30 : Int)) + (1 : Int)))) ∧ sm (bldE (W (k.tmod (6 : Int))) (W (W (n.tmod (30 : Int))
    + (1 : Int)))) ∧ sm ((bldE (W (k.tmod (6 : Int))) (W (W (n.tmod (30 : Int)) + (1 : Int))) != (0 : Int))) ∧ True ∧ n_1 = n_1 ∧ sm ((n_1 == (0 : Int))) ∧ True ∧ True
    ∧ True ∧ True ∧ True ∧ True ∧ True ∧ n_1 = n_1 ∧ sm (W (W (n.tmod (30 : Int)) + (1 : Int))) ∧ sm ((n_1 == W (W (n.tmod (30 : Int)) + (1 : Int)))) ∧ True ∧ True ∧
    True ∧ True ∧ True ∧ True ∧ n_2 = n_2 ∧ True ∧ True ∧ True ∧ True ∧ True ∧ True ∧ True ∧ True ∧ True ∧ True ∧ True ∧ True ∧ True ∧ True ∧ True ∧ True ∧ True ∧ True
    ∧ True ∧ True ∧ True ∧ True ∧ True ∧ True ∧ True ∧ True ∧ True ∧ True) ∧ ((if false = true then [] else List.map Seg.shape ([Seg.a (16 : Nat) (1 : Nat) fun x =>
    [SV.int IntKind.u64 (0 : Int)]] ++ ([Seg.a (16 : Nat) (1 : Nat) fun x => [SV.int IntKind.u64 (0 : Int)]] ++ []))) = if false = true then [] else List.map Seg.shape
    ([Seg.a (16 : Nat) (1 : Nat) fun x => [SV.int IntKind.u64 (0 : Int)]] ++ ([Seg.a (16 : Nat) (1 : Nat) fun x => [SV.int IntKind.u64 (0 : Int)]] ++ []))) ∧ ((sm ((16
    : Nat)) ∧ sm ((1 : Nat)) ∧ ∀ (i : Nat), i < (16 : Nat) → sm ((fillS (1 : Int)).low.getD i (0 : Int)) ∧ True) ∧ (sm ((16 : Nat)) ∧ sm ((1 : Nat)) ∧ ∀ (i : Nat), i
    < (16 : Nat) → sm ((fillS (1 : Int)).high.getD i (0 : Int)) ∧ True) ∧ True) ∧ ((if false = true then [] else List.map Seg.shape ([Seg.a (16 : Nat) (1 : Nat) fun
    x => [SV.int IntKind.u64 (0 : Int)]] ++ ([Seg.a (16 : Nat) (1 : Nat) fun x => [SV.int IntKind.u64 (0 : Int)]] ++ []))) = if false = true then [] else List.map Seg.shape
    ([Seg.a (16 : Nat) (1 : Nat) fun x => [SV.int IntKind.u64 (0 : Int)]] ++ ([Seg.a (16 : Nat) (1 : Nat) fun x => [SV.int IntKind.u64 (0 : Int)]] ++ []))) ∧ ((sm ((16
    : Nat)) ∧ sm ((1 : Nat)) ∧ ∀ (i : Nat), i < (16 : Nat) → sm ((fillS (2 : Int)).low.getD i (0 : Int)) ∧ True) ∧ (sm ((16 : Nat)) ∧ sm ((1 : Nat)) ∧ ∀ (i : Nat), i
    < (16 : Nat) → sm ((fillS (2 : Int)).high.getD i (0 : Int)) ∧ True) ∧ True) ∧ ((if false = true then [] else List.map Seg.shape ([Seg.a (16 : Nat) (1 : Nat) fun
    x => [SV.int IntKind.u64 (0 : Int)]] ++ ([Seg.a (16 : Nat) (1 : Nat) fun x => [SV.int IntKind.u64 (0 : Int)]] ++ []))) = if false = true then [] else List.map Seg.shape
    ([Seg.a (16 : Nat) (1 : Nat) fun x => [SV.int IntKind.u64 (0 : Int)]] ++ ([Seg.a (16 : Nat) (1 : Nat) fun x => [SV.int IntKind.u64 (0 : Int)]] ++ []))) ∧ ((sm ((16
    : Nat)) ∧ sm ((codI IntKind.u64).n) ∧ ∀ (i : Nat), i < (16 : Nat) → sm (l.getD i (codI IntKind.u64).dft) ∧ True) ∧ (sm ((16 : Nat)) ∧ sm ((codI IntKind.u64).n) ∧
    ∀ (i : Nat), i < (16 : Nat) → sm (l_1.getD i (codI IntKind.u64).dft) ∧ True) ∧ True) ∧ ((if false = true then [] else List.map Seg.shape ([Seg.a (16 : Nat) (1 :
    Nat) fun x => [SV.int IntKind.u64 (0 : Int)]] ++ ([Seg.a (16 : Nat) (1 : Nat) fun x => [SV.int IntKind.u64 (0 : Int)]] ++ []))) = if false = true then [] else List.map
    Seg.shape ([Seg.a (16 : Nat) (1 : Nat) fun x => [SV.int IntKind.u64 (0 : Int)]] ++ ([Seg.a (16 : Nat) (1 : Nat) fun x => [SV.int IntKind.u64 (0 : Int)]] ++ [])))
    ∧ ((sm ((16 : Nat)) ∧ sm ((1 : Nat)) ∧ ∀ (i : Nat), i < (16 : Nat) → sm ((F6 k n n_1).low.getD i (0 : Int)) ∧ True) ∧ (sm ((16 : Nat)) ∧ sm ((1 : Nat)) ∧ ∀ (i :
    Nat), i < (16 : Nat) → sm ((F6 k n n_1).high.getD i (0 : Int)) ∧ True) ∧ True) ∧ True))) ∧ ((getS { low := rr (F6 k n n_1).low, high := rr (F6 k n n_1).high : Fr }
    n_3 n_2 != (1 : Int)) = false → (t16 ∧ t16 ∧ True) ∧ True ∧ True ∧ ((((∀ (i : Nat), i < (16 : Nat) → true = true ∧ True) ∧ ∀ (i : Nat), i < (16 : Nat) → true = true
    ∧ True) ∧ True ∧ True) ∧ okF { low := rowL (codI IntKind.u64) (16 : Nat) fun j => (codI IntKind.u64).enc (l.getD j (codI IntKind.u64).dft), high := rowL (codI IntKind.u64) (16 : Nat) fun j => (codI IntKind.u64).enc (l_1.getD j (codI IntKind.u64).dft) : Fr })
    ∧ True ∧ (decide (getS { low := rr (F6 k n n_1).low, high := rr (F6 k n n_1).high : Fr } n_3 n_2 < getS { low := rowL (codI IntKind.u64) (16 : Nat) fun j => (codI IntKind.u64).enc (l.getD j (codI IntKind.u64).dft), high := rowL (codI IntKind.u64) (16 : Nat) fun j => (codI IntKind.u64).enc (l_1.getD j (codI IntKind.u64).dft) : Fr }
    n_3 n_2) = true → True ∧ True ∧ true = false ∧ True) ∧ (decide (getS { low := rr (F6 k n n_1).low, high := rr (F6 k n n_1).high : Fr } n_3 n_2 < getS { low := rowL (codI IntKind.u64) (16 : Nat) fun j => (codI IntKind.u64).enc (l.getD j (codI IntKind.u64).dft), high := rowL (codI IntKind.u64) (16 : Nat) fun j => (codI IntKind.u64).enc (l_1.getD j (codI IntKind.u64).dft) : Fr }
    n_3 n_2) = false → True ∧ ((0 : Int) ≤ W (n_3 + (1 : Int)) ∧ W (n_3 + (1 : Int)) ≤ (64 : Int)) ∧ ((64 : Int) - W (n_3 + (1 : Int))).toNat < ((64 : Int) - n_3).toNat
    ∧ (k = k ∧ n = n ∧ True ∧ True ∧ True ∧ sm (W (k.tmod (6 : Int))) ∧ sm (W (W (n.tmod (30 : Int)) + (1 : Int))) ∧ True ∧ True ∧ True ∧ n_1 = n_1 ∧ True ∧ sm (bldE
    (W (k.tmod (6 : Int))) (W (W (n.tmod (30 : Int)) + (1 : Int)))) ∧ n_2 = n_2 ∧ sm (W (n_3 + (1 : Int))) ∧ True ∧ k = k ∧ sm (k.tmod (6 : Int)) ∧ sm (W (k.tmod (6
    : Int))) ∧ n = n ∧ sm (n.tmod (30 : Int)) ∧ sm (W (n.tmod (30 : Int))) ∧ sm (W (W (n.tmod (30 : Int)) + (1 : Int))) ∧ ((sm ((16 : Nat)) ∧ sm ((1 : Nat)) ∧ ∀ (i :
    Nat), i < (16 : Nat) → sm ((fillS (1 : Int)).low.getD i (0 : Int)) ∧ True) ∧ (sm ((16 : Nat)) ∧ sm ((1 : Nat)) ∧ ∀ (i : Nat), i < (16 : Nat) → sm ((fillS (1 : Int)).high.getD
    i (0 : Int)) ∧ True) ∧ True) ∧ ((sm ((16 : Nat)) ∧ sm ((1 : Nat)) ∧ ∀ (i : Nat), i < (16 : Nat) → sm ((fillS (2 : Int)).low.getD i (0 : Int)) ∧ True) ∧ (sm ((16
    : Nat)) ∧ sm ((1 : Nat)) ∧ ∀ (i : Nat), i < (16 : Nat) → sm ((fillS (2 : Int)).high.getD i (0 : Int)) ∧ True) ∧ True) ∧ ((sm ((16 : Nat)) ∧ sm ((0 : Nat) + (1 :
    Nat)) ∧ ∀ (i : Nat), i < (16 : Nat) → sm ((fillS (1 : Int)).low.getD i (0 : Int)) ∧ True) ∧ (sm ((16 : Nat)) ∧ sm ((0 : Nat) + (1 : Nat)) ∧ ∀ (i : Nat), i < (16
    : Nat) → sm ((fillS (1 : Int)).high.getD i (0 : Int)) ∧ True) ∧ True) ∧ n_1 = n_1 ∧ sm (W (W (n.tmod (30 : Int)) + (1 : Int))) ∧ True ∧ True ∧ True ∧ (((sm ((16
    : Nat)) ∧ sm ((1 : Nat)) ∧ ∀ (i : Nat), i < (16 : Nat) → sm ((F6 k n n_1).low.getD i (0 : Int)) ∧ True) ∧ (sm ((16 : Nat)) ∧ sm ((1 : Nat)) ∧ ∀ (i : Nat), i < (16
    : Nat) → sm ((F6 k n n_1).high.getD i (0 : Int)) ∧ True) ∧ True) ∧ sm (bldE (W (k.tmod (6 : Int))) (W (W (n.tmod (30 : Int)) + (1 : Int)))) ∧ True) ∧ sm (W (k.tmod
    (6 : Int))) ∧ ((sm ((16 : Nat)) ∧ sm ((0 : Nat) + (1 : Nat)) ∧ ∀ (i : Nat), i < (16 : Nat) → sm ((fillS (1 : Int)).low.getD i (0 : Int)) ∧ True) ∧ (sm ((16 : Nat))
    ∧ sm ((0 : Nat) + (1 : Nat)) ∧ ∀ (i : Nat), i < (16 : Nat) → sm ((fillS (1 : Int)).high.getD i (0 : Int)) ∧ True) ∧ True) ∧ ((sm ((16 : Nat)) ∧ sm ((0 : Nat) + (1
    : Nat)) ∧ ∀ (i : Nat), i < (16 : Nat) → sm ((fillS (2 : Int)).low.getD i (0 : Int)) ∧ True) ∧ (sm ((16 : Nat)) ∧ sm ((0 : Nat) + (1 : Nat)) ∧ ∀ (i : Nat), i < (16
    : Nat) → sm ((fillS (2 : Int)).high.getD i (0 : Int)) ∧ True) ∧ True) ∧ n_1 = n_1 ∧ sm (W (W (n.tmod (30 : Int)) + (1 : Int))) ∧ (((sm ((16 : Nat)) ∧ sm ((1 : Nat))
    ∧ ∀ (i : Nat), i < (16 : Nat) → sm ((F6 k n n_1).low.getD i (0 : Int)) ∧ True) ∧ (sm ((16 : Nat)) ∧ sm ((1 : Nat)) ∧ ∀ (i : Nat), i < (16 : Nat) → sm ((F6 k n n_1).high.getD
    i (0 : Int)) ∧ True) ∧ True) ∧ sm (bldE (W (k.tmod (6 : Int))) (W (W (n.tmod (30 : Int)) + (1 : Int)))) ∧ True) ∧ ((sm ((16 : Nat)) ∧ sm ((1 : Nat)) ∧ ∀ (i : Nat),
    i < (16 : Nat) → sm ((F6 k n n_1).low.getD i (0 : Int)) ∧ True) ∧ (sm ((16 : Nat)) ∧ sm ((1 : Nat)) ∧ ∀ (i : Nat), i < (16 : Nat) → sm ((F6 k n n_1).high.getD i
    (0 : Int)) ∧ True) ∧ True) ∧ sm (bldE (W (k.tmod (6 : Int))) (W (W (n.tmod (30 : Int)) + (1 : Int)))) ∧ sm (bldE (W (k.tmod (6 : Int))) (W (W (n.tmod (30 : Int))
    + (1 : Int)))) ∧ sm ((bldE (W (k.tmod (6 : Int))) (W (W (n.tmod (30 : Int)) + (1 : Int))) != (0 : Int))) ∧ True ∧ n_1 = n_1 ∧ sm ((n_1 == (0 : Int))) ∧ True ∧ True
    ∧ True ∧ True ∧ True ∧ True ∧ True ∧ n_1 = n_1 ∧ sm (W (W (n.tmod (30 : Int)) + (1 : Int))) ∧ sm ((n_1 == W (W (n.tmod (30 : Int)) + (1 : Int)))) ∧ True ∧ True ∧
    True ∧ True ∧ True ∧ True ∧ n_2 = n_2 ∧ True ∧ True ∧ True ∧ True ∧ True ∧ True ∧ True ∧ True ∧ True ∧ True ∧ True ∧ True ∧ True ∧ True ∧ True ∧ True ∧ True ∧ True
    ∧ True ∧ True ∧ True ∧ True ∧ True ∧ True ∧ True ∧ True ∧ True ∧ True) ∧ ((if false = true then [] else List.map Seg.shape ([Seg.a (16 : Nat) (1 : Nat) fun x =>
    [SV.int IntKind.u64 (0 : Int)]] ++ ([Seg.a (16 : Nat) (1 : Nat) fun x => [SV.int IntKind.u64 (0 : Int)]] ++ []))) = if false = true then [] else List.map Seg.shape
    ([Seg.a (16 : Nat) (1 : Nat) fun x => [SV.int IntKind.u64 (0 : Int)]] ++ ([Seg.a (16 : Nat) (1 : Nat) fun x => [SV.int IntKind.u64 (0 : Int)]] ++ []))) ∧ ((sm ((16
    : Nat)) ∧ sm ((1 : Nat)) ∧ ∀ (i : Nat), i < (16 : Nat) → sm ((fillS (1 : Int)).low.getD i (0 : Int)) ∧ True) ∧ (sm ((16 : Nat)) ∧ sm ((1 : Nat)) ∧ ∀ (i : Nat), i
    < (16 : Nat) → sm ((fillS (1 : Int)).high.getD i (0 : Int)) ∧ True) ∧ True) ∧ ((if false = true then [] else List.map Seg.shape ([Seg.a (16 : Nat) (1 : Nat) fun
    x => [SV.int IntKind.u64 (0 : Int)]] ++ ([Seg.a (16 : Nat) (1 : Nat) fun x => [SV.int IntKind.u64 (0 : Int)]] ++ []))) = if false = true then [] else List.map Seg.shape
    ([Seg.a (16 : Nat) (1 : Nat) fun x => [SV.int IntKind.u64 (0 : Int)]] ++ ([Seg.a (16 : Nat) (1 : Nat) fun x => [SV.int IntKind.u64 (0 : Int)]] ++ []))) ∧ ((sm ((16
    : Nat)) ∧ sm ((1 : Nat)) ∧ ∀ (i : Nat), i < (16 : Nat) → sm ((fillS (2 : Int)).low.getD i (0 : Int)) ∧ True) ∧ (sm ((16 : Nat)) ∧ sm ((1 : Nat)) ∧ ∀ (i : Nat), i
    < (16 : Nat) → sm ((fillS (2 : Int)).high.getD i (0 : Int)) ∧ True) ∧ True) ∧ ((if false = true then [] else List.map Seg.shape ([Seg.a (16 : Nat) (1 : Nat) fun
    x => [SV.int IntKind.u64 (0 : Int)]] ++ ([Seg.a (16 : Nat) (1 : Nat) fun x => [SV.int IntKind.u64 (0 : Int)]] ++ []))) = if false = true then [] else List.map Seg.shape
    ([Seg.a (16 : Nat) (1 : Nat) fun x => [SV.int IntKind.u64 (0 : Int)]] ++ ([Seg.a (16 : Nat) (1 : Nat) fun x => [SV.int IntKind.u64 (0 : Int)]] ++ []))) ∧ ((sm ((16
    : Nat)) ∧ sm ((codI IntKind.u64).n) ∧ ∀ (i : Nat), i < (16 : Nat) → sm (l.getD i (codI IntKind.u64).dft) ∧ True) ∧ (sm ((16 : Nat)) ∧ sm ((codI IntKind.u64).n) ∧
    ∀ (i : Nat), i < (16 : Nat) → sm (l_1.getD i (codI IntKind.u64).dft) ∧ True) ∧ True) ∧ ((if false = true then [] else List.map Seg.shape ([Seg.a (16 : Nat) (1 :
    Nat) fun x => [SV.int IntKind.u64 (0 : Int)]] ++ ([Seg.a (16 : Nat) (1 : Nat) fun x => [SV.int IntKind.u64 (0 : Int)]] ++ []))) = if false = true then [] else List.map
    Seg.shape ([Seg.a (16 : Nat) (1 : Nat) fun x => [SV.int IntKind.u64 (0 : Int)]] ++ ([Seg.a (16 : Nat) (1 : Nat) fun x => [SV.int IntKind.u64 (0 : Int)]] ++ [])))
    ∧ ((sm ((16 : Nat)) ∧ sm ((1 : Nat)) ∧ ∀ (i : Nat), i < (16 : Nat) → sm ((F6 k n n_1).low.getD i (0 : Int)) ∧ True) ∧ (sm ((16 : Nat)) ∧ sm ((1 : Nat)) ∧ ∀ (i :
    Nat), i < (16 : Nat) → sm ((F6 k n n_1).high.getD i (0 : Int)) ∧ True) ∧ True) ∧ True))) ∧ (decide (n_3 < (64 : Int)) = false → True ∧ ((0 : Int) ≤ W (n_2 + (1 :
    Int)) ∧ W (n_2 + (1 : Int)) ≤ (16 : Int)) ∧ ((16 : Int) - W (n_2 + (1 : Int))).toNat < ((16 : Int) - n_2).toNat ∧ (k = k ∧ n = n ∧ True ∧ True ∧ True ∧ sm (W (k.tmod
    (6 : Int))) ∧ sm (W (W (n.tmod (30 : Int)) + (1 : Int))) ∧ True ∧ True ∧ True ∧ n_1 = n_1 ∧ True ∧ sm (bldE (W (k.tmod (6 : Int))) (W (W (n.tmod (30 : Int)) + (1
    : Int)))) ∧ sm (W (n_2 + (1 : Int))) ∧ True ∧ True ∧ k = k ∧ sm (k.tmod (6 : Int)) ∧ sm (W (k.tmod (6 : Int))) ∧ n = n ∧ sm (n.tmod (30 : Int)) ∧ sm (W (n.tmod (30
    : Int))) ∧ sm (W (W (n.tmod (30 : Int)) + (1 : Int))) ∧ ((sm ((16 : Nat)) ∧ sm ((1 : Nat)) ∧ ∀ (i : Nat), i < (16 : Nat) → sm ((fillS (1 : Int)).low.getD i (0 :
    Int)) ∧ True) ∧ (sm ((16 : Nat)) ∧ sm ((1 : Nat)) ∧ ∀ (i : Nat), i < (16 : Nat) → sm ((fillS (1 : Int)).high.getD i (0 : Int)) ∧ True) ∧ True) ∧ ((sm ((16 : Nat))
    ∧ sm ((1 : Nat)) ∧ ∀ (i : Nat), i < (16 : Nat) → sm ((fillS (2 : Int)).low.getD i (0 : Int)) ∧ True) ∧ (sm ((16 : Nat)) ∧ sm ((1 : Nat)) ∧ ∀ (i : Nat), i < (16 :
    Nat) → sm ((fillS (2 : Int)).high.getD i (0 : Int)) ∧ True) ∧ True) ∧ ((sm ((16 : Nat)) ∧ sm ((0 : Nat) + (1 : Nat)) ∧ ∀ (i : Nat), i < (16 : Nat) → sm ((fillS (1
    : Int)).low.getD i (0 : Int)) ∧ True) ∧ (sm ((16 : Nat)) ∧ sm ((0 : Nat) + (1 : Nat)) ∧ ∀ (i : Nat), i < (16 : Nat) → sm ((fillS (1 : Int)).high.getD i (0 : Int))
    ∧ True) ∧ True) ∧ n_1 = n_1 ∧ sm (W (W (n.tmod (30 : Int)) + (1 : Int))) ∧ True ∧ True ∧ True ∧ (((sm ((16 : Nat)) ∧ sm ((1 : Nat)) ∧ ∀ (i : Nat), i < (16 : Nat)
    → sm ((F6 k n n_1).low.getD i (0 : Int)) ∧ True) ∧ (sm ((16 : Nat)) ∧ sm ((1 : Nat)) ∧ ∀ (i : Nat), i < (16 : Nat) → sm ((F6 k n n_1).high.getD i (0 : Int)) ∧ True)
    ∧ True) ∧ sm (bldE (W (k.tmod (6 : Int))) (W (W (n.tmod (30 : Int)) + (1 : Int)))) ∧ True) ∧ sm (W (k.tmod (6 : Int))) ∧ ((sm ((16 : Nat)) ∧ sm ((0 : Nat) + (1 :
    Nat)) ∧ ∀ (i : Nat), i < (16 : Nat) → sm ((fillS (1 : Int)).low.getD i (0 : Int)) ∧ True) ∧ (sm ((16 : Nat)) ∧ sm ((0 : Nat) + (1 : Nat)) ∧ ∀ (i : Nat), i < (16
    : Nat) → sm ((fillS (1 : Int)).high.getD i (0 : Int)) ∧ True) ∧ True) ∧ ((sm ((16 : Nat)) ∧ sm ((0 : Nat) + (1 : Nat)) ∧ ∀ (i : Nat), i < (16 : Nat) → sm ((fillS
    (2 : Int)).low.getD i (0 : Int)) ∧ True) ∧ (sm ((16 : Nat)) ∧ sm ((0 : Nat) + (1 : Nat)) ∧ ∀ (i : Nat), i < (16 : Nat) → sm ((fillS (2 : Int)).high.getD i (0 : Int))
    ∧ True) ∧ True) ∧ n_1 = n_1 ∧ sm (W (W (n.tmod (30 : Int)) + (1 : Int))) ∧ (((sm ((16 : Nat)) ∧ sm ((1 : Nat)) ∧ ∀ (i : Nat), i < (16 : Nat) → sm ((F6 k n n_1).low.getD
    i (0 : Int)) ∧ True) ∧ (sm ((16 : Nat)) ∧ sm ((1 : Nat)) ∧ ∀ (i : Nat), i < (16 : Nat) → sm ((F6 k n n_1).high.getD i (0 : Int)) ∧ True) ∧ True) ∧ sm (bldE (W (k.tmod
    (6 : Int))) (W (W (n.tmod (30 : Int)) + (1 : Int)))) ∧ True) ∧ ((sm ((16 : Nat)) ∧ sm ((1 : Nat)) ∧ ∀ (i : Nat), i < (16 : Nat) → sm ((F6 k n n_1).low.getD i (0
    : Int)) ∧ True) ∧ (sm ((16 : Nat)) ∧ sm ((1 : Nat)) ∧ ∀ (i : Nat), i < (16 : Nat) → sm ((F6 k n n_1).high.getD i (0 : Int)) ∧ True) ∧ True) ∧ sm (bldE (W (k.tmod
    (6 : Int))) (W (W (n.tmod (30 : Int)) + (1 : Int)))) ∧ sm (bldE (W (k.tmod (6 : Int))) (W (W (n.tmod (30 : Int)) + (1 : Int)))) ∧ sm ((bldE (W (k.tmod (6 : Int)))
    (W (W (n.tmod (30 : Int)) + (1 : Int))) != (0 : Int))) ∧ True ∧ n_1 = n_1 ∧ sm ((n_1 == (0 : Int))) ∧ True ∧ True ∧ True ∧ True ∧ True ∧ True ∧ True ∧ n_1 = n_1
    ∧ sm (W (W (n.tmod (30 : Int)) + (1 : Int))) ∧ sm ((n_1 == W (W (n.tmod (30 : Int)) + (1 : Int)))) ∧ True ∧ True ∧ True ∧ True ∧ True ∧ True ∧ True ∧ True ∧ True
    ∧ True ∧ True ∧ True ∧ True ∧ True ∧ True ∧ True ∧ True ∧ True ∧ True ∧ True ∧ True ∧ True ∧ True ∧ True ∧ True ∧ True ∧ True ∧ True ∧ True ∧ True ∧ True ∧ True
    ∧ True ∧ True ∧ True) ∧ ((if false = true then [] else List.map Seg.shape ([Seg.a (16 : Nat) (1 : Nat) fun x => [SV.int IntKind.u64 (0 : Int)]] ++ ([Seg.a (16 :
    Nat) (1 : Nat) fun x => [SV.int IntKind.u64 (0 : Int)]] ++ []))) = if false = true then [] else List.map Seg.shape ([Seg.a (16 : Nat) (1 : Nat) fun x => [SV.int
    IntKind.u64 (0 : Int)]] ++ ([Seg.a (16 : Nat) (1 : Nat) fun x => [SV.int IntKind.u64 (0 : Int)]] ++ []))) ∧ ((sm ((16 : Nat)) ∧ sm ((1 : Nat)) ∧ ∀ (i : Nat), i <
    (16 : Nat) → sm ((fillS (1 : Int)).low.getD i (0 : Int)) ∧ True) ∧ (sm ((16 : Nat)) ∧ sm ((1 : Nat)) ∧ ∀ (i : Nat), i < (16 : Nat) → sm ((fillS (1 : Int)).high.getD
    i (0 : Int)) ∧ True) ∧ True) ∧ ((if false = true then [] else List.map Seg.shape ([Seg.a (16 : Nat) (1 : Nat) fun x => [SV.int IntKind.u64 (0 : Int)]] ++ ([Seg.a
    (16 : Nat) (1 : Nat) fun x => [SV.int IntKind.u64 (0 : Int)]] ++ []))) = if false = true then [] else List.map Seg.shape ([Seg.a (16 : Nat) (1 : Nat) fun x => [SV.int
    IntKind.u64 (0 : Int)]] ++ ([Seg.a (16 : Nat) (1 : Nat) fun x => [SV.int IntKind.u64 (0 : Int)]] ++ []))) ∧ ((sm ((16 : Nat)) ∧ sm ((1 : Nat)) ∧ ∀ (i : Nat), i <
    (16 : Nat) → sm ((fillS (2 : Int)).low.getD i (0 : Int)) ∧ True) ∧ (sm ((16 : Nat)) ∧ sm ((1 : Nat)) ∧ ∀ (i : Nat), i < (16 : Nat) → sm ((fillS (2 : Int)).high.getD
    i (0 : Int)) ∧ True) ∧ True) ∧ ((if false = true then [] else List.map Seg.shape ([Seg.a (16 : Nat) (1 : Nat) fun x => [SV.int IntKind.u64 (0 : Int)]] ++ ([Seg.a
    (16 : Nat) (1 : Nat) fun x => [SV.int IntKind.u64 (0 : Int)]] ++ []))) = if false = true then [] else List.map Seg.shape ([Seg.a (16 : Nat) (1 : Nat) fun x => [SV.int
    IntKind.u64 (0 : Int)]] ++ ([Seg.a (16 : Nat) (1 : Nat) fun x => [SV.int IntKind.u64 (0 : Int)]] ++ []))) ∧ ((sm ((16 : Nat)) ∧ sm ((codI IntKind.u64).n) ∧ ∀ (i
    : Nat), i < (16 : Nat) → sm (l.getD i (codI IntKind.u64).dft) ∧ True) ∧ (sm ((16 : Nat)) ∧ sm ((codI IntKind.u64).n) ∧ ∀ (i : Nat), i < (16 : Nat) → sm (l_1.getD
    i (codI IntKind.u64).dft) ∧ True) ∧ True) ∧ ((if false = true then [] else List.map Seg.shape ([Seg.a (16 : Nat) (1 : Nat) fun x => [SV.int IntKind.u64 (0 : Int)]]
    ++ ([Seg.a (16 : Nat) (1 : Nat) fun x => [SV.int IntKind.u64 (0 : Int)]] ++ []))) = if false = true then [] else List.map Seg.shape ([Seg.a (16 : Nat) (1 : Nat)
    fun x => [SV.int IntKind.u64 (0 : Int)]] ++ ([Seg.a (16 : Nat) (1 : Nat) fun x => [SV.int IntKind.u64 (0 : Int)]] ++ []))) ∧ ((sm ((16 : Nat)) ∧ sm ((1 : Nat)) ∧
    ∀ (i : Nat), i < (16 : Nat) → sm ((F6 k n n_1).low.getD i (0 : Int)) ∧ True) ∧ (sm ((16 : Nat)) ∧ sm ((1 : Nat)) ∧ ∀ (i : Nat), i < (16 : Nat) → sm ((F6 k n n_1).high.getD
    i (0 : Int)) ∧ True) ∧ True) ∧ True)) ∧ (decide (n_2 < (16 : Int)) = false → t16 ∧ t16 ∧ True ∧ True ∧ L6 (k.tmod (6 : Int)) (n.tmod (30 : Int) + (1 : Int)) (W (n_1
    + (1 : Int))) (rr (F6 k n n_1).low) (rr (F6 k n n_1).high) ∧ (n.tmod (30 : Int) + (2 : Int) - W (n_1 + (1 : Int))).toNat < (n.tmod (30 : Int) + (2 : Int) - n_1).toNat
    ∧ (k = k ∧ n = n ∧ True ∧ True ∧ True ∧ sm (W (k.tmod (6 : Int))) ∧ sm (W (W (n.tmod (30 : Int)) + (1 : Int))) ∧ True ∧ True ∧ True ∧ sm (W (n_1 + (1 : Int))) ∧
    True ∧ True ∧ True ∧ True ∧ True ∧ k = k ∧ sm (k.tmod (6 : Int)) ∧ sm (W (k.tmod (6 : Int))) ∧ n = n ∧ sm (n.tmod (30 : Int)) ∧ sm (W (n.tmod (30 : Int))) ∧ sm (W
    (W (n.tmod (30 : Int)) + (1 : Int))) ∧ ((sm ((16 : Nat)) ∧ sm ((1 : Nat)) ∧ ∀ (i : Nat), i < (16 : Nat) → sm ((fillS (1 : Int)).low.getD i (0 : Int)) ∧ True) ∧ (sm
    ((16 : Nat)) ∧ sm ((1 : Nat)) ∧ ∀ (i : Nat), i < (16 : Nat) → sm ((fillS (1 : Int)).high.getD i (0 : Int)) ∧ True) ∧ True) ∧ ((sm ((16 : Nat)) ∧ sm ((1 : Nat)) ∧
    ∀ (i : Nat), i < (16 : Nat) → sm ((fillS (2 : Int)).low.getD i (0 : Int)) ∧ True) ∧ (sm ((16 : Nat)) ∧ sm ((1 : Nat)) ∧ ∀ (i : Nat), i < (16 : Nat) → sm ((fillS
    (2 : Int)).high.getD i (0 : Int)) ∧ True) ∧ True) ∧ ((sm ((16 : Nat)) ∧ sm ((0 : Nat) + (1 : Nat)) ∧ ∀ (i : Nat), i < (16 : Nat) → sm ((fillS (1 : Int)).low.getD
    i (0 : Int)) ∧ True) ∧ (sm ((16 : Nat)) ∧ sm ((0 : Nat) + (1 : Nat)) ∧ ∀ (i : Nat), i < (16 : Nat) → sm ((fillS (1 : Int)).high.getD i (0 : Int)) ∧ True) ∧ True)
    ∧ True ∧ True ∧ True ∧ True ∧ True ∧ True ∧ True ∧ True ∧ True ∧ True ∧ True ∧ True ∧ True ∧ True ∧ True ∧ True ∧ True ∧ True ∧ True ∧ True ∧ True ∧ True ∧ True
    ∧ True ∧ True ∧ True ∧ True ∧ True ∧ True ∧ True ∧ True ∧ True ∧ True ∧ True ∧ True ∧ True ∧ True ∧ True ∧ True ∧ True ∧ True ∧ True ∧ True ∧ True ∧ True ∧ True
    ∧ True ∧ True ∧ True ∧ True ∧ True ∧ True ∧ True ∧ True ∧ True ∧ True ∧ True ∧ True ∧ True ∧ True ∧ True ∧ True ∧ True ∧ True) ∧ ((if false = true then [] else List.map
    Seg.shape ([Seg.a (16 : Nat) (1 : Nat) fun x => [SV.int IntKind.u64 (0 : Int)]] ++ ([Seg.a (16 : Nat) (1 : Nat) fun x => [SV.int IntKind.u64 (0 : Int)]] ++ [])))
    = if false = true then [] else List.map Seg.shape ([Seg.a (16 : Nat) (1 : Nat) fun x => [SV.int IntKind.u64 (0 : Int)]] ++ ([Seg.a (16 : Nat) (1 : Nat) fun x =>
    [SV.int IntKind.u64 (0 : Int)]] ++ []))) ∧ ((sm ((16 : Nat)) ∧ sm ((1 : Nat)) ∧ ∀ (i : Nat), i < (16 : Nat) → sm ((fillS (1 : Int)).low.getD i (0 : Int)) ∧ True)
    ∧ (sm ((16 : Nat)) ∧ sm ((1 : Nat)) ∧ ∀ (i : Nat), i < (16 : Nat) → sm ((fillS (1 : Int)).high.getD i (0 : Int)) ∧ True) ∧ True) ∧ ((if false = true then [] else
    List.map Seg.shape ([Seg.a (16 : Nat) (1 : Nat) fun x => [SV.int IntKind.u64 (0 : Int)]] ++ ([Seg.a (16 : Nat) (1 : Nat) fun x => [SV.int IntKind.u64 (0 : Int)]]
    ++ []))) = if false = true then [] else List.map Seg.shape ([Seg.a (16 : Nat) (1 : Nat) fun x => [SV.int IntKind.u64 (0 : Int)]] ++ ([Seg.a (16 : Nat) (1 : Nat)
    fun x => [SV.int IntKind.u64 (0 : Int)]] ++ []))) ∧ ((sm ((16 : Nat)) ∧ sm ((1 : Nat)) ∧ ∀ (i : Nat), i < (16 : Nat) → sm ((fillS (2 : Int)).low.getD i (0 : Int))
    ∧ True) ∧ (sm ((16 : Nat)) ∧ sm ((1 : Nat)) ∧ ∀ (i : Nat), i < (16 : Nat) → sm ((fillS (2 : Int)).high.getD i (0 : Int)) ∧ True) ∧ True) ∧ ((if false = true then
    [] else List.map Seg.shape ([Seg.a (16 : Nat) (1 : Nat) fun x => [SV.int IntKind.u64 (0 : Int)]] ++ ([Seg.a (16 : Nat) (1 : Nat) fun x => [SV.int IntKind.u64 (0
    : Int)]] ++ []))) = if false = true then [] else List.map Seg.shape ([Seg.a (16 : Nat) (1 : Nat) fun x => [SV.int IntKind.u64 (0 : Int)]] ++ ([Seg.a (16 : Nat) (1
    : Nat) fun x => [SV.int IntKind.u64 (0 : Int)]] ++ []))) ∧ ((sm ((16 : Nat)) ∧ (0 : Nat) + (1 : Nat) = (codI IntKind.u64).n ∧ ∀ (i : Nat), i < (16 : Nat) → (F6 k
    n n_1).low.getD i (0 : Int) = (rr (F6 k n n_1).low).getD i (codI IntKind.u64).dft ∧ True) ∧ (sm ((16 : Nat)) ∧ (0 : Nat) + (1 : Nat) = (codI IntKind.u64).n ∧ ∀ (i
    : Nat), i < (16 : Nat) → (F6 k n n_1).high.getD i (0 : Int) = (rr (F6 k n n_1).high).getD i (codI IntKind.u64).dft ∧ True) ∧ True) ∧ True))))) ∧ (decide (n_1 ≤ W
    (W (n.tmod (30 : Int)) + (1 : Int))) = false → (True ∧ True) ∧ True ∧ True ∧ true = true ∧ True)) = vc6 k n := by kernel_rfl
theorem last_ok (k i n : Int) : okF (lastS k i n) := by
  simp only [lastS]; split
  · exact ok_fill _
  · exact ok_bld _ _ _ _ _
theorem v6 (k n : Int) (k0 : 0 ≤ k) (k1 : k < 256) (n0 : 0 ≤ n) (n1 : n < 256) : vc6 k n := by
  rw [← vc6_eq]
  have e1 : W (k.tmod 6) = k.tmod 6 := by have := tmod_bd k (k := 6) (by omega); exact W_id (by omega) (by omega)
  have e2 : W (W (n.tmod 30) + 1) = n.tmod 30 + 1 := by
    have := tmod_bd n (k := 30) (by omega)
    rw [W_id (n := n.tmod 30) (by omega) (by omega)]; exact W_id (by omega) (by omega)
  have hK := tmod_bd k (k := 6) (by omega)
  have hK0 : 0 ≤ k.tmod 6 := by rw [Int.tmod_eq_emod_of_nonneg k0]; omega
  have hN := tmod_bd n (k := 30) (by omega)
  have hN0 : 0 ≤ n.tmod 30 := by rw [Int.tmod_eq_emod_of_nonneg n0]; omega
  have hb := bld_ok0 (k := k.tmod 6) (n := n.tmod 30 + 1) hK0 (by omega) (by omega) (by omega)
  simp (maxDischargeDepth := 9) [-List.getD_eq_getElem?_getD, W_def, rr_def, fr_eta, zero_mk, rrF, eqF_def, eqFr_iff, ok_bld, ok_fill, F6, e1, e2]
  generalize k.tmod 6 = K at *
  generalize n.tmod 30 = M at *
  have ef := okF_len (ok_fill 1)
  rw [rr_eq ef.1, rr_eq ef.2]
  refine ⟨⟨?_, fun _ _ => rfl, fun _ _ => rfl⟩, fun i lo hi hI h1 => ?_⟩
  · simp only [L6, lastS]
    exact ⟨by omega, by omega, by simp⟩
  · have hI' := hI
    simp only [L6] at hI'
    obtain ⟨i0, i1, hl⟩ := hI'
    have ho : okF ⟨lo, hi⟩ := by rw [hl]; exact last_ok _ _ _
    obtain ⟨a5, a6⟩ := okF_len ho
    dsimp only at a5 a6
    have eb := okF_len (ok_bld K (fillS 1) (fillS 2) i (M + 1))
    rw [rr_eq a5, rr_eq a6, rr_eq eb.1, rr_eq eb.2, hl]
    have hW : W (i + 1) = i + 1 := W_id (by omega) (by omega)
    rw [hW]
    have lvF : ∀ a b : Int, 0 ≤ a → a < 64 → 0 ≤ b → b < 16 → getS (bldS K (fillS 1) (fillS 2) i (M + 1)) a b = if newS K b.toNat a.toNat i (M + 1) then 2 else 1 := fun a b a0 a1 b0 b1 => by
      rw [getS_in a0 a1 b0 b1]; exact lv_bld hK0 (by omega) (by omega) (by omega) i0 h1 (by omega) (by omega)
    have lvL : ∀ a b : Int, 0 ≤ a → a < 64 → 0 ≤ b → b < 16 → getS (lastS K i (M + 1)) a b ≤ getS (bldS K (fillS 1) (fillS 2) i (M + 1)) a b := fun a b a0 a1 b0 b1 => by
      rw [lvF a b a0 a1 b0 b1]
      simp only [lastS]
      by_cases hz : i = 0
      · rw [if_pos hz, getS_in a0 a1 b0 b1, lv_fill (by omega) (by omega), lvS_1]; split <;> omega
      · rw [if_neg hz, getS_in a0 a1 b0 b1]
        have e := lv_bld (k := K) (i := i - 1) (n := M + 1) (y := b.toNat) (x := a.toNat) hK0 (by omega) (by omega) (by omega) (by omega) (by omega) (by omega) (by omega)
        simp only [fr7] at e
        rw [e]
        by_cases hn : newS K b.toNat a.toNat (i - 1) (M + 1) = true
        · have := new_mono hK0 (by omega) (by omega) (by omega) hn
          rw [show i - 1 + 1 = i by omega] at this
          rw [if_pos hn, if_pos this]; omega
        · rw [if_neg hn]; split <;> omega
    generalize hF : bldS K (fillS 1) (fillS 2) i (M + 1) = F at *
    have hs : max (M + 2 - (i + 1)) 0 < M + 2 - i := by omega
    have hnx : L6 K (M + 1) (i + 1) F.low F.high := by
      simp only [L6, lastS]
      refine ⟨by omega, by omega, ?_⟩
      rw [if_neg (by omega), show i + 1 - 1 = i by omega, hF]
    have T : ∀ b : Int, 0 ≤ b → b ≤ 16 → (b < 16 → ∀ a : Int, 0 ≤ a → a ≤ 64 → (a < 64 → (¬getS F a b = 1 → getS F a b = 2 ∧ (getS F a b = 2 → okF (lastS K i (M + 1)) ∧ getS (lastS K i (M + 1)) a b ≤ getS F a b ∧ (getS (lastS K i (M + 1)) a b ≤ getS F a b → (0 ≤ W (a + 1) ∧ W (a + 1) ≤ 64) ∧ max (64 - W (a + 1)) 0 < 64 - a))) ∧
        (getS F a b = 1 → okF (lastS K i (M + 1)) ∧ getS (lastS K i (M + 1)) a b ≤ getS F a b ∧ (getS (lastS K i (M + 1)) a b ≤ getS F a b → (0 ≤ W (a + 1) ∧ W (a + 1) ≤ 64) ∧ max (64 - W (a + 1)) 0 < 64 - a))) ∧ (64 ≤ a → (0 ≤ W (b + 1) ∧ W (b + 1) ≤ 16) ∧ max (16 - W (b + 1)) 0 < 16 - b)) ∧
        (16 ≤ b → L6 K (M + 1) (i + 1) F.low F.high ∧ max (M + 2 - (i + 1)) 0 < M + 2 - i ∧ (∀ j : Nat, j < 16 → F.low.getD j 0 = F.low.getD j 0) ∧ ∀ j : Nat, j < 16 → F.high.getD j 0 = F.high.getD j 0) := fun b b0 b1 => by
      refine ⟨fun b2 a a0 a1 => ⟨fun a2 => ?_, fun _ => row_step b0 b2⟩, fun _ => ⟨hnx, hs, fun _ _ => rfl, fun _ _ => rfl⟩⟩
      have t := fun (_ : getS (lastS K i (M + 1)) a b ≤ getS F a b) => col_step a0 a2
      have u := lvL a b a0 a2 b0 b2
      have v := lvF a b a0 a2 b0 b2
      have w := last_ok K i (M + 1)
      refine ⟨fun h => ⟨?_, fun _ => ⟨w, u, t⟩⟩, fun _ => ⟨w, u, t⟩⟩
      rw [v] at h ⊢
      split at h
      · rename_i c; rw [if_pos c]
      · omega
    have A0 : i = 0 → F = fillS 1 := fun h => by
      rw [← hF, h]
      refine lv_ext (ok_bld _ _ _ _ _) (ok_fill _) fun y x hy hx => ?_
      have e := lv_bld (k := K) (i := 0) (n := M + 1) hK0 (by omega) (by omega) (by omega) (by omega) (by omega) hy hx
      simp only [fr7] at e
      rw [e, new_zero hK0 (by omega) (by omega) hy hx, lv_fill hy hx, lvS_1]; rfl
    have A1 : i = M + 1 → F = fillS 2 := fun h => by
      rw [← hF, h]
      refine lv_ext (ok_bld _ _ _ _ _) (ok_fill _) fun y x hy hx => ?_
      have e := lv_bld (k := K) (i := M + 1) (n := M + 1) hK0 (by omega) (by omega) (by omega) (by omega) (by omega) hy hx
      simp only [fr7] at e
      rw [e, new_end hK0 (by omega) (by omega) hy hx, lv_fill hy hx, lvS_2]; rfl
    exact ⟨hb, fun _ => ⟨fun h0 => ⟨A0 h0, fun _ => ⟨fun h1 => ⟨A1 h1, fun _ => T⟩, fun _ => T⟩⟩, fun h0 => ⟨fun h1 => ⟨A1 h1, fun _ => T⟩, fun _ => T⟩⟩⟩
end Go.Proofs.Do
