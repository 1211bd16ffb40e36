import Derived.Test.YtjmjndfdociiiaaDoM
namespace Go.Proofs.Do
set_option linter.unusedVariables false
set_option linter.unusedSimpArgs false
open Go Go.Sx Go.Proofs
set_option maxRecDepth 100000
set_option maxHeartbeats 8000000
-- SAME: sm
-- ABBR: (∀ (i : Nat), i < (16 : Nat) → true = true) ==> t16
-- ABBR: IntKind.i64.wrap ==> W
-- ROWS: rowL (codI IntKind.u64) (16 : Nat) fun j => [SV.int IntKind.u64 ( ==> .getD j (0 : Int) ==> rr
-- KEEP: Go.Proofs.Do.fillS
noncomputable def vc7 (k s n : Int) : Prop := cva T16 Try.f7 [] [.int .u8 k, .int .u8 s, .int .u8 n] (.bool true)
theorem vc7_eq (k s n : Int) : (True ∧ True ∧ W (W (W n + (1 : Int)) + (1 : Int)) ≠ (0 : Int) ∧ True ∧ (6 : Int) ≠ (0 : Int) ∧ True ∧ True ∧ (True ∧ True) ∧ True ∧ (True ∧ True) ∧ True ∧ (t16 ∧
    t16 ∧ True) ∧ (t16 ∧ t16 ∧ True) ∧ True ∧ True ∧ ((True ∧ ((∀ (i : Nat), i < (16 : Nat) → true = true ∧ True) ∧ ∀ (i : Nat), i < (16 : Nat) → true = true ∧ True)
    ∧ ((∀ (i : Nat), i < (16 : Nat) → true = true ∧ True) ∧ ∀ (i : Nat), i < (16 : Nat) → true = true ∧ True) ∧ True ∧ True) ∧ okF { low := rr (fillS (1 : Int)).low, high := rr (fillS (1 : Int)).high : Fr }
    ∧ okF { low := rr (fillS (2 : Int)).low, high := rr (fillS (2 : Int)).high : Fr }) ∧ t16 ∧ t16 ∧ True ∧ True ∧ True ∧ True ∧ ((W (k.tmod (6 : Int)) == (0 : Int))
    = true → True ∧ (((W s).tmod (W (W (W n + (1 : Int)) + (1 : Int))) == W (W n + (1 : Int))) = true → True ∧ ((bldE (W (k.tmod (6 : Int))) (W (W n + (1 : Int))) ==
    (0 : Int)) = true → (t16 ∧ t16 ∧ True) ∧ (((∀ (i : Nat), i < (16 : Nat) → true = true ∧ True) ∧ ∀ (i : Nat), i < (16 : Nat) → true = true ∧ True) ∧ okF { low := rr (bldS (W (k.tmod (6 : Int))) { low := rr (fillS (1 : Int)).low, high := rr (fillS (1 : Int)).high : Fr } { low := rr (fillS (2 : Int)).low, high := rr (fillS (2 : Int)).high : Fr } ((W s).tmod (W (W (W n + (1 : Int)) + (1 : Int)))) (W (W n + (1 : Int)))).low, high := rr (bldS (W (k.tmod (6 : Int))) { low := rr (fillS (1 : Int)).low, high := rr (fillS (1 : Int)).high : Fr } { low := rr (fillS (2 : Int)).low, high := rr (fillS (2 : Int)).high : Fr } ((W s).tmod (W (W (W n + (1 : Int)) + (1 : Int)))) (W (W n + (1 : Int)))).high : Fr })
    ∧ (((∀ (i : Nat), i < (4 : Nat) → true = true) ∧ True) ∧ (∀ (i : Nat), i < (4 : Nat) → true = true) ∧ True) ∧ (eqSegs [Seg.a (4 : Nat) (1 : Nat) fun j => [SV.int
    IntKind.i64 ((cntS { low := rr (bldS (W (k.tmod (6 : Int))) { low := rr (fillS (1 : Int)).low, high := rr (fillS (1 : Int)).high : Fr } { low := rr (fillS (2 : Int)).low, high := rr (fillS (2 : Int)).high : Fr } ((W s).tmod (W (W (W n + (1 : Int)) + (1 : Int)))) (W (W n + (1 : Int)))).low, high := rr (bldS (W (k.tmod (6 : Int))) { low := rr (fillS (1 : Int)).low, high := rr (fillS (1 : Int)).high : Fr } { low := rr (fillS (2 : Int)).low, high := rr (fillS (2 : Int)).high : Fr } ((W s).tmod (W (W (W n + (1 : Int)) + (1 : Int)))) (W (W n + (1 : Int)))).high : Fr }).getD
    j (0 : Int))]] [Seg.a (4 : Nat) (1 : Nat) (if (4 : Nat) = (1 : Nat) then fun x => [SV.int IntKind.i64 (0 : Int)] else fun i' => mergeL (decide (i' = (3 : Nat)))
    [SV.int IntKind.i64 (0 : Int)] ((if (4 : Nat) = (1 : Nat) then fun x => [SV.int IntKind.i64 (1024 : Int)] else fun i' => mergeL (decide (i' = (2 : Nat))) [SV.int
    IntKind.i64 (1024 : Int)] ((if (4 : Nat) = (1 : Nat) then fun x => [SV.int IntKind.i64 (0 : Int)] else fun i' => mergeL (decide (i' = (1 : Nat))) [SV.int IntKind.i64
    (0 : Int)] ((if (4 : Nat) = (1 : Nat) then fun x => [SV.int IntKind.i64 (0 : Int)] else fun i' => mergeL (decide (i' = (0 : Nat))) [SV.int IntKind.i64 (0 : Int)]
    ((fun (x : List SV) => SV.int IntKind.i64 (0 : Int) :: x) [])) i')) i')) i'))] = true → (True ∧ True) ∧ True ∧ True ∧ true = true ∧ True) ∧ (eqSegs [Seg.a (4 : Nat)
    (1 : Nat) fun j => [SV.int IntKind.i64 ((cntS { low := rr (bldS (W (k.tmod (6 : Int))) { low := rr (fillS (1 : Int)).low, high := rr (fillS (1 : Int)).high : Fr } { low := rr (fillS (2 : Int)).low, high := rr (fillS (2 : Int)).high : Fr } ((W s).tmod (W (W (W n + (1 : Int)) + (1 : Int)))) (W (W n + (1 : Int)))).low, high := rr (bldS (W (k.tmod (6 : Int))) { low := rr (fillS (1 : Int)).low, high := rr (fillS (1 : Int)).high : Fr } { low := rr (fillS (2 : Int)).low, high := rr (fillS (2 : Int)).high : Fr } ((W s).tmod (W (W (W n + (1 : Int)) + (1 : Int)))) (W (W n + (1 : Int)))).high : Fr }).getD
    j (0 : Int))]] [Seg.a (4 : Nat) (1 : Nat) (if (4 : Nat) = (1 : Nat) then fun x => [SV.int IntKind.i64 (0 : Int)] else fun i' => mergeL (decide (i' = (3 : Nat)))
    [SV.int IntKind.i64 (0 : Int)] ((if (4 : Nat) = (1 : Nat) then fun x => [SV.int IntKind.i64 (1024 : Int)] else fun i' => mergeL (decide (i' = (2 : Nat))) [SV.int
    IntKind.i64 (1024 : Int)] ((if (4 : Nat) = (1 : Nat) then fun x => [SV.int IntKind.i64 (0 : Int)] else fun i' => mergeL (decide (i' = (1 : Nat))) [SV.int IntKind.i64
    (0 : Int)] ((if (4 : Nat) = (1 : Nat) then fun x => [SV.int IntKind.i64 (0 : Int)] else fun i' => mergeL (decide (i' = (0 : Nat))) [SV.int IntKind.i64 (0 : Int)]
    ((fun (x : List SV) => SV.int IntKind.i64 (0 : Int) :: x) [])) i')) i')) i'))] = false → True ∧ True ∧ true = false ∧ True)) ∧ ((bldE (W (k.tmod (6 : Int))) (W (W
    n + (1 : Int))) == (0 : Int)) = false → True ∧ True ∧ true = false ∧ True)) ∧ (((W s).tmod (W (W (W n + (1 : Int)) + (1 : Int))) == W (W n + (1 : Int))) = false
    → ((bldE (W (k.tmod (6 : Int))) (W (W n + (1 : Int))) == (0 : Int)) = true → (t16 ∧ t16 ∧ True) ∧ (((∀ (i : Nat), i < (16 : Nat) → true = true ∧ True) ∧ ∀ (i : Nat),
    i < (16 : Nat) → true = true ∧ True) ∧ okF { low := rr (bldS (W (k.tmod (6 : Int))) { low := rr (fillS (1 : Int)).low, high := rr (fillS (1 : Int)).high : Fr } { low := rr (fillS (2 : Int)).low, high := rr (fillS (2 : Int)).high : Fr } ((W s).tmod (W (W (W n + (1 : Int)) + (1 : Int)))) (W (W n + (1 : Int)))).low, high := rr (bldS (W (k.tmod (6 : Int))) { low := rr (fillS (1 : Int)).low, high := rr (fillS (1 : Int)).high : Fr } { low := rr (fillS (2 : Int)).low, high := rr (fillS (2 : Int)).high : Fr } ((W s).tmod (W (W (W n + (1 : Int)) + (1 : Int)))) (W (W n + (1 : Int)))).high : Fr })
    ∧ (((∀ (i : Nat), i < (4 : Nat) → true = true) ∧ True) ∧ (∀ (i : Nat), i < (4 : Nat) → true = true) ∧ True) ∧ (eqSegs [Seg.a (4 : Nat) (1 : Nat) fun j => [SV.int
    IntKind.i64 ((cntS { low := rr (bldS (W (k.tmod (6 : Int))) { low := rr (fillS (1 : Int)).low, high := rr (fillS (1 : Int)).high : Fr } { low := rr (fillS (2 : Int)).low, high := rr (fillS (2 : Int)).high : Fr } ((W s).tmod (W (W (W n + (1 : Int)) + (1 : Int)))) (W (W n + (1 : Int)))).low, high := rr (bldS (W (k.tmod (6 : Int))) { low := rr (fillS (1 : Int)).low, high := rr (fillS (1 : Int)).high : Fr } { low := rr (fillS (2 : Int)).low, high := rr (fillS (2 : Int)).high : Fr } ((W s).tmod (W (W (W n + (1 : Int)) + (1 : Int)))) (W (W n + (1 : Int)))).high : Fr }).getD
    j (0 : Int))]] [Seg.a (4 : Nat) (1 : Nat) (if (4 : Nat) = (1 : Nat) then fun x => [SV.int IntKind.i64 (0 : Int)] else fun i' => mergeL (decide (i' = (3 : Nat)))
    [SV.int IntKind.i64 (0 : Int)] ((if (4 : Nat) = (1 : Nat) then fun x => [SV.int IntKind.i64 (0 : Int)] else fun i' => mergeL (decide (i' = (2 : Nat))) [SV.int IntKind.i64
    (0 : Int)] ((if (4 : Nat) = (1 : Nat) then fun x => [SV.int IntKind.i64 (1024 : Int)] else fun i' => mergeL (decide (i' = (1 : Nat))) [SV.int IntKind.i64 (1024 :
    Int)] ((if (4 : Nat) = (1 : Nat) then fun x => [SV.int IntKind.i64 (0 : Int)] else fun i' => mergeL (decide (i' = (0 : Nat))) [SV.int IntKind.i64 (0 : Int)] ((fun
    (x : List SV) => SV.int IntKind.i64 (0 : Int) :: x) [])) i')) i')) i'))] = true → (True ∧ True) ∧ True ∧ True ∧ true = true ∧ True) ∧ (eqSegs [Seg.a (4 : Nat) (1
    : Nat) fun j => [SV.int IntKind.i64 ((cntS { low := rr (bldS (W (k.tmod (6 : Int))) { low := rr (fillS (1 : Int)).low, high := rr (fillS (1 : Int)).high : Fr } { low := rr (fillS (2 : Int)).low, high := rr (fillS (2 : Int)).high : Fr } ((W s).tmod (W (W (W n + (1 : Int)) + (1 : Int)))) (W (W n + (1 : Int)))).low, high := rr (bldS (W (k.tmod (6 : Int))) { low := rr (fillS (1 : Int)).low, high := rr (fillS (1 : Int)).high : Fr } { low := rr (fillS (2 : Int)).low, high := rr (fillS (2 : Int)).high : Fr } ((W s).tmod (W (W (W n + (1 : Int)) + (1 : Int)))) (W (W n + (1 : Int)))).high : Fr }).getD
    j (0 : Int))]] [Seg.a (4 : Nat) (1 : Nat) (if (4 : Nat) = (1 : Nat) then fun x => [SV.int IntKind.i64 (0 : Int)] else fun i' => mergeL (decide (i' = (3 : Nat)))
    [SV.int IntKind.i64 (0 : Int)] ((if (4 : Nat) = (1 : Nat) then fun x => [SV.int IntKind.i64 (0 : Int)] else fun i' => mergeL (decide (i' = (2 : Nat))) [SV.int IntKind.i64
    (0 : Int)] ((if (4 : Nat) = (1 : Nat) then fun x => [SV.int IntKind.i64 (1024 : Int)] else fun i' => mergeL (decide (i' = (1 : Nat))) [SV.int IntKind.i64 (1024 :
    Int)] ((if (4 : Nat) = (1 : Nat) then fun x => [SV.int IntKind.i64 (0 : Int)] else fun i' => mergeL (decide (i' = (0 : Nat))) [SV.int IntKind.i64 (0 : Int)] ((fun
    (x : List SV) => SV.int IntKind.i64 (0 : Int) :: x) [])) i')) i')) i'))] = false → True ∧ True ∧ true = false ∧ True)) ∧ ((bldE (W (k.tmod (6 : Int))) (W (W n +
    (1 : Int))) == (0 : Int)) = false → True ∧ True ∧ true = false ∧ True))) ∧ ((W (k.tmod (6 : Int)) == (0 : Int)) = false → True ∧ ((W (k.tmod (6 : Int)) == (1 : Int))
    = true → W (W n + (1 : Int)) ≠ (0 : Int) ∧ True ∧ ((bldE (W (k.tmod (6 : Int))) (W (W n + (1 : Int))) == (0 : Int)) = true → (t16 ∧ t16 ∧ True) ∧ (((∀ (i : Nat),
    i < (16 : Nat) → true = true ∧ True) ∧ ∀ (i : Nat), i < (16 : Nat) → true = true ∧ True) ∧ okF { low := rr (bldS (W (k.tmod (6 : Int))) { low := rr (fillS (1 : Int)).low, high := rr (fillS (1 : Int)).high : Fr } { low := rr (fillS (2 : Int)).low, high := rr (fillS (2 : Int)).high : Fr } ((W s).tmod (W (W (W n + (1 : Int)) + (1 : Int)))) (W (W n + (1 : Int)))).low, high := rr (bldS (W (k.tmod (6 : Int))) { low := rr (fillS (1 : Int)).low, high := rr (fillS (1 : Int)).high : Fr } { low := rr (fillS (2 : Int)).low, high := rr (fillS (2 : Int)).high : Fr } ((W s).tmod (W (W (W n + (1 : Int)) + (1 : Int)))) (W (W n + (1 : Int)))).high : Fr })
    ∧ (((∀ (i : Nat), i < (4 : Nat) → true = true) ∧ True) ∧ (∀ (i : Nat), i < (4 : Nat) → true = true) ∧ True) ∧ (eqSegs [Seg.a (4 : Nat) (1 : Nat) fun j => [SV.int
    IntKind.i64 ((cntS { low := rr (bldS (W (k.tmod (6 : Int))) { low := rr (fillS (1 : Int)).low, high := rr (fillS (1 : Int)).high : Fr } { low := rr (fillS (2 : Int)).low, high := rr (fillS (2 : Int)).high : Fr } ((W s).tmod (W (W (W n + (1 : Int)) + (1 : Int)))) (W (W n + (1 : Int)))).low, high := rr (bldS (W (k.tmod (6 : Int))) { low := rr (fillS (1 : Int)).low, high := rr (fillS (1 : Int)).high : Fr } { low := rr (fillS (2 : Int)).low, high := rr (fillS (2 : Int)).high : Fr } ((W s).tmod (W (W (W n + (1 : Int)) + (1 : Int)))) (W (W n + (1 : Int)))).high : Fr }).getD
    j (0 : Int))]] [Seg.a (4 : Nat) (1 : Nat) (if (4 : Nat) = (1 : Nat) then fun x => [SV.int IntKind.i64 (0 : Int)] else fun i' => mergeL (decide (i' = (3 : Nat)))
    [SV.int IntKind.i64 (0 : Int)] ((if (4 : Nat) = (1 : Nat) then fun x => [SV.int IntKind.i64 (W ((16 : Int) * W ((W ((64 : Int) * (W s).tmod (W (W (W n + (1 : Int))
    + (1 : Int))))).tdiv (W (W n + (1 : Int))))))] else fun i' => mergeL (decide (i' = (2 : Nat))) [SV.int IntKind.i64 (W ((16 : Int) * W ((W ((64 : Int) * (W s).tmod
    (W (W (W n + (1 : Int)) + (1 : Int))))).tdiv (W (W n + (1 : Int))))))] ((if (4 : Nat) = (1 : Nat) then fun x => [SV.int IntKind.i64 (W ((1024 : Int) - W ((16 : Int)
    * W ((W ((64 : Int) * (W s).tmod (W (W (W n + (1 : Int)) + (1 : Int))))).tdiv (W (W n + (1 : Int)))))))] else fun i' => mergeL (decide (i' = (1 : Nat))) [SV.int
    IntKind.i64 (W ((1024 : Int) - W ((16 : Int) * W ((W ((64 : Int) * (W s).tmod (W (W (W n + (1 : Int)) + (1 : Int))))).tdiv (W (W n + (1 : Int)))))))] ((if (4 : Nat)
    = (1 : Nat) then fun x => [SV.int IntKind.i64 (0 : Int)] else fun i' => mergeL (decide (i' = (0 : Nat))) [SV.int IntKind.i64 (0 : Int)] ((fun (x : List SV) => SV.int
    IntKind.i64 (0 : Int) :: x) [])) i')) i')) i'))] = true → (True ∧ True) ∧ True ∧ True ∧ true = true ∧ True) ∧ (eqSegs [Seg.a (4 : Nat) (1 : Nat) fun j => [SV.int
    IntKind.i64 ((cntS { low := rr (bldS (W (k.tmod (6 : Int))) { low := rr (fillS (1 : Int)).low, high := rr (fillS (1 : Int)).high : Fr } { low := rr (fillS (2 : Int)).low, high := rr (fillS (2 : Int)).high : Fr } ((W s).tmod (W (W (W n + (1 : Int)) + (1 : Int)))) (W (W n + (1 : Int)))).low, high := rr (bldS (W (k.tmod (6 : Int))) { low := rr (fillS (1 : Int)).low, high := rr (fillS (1 : Int)).high : Fr } { low := rr (fillS (2 : Int)).low, high := rr (fillS (2 : Int)).high : Fr } ((W s).tmod (W (W (W n + (1 : Int)) + (1 : Int)))) (W (W n + (1 : Int)))).high : Fr }).getD
    j (0 : Int))]] [Seg.a (4 : Nat) (1 : Nat) (if (4 : Nat) = (1 : Nat) then fun x => [SV.int IntKind.i64 (0 : Int)] else fun i' => mergeL (decide (i' = (3 : Nat)))
    [SV.int IntKind.i64 (0 : Int)] ((if (4 : Nat) = (1 : Nat) then fun x => [SV.int IntKind.i64 (W ((16 : Int) * W ((W ((64 : Int) * (W s).tmod (W (W (W n + (1 : Int))
    + (1 : Int))))).tdiv (W (W n + (1 : Int))))))] else fun i' => mergeL (decide (i' = (2 : Nat))) [SV.int IntKind.i64 (W ((16 : Int) * W ((W ((64 : Int) * (W s).tmod
    (W (W (W n + (1 : Int)) + (1 : Int))))).tdiv (W (W n + (1 : Int))))))] ((if (4 : Nat) = (1 : Nat) then fun x => [SV.int IntKind.i64 (W ((1024 : Int) - W ((16 : Int)
    * W ((W ((64 : Int) * (W s).tmod (W (W (W n + (1 : Int)) + (1 : Int))))).tdiv (W (W n + (1 : Int)))))))] else fun i' => mergeL (decide (i' = (1 : Nat))) [SV.int
    IntKind.i64 (W ((1024 : Int) - W ((16 : Int) * W ((W ((64 : Int) * (W s).tmod (W (W (W n + (1 : Int)) + (1 : Int))))).tdiv (W (W n + (1 : Int)))))))] ((if (4 : Nat)
    = (1 : Nat) then fun x => [SV.int IntKind.i64 (0 : Int)] else fun i' => mergeL (decide (i' = (0 : Nat))) [SV.int IntKind.i64 (0 : Int)] ((fun (x : List SV) => SV.int
    IntKind.i64 (0 : Int) :: x) [])) i')) i')) i'))] = false → True ∧ True ∧ true = false ∧ True)) ∧ ((bldE (W (k.tmod (6 : Int))) (W (W n + (1 : Int))) == (0 : Int))
    = false → True ∧ True ∧ true = false ∧ True)) ∧ ((W (k.tmod (6 : Int)) == (1 : Int)) = false → True ∧ ((W (k.tmod (6 : Int)) == (5 : Int)) = true → W (W n + (1 :
    Int)) ≠ (0 : Int) ∧ True ∧ ((bldE (W (k.tmod (6 : Int))) (W (W n + (1 : Int))) == (0 : Int)) = true → (t16 ∧ t16 ∧ True) ∧ (((∀ (i : Nat), i < (16 : Nat) → true
    = true ∧ True) ∧ ∀ (i : Nat), i < (16 : Nat) → true = true ∧ True) ∧ okF { low := rr (bldS (W (k.tmod (6 : Int))) { low := rr (fillS (1 : Int)).low, high := rr (fillS (1 : Int)).high : Fr } { low := rr (fillS (2 : Int)).low, high := rr (fillS (2 : Int)).high : Fr } ((W s).tmod (W (W (W n + (1 : Int)) + (1 : Int)))) (W (W n + (1 : Int)))).low, high := rr (bldS (W (k.tmod (6 : Int))) { low := rr (fillS (1 : Int)).low, high := rr (fillS (1 : Int)).high : Fr } { low := rr (fillS (2 : Int)).low, high := rr (fillS (2 : Int)).high : Fr } ((W s).tmod (W (W (W n + (1 : Int)) + (1 : Int)))) (W (W n + (1 : Int)))).high : Fr })
    ∧ (((∀ (i : Nat), i < (4 : Nat) → true = true) ∧ True) ∧ (∀ (i : Nat), i < (4 : Nat) → true = true) ∧ True) ∧ (eqSegs [Seg.a (4 : Nat) (1 : Nat) fun j => [SV.int
    IntKind.i64 ((cntS { low := rr (bldS (W (k.tmod (6 : Int))) { low := rr (fillS (1 : Int)).low, high := rr (fillS (1 : Int)).high : Fr } { low := rr (fillS (2 : Int)).low, high := rr (fillS (2 : Int)).high : Fr } ((W s).tmod (W (W (W n + (1 : Int)) + (1 : Int)))) (W (W n + (1 : Int)))).low, high := rr (bldS (W (k.tmod (6 : Int))) { low := rr (fillS (1 : Int)).low, high := rr (fillS (1 : Int)).high : Fr } { low := rr (fillS (2 : Int)).low, high := rr (fillS (2 : Int)).high : Fr } ((W s).tmod (W (W (W n + (1 : Int)) + (1 : Int)))) (W (W n + (1 : Int)))).high : Fr }).getD
    j (0 : Int))]] [Seg.a (4 : Nat) (1 : Nat) (if (4 : Nat) = (1 : Nat) then fun x => [SV.int IntKind.i64 (0 : Int)] else fun i' => mergeL (decide (i' = (3 : Nat)))
    [SV.int IntKind.i64 (0 : Int)] ((if (4 : Nat) = (1 : Nat) then fun x => [SV.int IntKind.i64 (W ((16 : Int) * W ((W ((64 : Int) * (W s).tmod (W (W (W n + (1 : Int))
    + (1 : Int))))).tdiv (W (W n + (1 : Int))))))] else fun i' => mergeL (decide (i' = (2 : Nat))) [SV.int IntKind.i64 (W ((16 : Int) * W ((W ((64 : Int) * (W s).tmod
    (W (W (W n + (1 : Int)) + (1 : Int))))).tdiv (W (W n + (1 : Int))))))] ((if (4 : Nat) = (1 : Nat) then fun x => [SV.int IntKind.i64 (W ((1024 : Int) - W ((16 : Int)
    * W ((W ((64 : Int) * (W s).tmod (W (W (W n + (1 : Int)) + (1 : Int))))).tdiv (W (W n + (1 : Int)))))))] else fun i' => mergeL (decide (i' = (1 : Nat))) [SV.int
    IntKind.i64 (W ((1024 : Int) - W ((16 : Int) * W ((W ((64 : Int) * (W s).tmod (W (W (W n + (1 : Int)) + (1 : Int))))).tdiv (W (W n + (1 : Int)))))))] ((if (4 : Nat)
    = (1 : Nat) then fun x => [SV.int IntKind.i64 (0 : Int)] else fun i' => mergeL (decide (i' = (0 : Nat))) [SV.int IntKind.i64 (0 : Int)] ((fun (x : List SV) => SV.int
    IntKind.i64 (0 : Int) :: x) [])) i')) i')) i'))] = true → (True ∧ True) ∧ True ∧ True ∧ true = true ∧ True) ∧ (eqSegs [Seg.a (4 : Nat) (1 : Nat) fun j => [SV.int
    IntKind.i64 ((cntS { low := rr (bldS (W (k.tmod (6 : Int))) { low := rr (fillS (1 : Int)).low, high := rr (fillS (1 : Int)).high : Fr } { low := rr (fillS (2 : Int)).low, high := rr (fillS (2 : Int)).high : Fr } ((W s).tmod (W (W (W n + (1 : Int)) + (1 : Int)))) (W (W n + (1 : Int)))).low, high := rr (bldS (W (k.tmod (6 : Int))) { low := rr (fillS (1 : Int)).low, high := rr (fillS (1 : Int)).high : Fr } { low := rr (fillS (2 : Int)).low, high := rr (fillS (2 : Int)).high : Fr } ((W s).tmod (W (W (W n + (1 : Int)) + (1 : Int)))) (W (W n + (1 : Int)))).high : Fr }).getD
    j (0 : Int))]] [Seg.a (4 : Nat) (1 : Nat) (if (4 : Nat) = (1 : Nat) then fun x => [SV.int IntKind.i64 (0 : Int)] else fun i' => mergeL (decide (i' = (3 : Nat)))
    [SV.int IntKind.i64 (0 : Int)] ((if (4 : Nat) = (1 : Nat) then fun x => [SV.int IntKind.i64 (W ((16 : Int) * W ((W ((64 : Int) * (W s).tmod (W (W (W n + (1 : Int))
    + (1 : Int))))).tdiv (W (W n + (1 : Int))))))] else fun i' => mergeL (decide (i' = (2 : Nat))) [SV.int IntKind.i64 (W ((16 : Int) * W ((W ((64 : Int) * (W s).tmod
    (W (W (W n + (1 : Int)) + (1 : Int))))).tdiv (W (W n + (1 : Int))))))] ((if (4 : Nat) = (1 : Nat) then fun x => [SV.int IntKind.i64 (W ((1024 : Int) - W ((16 : Int)
    * W ((W ((64 : Int) * (W s).tmod (W (W (W n + (1 : Int)) + (1 : Int))))).tdiv (W (W n + (1 : Int)))))))] else fun i' => mergeL (decide (i' = (1 : Nat))) [SV.int
    IntKind.i64 (W ((1024 : Int) - W ((16 : Int) * W ((W ((64 : Int) * (W s).tmod (W (W (W n + (1 : Int)) + (1 : Int))))).tdiv (W (W n + (1 : Int)))))))] ((if (4 : Nat)
    = (1 : Nat) then fun x => [SV.int IntKind.i64 (0 : Int)] else fun i' => mergeL (decide (i' = (0 : Nat))) [SV.int IntKind.i64 (0 : Int)] ((fun (x : List SV) => SV.int
    IntKind.i64 (0 : Int) :: x) [])) i')) i')) i'))] = false → True ∧ True ∧ true = false ∧ True)) ∧ ((bldE (W (k.tmod (6 : Int))) (W (W n + (1 : Int))) == (0 : Int))
    = false → True ∧ True ∧ true = false ∧ True)) ∧ ((W (k.tmod (6 : Int)) == (5 : Int)) = false → True ∧ ((W (k.tmod (6 : Int)) == (2 : Int)) = true → W (W n + (1 :
    Int)) ≠ (0 : Int) ∧ True ∧ ((bldE (W (k.tmod (6 : Int))) (W (W n + (1 : Int))) == (0 : Int)) = true → (t16 ∧ t16 ∧ True) ∧ (((∀ (i : Nat), i < (16 : Nat) → true
    = true ∧ True) ∧ ∀ (i : Nat), i < (16 : Nat) → true = true ∧ True) ∧ okF { low := rr (bldS (W (k.tmod (6 : Int))) { low := rr (fillS (1 : Int)).low, high := rr (fillS (1 : Int)).high : Fr } { low := rr (fillS (2 : Int)).low, high := rr (fillS (2 : Int)).high : Fr } ((W s).tmod (W (W (W n + (1 : Int)) + (1 : Int)))) (W (W n + (1 : Int)))).low, high := rr (bldS (W (k.tmod (6 : Int))) { low := rr (fillS (1 : Int)).low, high := rr (fillS (1 : Int)).high : Fr } { low := rr (fillS (2 : Int)).low, high := rr (fillS (2 : Int)).high : Fr } ((W s).tmod (W (W (W n + (1 : Int)) + (1 : Int)))) (W (W n + (1 : Int)))).high : Fr })
    ∧ (((∀ (i : Nat), i < (4 : Nat) → true = true) ∧ True) ∧ (∀ (i : Nat), i < (4 : Nat) → true = true) ∧ True) ∧ (eqSegs [Seg.a (4 : Nat) (1 : Nat) fun j => [SV.int
    IntKind.i64 ((cntS { low := rr (bldS (W (k.tmod (6 : Int))) { low := rr (fillS (1 : Int)).low, high := rr (fillS (1 : Int)).high : Fr } { low := rr (fillS (2 : Int)).low, high := rr (fillS (2 : Int)).high : Fr } ((W s).tmod (W (W (W n + (1 : Int)) + (1 : Int)))) (W (W n + (1 : Int)))).low, high := rr (bldS (W (k.tmod (6 : Int))) { low := rr (fillS (1 : Int)).low, high := rr (fillS (1 : Int)).high : Fr } { low := rr (fillS (2 : Int)).low, high := rr (fillS (2 : Int)).high : Fr } ((W s).tmod (W (W (W n + (1 : Int)) + (1 : Int)))) (W (W n + (1 : Int)))).high : Fr }).getD
    j (0 : Int))]] [Seg.a (4 : Nat) (1 : Nat) (if (4 : Nat) = (1 : Nat) then fun x => [SV.int IntKind.i64 (0 : Int)] else fun i' => mergeL (decide (i' = (3 : Nat)))
    [SV.int IntKind.i64 (0 : Int)] ((if (4 : Nat) = (1 : Nat) then fun x => [SV.int IntKind.i64 (W ((64 : Int) * W ((W ((16 : Int) * (W s).tmod (W (W (W n + (1 : Int))
    + (1 : Int))))).tdiv (W (W n + (1 : Int))))))] else fun i' => mergeL (decide (i' = (2 : Nat))) [SV.int IntKind.i64 (W ((64 : Int) * W ((W ((16 : Int) * (W s).tmod
    (W (W (W n + (1 : Int)) + (1 : Int))))).tdiv (W (W n + (1 : Int))))))] ((if (4 : Nat) = (1 : Nat) then fun x => [SV.int IntKind.i64 (W ((1024 : Int) - W ((64 : Int)
    * W ((W ((16 : Int) * (W s).tmod (W (W (W n + (1 : Int)) + (1 : Int))))).tdiv (W (W n + (1 : Int)))))))] else fun i' => mergeL (decide (i' = (1 : Nat))) [SV.int
    IntKind.i64 (W ((1024 : Int) - W ((64 : Int) * W ((W ((16 : Int) * (W s).tmod (W (W (W n + (1 : Int)) + (1 : Int))))).tdiv (W (W n + (1 : Int)))))))] ((if (4 : Nat)
    = (1 : Nat) then fun x => [SV.int IntKind.i64 (0 : Int)] else fun i' => mergeL (decide (i' = (0 : Nat))) [SV.int IntKind.i64 (0 : Int)] ((fun (x : List SV) => SV.int
    IntKind.i64 (0 : Int) :: x) [])) i')) i')) i'))] = true → (True ∧ True) ∧ True ∧ True ∧ true = true ∧ True) ∧ (eqSegs [Seg.a (4 : Nat) (1 : Nat) fun j => [SV.int
    IntKind.i64 ((cntS { low := rr (bldS (W (k.tmod (6 : Int))) { low := rr (fillS (1 : Int)).low, high := rr (fillS (1 : Int)).high : Fr } { low := rr (fillS (2 : Int)).low, high := rr (fillS (2 : Int)).high : Fr } ((W s).tmod (W (W (W n + (1 : Int)) + (1 : Int)))) (W (W n + (1 : Int)))).low, high := rr (bldS (W (k.tmod (6 : Int))) { low := rr (fillS (1 : Int)).low, high := rr (fillS (1 : Int)).high : Fr } { low := rr (fillS (2 : Int)).low, high := rr (fillS (2 : Int)).high : Fr } ((W s).tmod (W (W (W n + (1 : Int)) + (1 : Int)))) (W (W n + (1 : Int)))).high : Fr }).getD
    j (0 : Int))]] [Seg.a (4 : Nat) (1 : Nat) (if (4 : Nat) = (1 : Nat) then fun x => [SV.int IntKind.i64 (0 : Int)] else fun i' => mergeL (decide (i' = (3 : Nat)))
    [SV.int IntKind.i64 (0 : Int)] ((if (4 : Nat) = (1 : Nat) then fun x => [SV.int IntKind.i64 (W ((64 : Int) * W ((W ((16 : Int) * (W s).tmod (W (W (W n + (1 : Int))
    + (1 : Int))))).tdiv (W (W n + (1 : Int))))))] else fun i' => mergeL (decide (i' = (2 : Nat))) [SV.int IntKind.i64 (W ((64 : Int) * W ((W ((16 : Int) * (W s).tmod
    (W (W (W n + (1 : Int)) + (1 : Int))))).tdiv (W (W n + (1 : Int))))))] ((if (4 : Nat) = (1 : Nat) then fun x => [SV.int IntKind.i64 (W ((1024 : Int) - W ((64 : Int)
    * W ((W ((16 : Int) * (W s).tmod (W (W (W n + (1 : Int)) + (1 : Int))))).tdiv (W (W n + (1 : Int)))))))] else fun i' => mergeL (decide (i' = (1 : Nat))) [SV.int
    IntKind.i64 (W ((1024 : Int) - W ((64 : Int) * W ((W ((16 : Int) * (W s).tmod (W (W (W n + (1 : Int)) + (1 : Int))))).tdiv (W (W n + (1 : Int)))))))] ((if (4 : Nat)
    = (1 : Nat) then fun x => [SV.int IntKind.i64 (0 : Int)] else fun i' => mergeL (decide (i' = (0 : Nat))) [SV.int IntKind.i64 (0 : Int)] ((fun (x : List SV) => SV.int
    IntKind.i64 (0 : Int) :: x) [])) i')) i')) i'))] = false → True ∧ True ∧ true = false ∧ True)) ∧ ((bldE (W (k.tmod (6 : Int))) (W (W n + (1 : Int))) == (0 : Int))
    = false → True ∧ True ∧ true = false ∧ True)) ∧ ((W (k.tmod (6 : Int)) == (2 : Int)) = false → True ∧ ((W (k.tmod (6 : Int)) == (3 : Int)) = true → W (W n + (1 :
    Int)) ≠ (0 : Int) ∧ True ∧ ((bldE (W (k.tmod (6 : Int))) (W (W n + (1 : Int))) == (0 : Int)) = true → (t16 ∧ t16 ∧ True) ∧ (((∀ (i : Nat), i < (16 : Nat) → true
    = true ∧ True) ∧ ∀ (i : Nat), i < (16 : Nat) → true = true ∧ True) ∧ okF { low := rr (bldS (W (k.tmod (6 : Int))) { low := rr (fillS (1 : Int)).low, high := rr (fillS (1 : Int)).high : Fr } { low := rr (fillS (2 : Int)).low, high := rr (fillS (2 : Int)).high : Fr } ((W s).tmod (W (W (W n + (1 : Int)) + (1 : Int)))) (W (W n + (1 : Int)))).low, high := rr (bldS (W (k.tmod (6 : Int))) { low := rr (fillS (1 : Int)).low, high := rr (fillS (1 : Int)).high : Fr } { low := rr (fillS (2 : Int)).low, high := rr (fillS (2 : Int)).high : Fr } ((W s).tmod (W (W (W n + (1 : Int)) + (1 : Int)))) (W (W n + (1 : Int)))).high : Fr })
    ∧ (((∀ (i : Nat), i < (4 : Nat) → true = true) ∧ True) ∧ (∀ (i : Nat), i < (4 : Nat) → true = true) ∧ True) ∧ (eqSegs [Seg.a (4 : Nat) (1 : Nat) fun j => [SV.int
    IntKind.i64 ((cntS { low := rr (bldS (W (k.tmod (6 : Int))) { low := rr (fillS (1 : Int)).low, high := rr (fillS (1 : Int)).high : Fr } { low := rr (fillS (2 : Int)).low, high := rr (fillS (2 : Int)).high : Fr } ((W s).tmod (W (W (W n + (1 : Int)) + (1 : Int)))) (W (W n + (1 : Int)))).low, high := rr (bldS (W (k.tmod (6 : Int))) { low := rr (fillS (1 : Int)).low, high := rr (fillS (1 : Int)).high : Fr } { low := rr (fillS (2 : Int)).low, high := rr (fillS (2 : Int)).high : Fr } ((W s).tmod (W (W (W n + (1 : Int)) + (1 : Int)))) (W (W n + (1 : Int)))).high : Fr }).getD
    j (0 : Int))]] [Seg.a (4 : Nat) (1 : Nat) (if (4 : Nat) = (1 : Nat) then fun x => [SV.int IntKind.i64 (0 : Int)] else fun i' => mergeL (decide (i' = (3 : Nat)))
    [SV.int IntKind.i64 (0 : Int)] ((if (4 : Nat) = (1 : Nat) then fun x => [SV.int IntKind.i64 (W ((32 : Int) * W ((W ((32 : Int) * (W s).tmod (W (W (W n + (1 : Int))
    + (1 : Int))))).tdiv (W (W n + (1 : Int))))))] else fun i' => mergeL (decide (i' = (2 : Nat))) [SV.int IntKind.i64 (W ((32 : Int) * W ((W ((32 : Int) * (W s).tmod
    (W (W (W n + (1 : Int)) + (1 : Int))))).tdiv (W (W n + (1 : Int))))))] ((if (4 : Nat) = (1 : Nat) then fun x => [SV.int IntKind.i64 (W ((1024 : Int) - W ((32 : Int)
    * W ((W ((32 : Int) * (W s).tmod (W (W (W n + (1 : Int)) + (1 : Int))))).tdiv (W (W n + (1 : Int)))))))] else fun i' => mergeL (decide (i' = (1 : Nat))) [SV.int
    IntKind.i64 (W ((1024 : Int) - W ((32 : Int) * W ((W ((32 : Int) * (W s).tmod (W (W (W n + (1 : Int)) + (1 : Int))))).tdiv (W (W n + (1 : Int)))))))] ((if (4 : Nat)
    = (1 : Nat) then fun x => [SV.int IntKind.i64 (0 : Int)] else fun i' => mergeL (decide (i' = (0 : Nat))) [SV.int IntKind.i64 (0 : Int)] ((fun (x : List SV) => SV.int
    IntKind.i64 (0 : Int) :: x) [])) i')) i')) i'))] = true → (True ∧ True) ∧ True ∧ True ∧ true = true ∧ True) ∧ (eqSegs [Seg.a (4 : Nat) (1 : Nat) fun j => [SV.int
    IntKind.i64 ((cntS { low := rr (bldS (W (k.tmod (6 : Int))) { low := rr (fillS (1 : Int)).low, high := rr (fillS (1 : Int)).high : Fr } { low := rr (fillS (2 : Int)).low, high := rr (fillS (2 : Int)).high : Fr } ((W s).tmod (W (W (W n + (1 : Int)) + (1 : Int)))) (W (W n + (1 : Int)))).low, high := rr (bldS (W (k.tmod (6 : Int))) { low := rr (fillS (1 : Int)).low, high := rr (fillS (1 : Int)).high : Fr } { low := rr (fillS (2 : Int)).low, high := rr (fillS (2 : Int)).high : Fr } ((W s).tmod (W (W (W n + (1 : Int)) + (1 : Int)))) (W (W n + (1 : Int)))).high : Fr }).getD
    j (0 : Int))]] [Seg.a (4 : Nat) (1 : Nat) (if (4 : Nat) = (1 : Nat) then fun x => [SV.int IntKind.i64 (0 : Int)] else fun i' => mergeL (decide (i' = (3 : Nat)))
    [SV.int IntKind.i64 (0 : Int)] ((if (4 : Nat) = (1 : Nat) then fun x => [SV.int IntKind.i64 (W ((32 : Int) * W ((W ((32 : Int) * (W s).tmod (W (W (W n + (1 : Int))
    + (1 : Int))))).tdiv (W (W n + (1 : Int))))))] else fun i' => mergeL (decide (i' = (2 : Nat))) [SV.int IntKind.i64 (W ((32 : Int) * W ((W ((32 : Int) * (W s).tmod
    (W (W (W n + (1 : Int)) + (1 : Int))))).tdiv (W (W n + (1 : Int))))))] ((if (4 : Nat) = (1 : Nat) then fun x => [SV.int IntKind.i64 (W ((1024 : Int) - W ((32 : Int)
    * W ((W ((32 : Int) * (W s).tmod (W (W (W n + (1 : Int)) + (1 : Int))))).tdiv (W (W n + (1 : Int)))))))] else fun i' => mergeL (decide (i' = (1 : Nat))) [SV.int
    IntKind.i64 (W ((1024 : Int) - W ((32 : Int) * W ((W ((32 : Int) * (W s).tmod (W (W (W n + (1 : Int)) + (1 : Int))))).tdiv (W (W n + (1 : Int)))))))] ((if (4 : Nat)
    = (1 : Nat) then fun x => [SV.int IntKind.i64 (0 : Int)] else fun i' => mergeL (decide (i' = (0 : Nat))) [SV.int IntKind.i64 (0 : Int)] ((fun (x : List SV) => SV.int
    IntKind.i64 (0 : Int) :: x) [])) i')) i')) i'))] = false → True ∧ True ∧ true = false ∧ True)) ∧ ((bldE (W (k.tmod (6 : Int))) (W (W n + (1 : Int))) == (0 : Int))
    = false → True ∧ True ∧ true = false ∧ True)) ∧ ((W (k.tmod (6 : Int)) == (3 : Int)) = false → W (W n + (1 : Int)) ≠ (0 : Int) ∧ True ∧ ((bldE (W (k.tmod (6 : Int)))
    (W (W n + (1 : Int))) == (0 : Int)) = true → (t16 ∧ t16 ∧ True) ∧ (((∀ (i : Nat), i < (16 : Nat) → true = true ∧ True) ∧ ∀ (i : Nat), i < (16 : Nat) → true = true
    ∧ True) ∧ okF { low := rr (bldS (W (k.tmod (6 : Int))) { low := rr (fillS (1 : Int)).low, high := rr (fillS (1 : Int)).high : Fr } { low := rr (fillS (2 : Int)).low, high := rr (fillS (2 : Int)).high : Fr } ((W s).tmod (W (W (W n + (1 : Int)) + (1 : Int)))) (W (W n + (1 : Int)))).low, high := rr (bldS (W (k.tmod (6 : Int))) { low := rr (fillS (1 : Int)).low, high := rr (fillS (1 : Int)).high : Fr } { low := rr (fillS (2 : Int)).low, high := rr (fillS (2 : Int)).high : Fr } ((W s).tmod (W (W (W n + (1 : Int)) + (1 : Int)))) (W (W n + (1 : Int)))).high : Fr })
    ∧ (((∀ (i : Nat), i < (4 : Nat) → true = true) ∧ True) ∧ (∀ (i : Nat), i < (4 : Nat) → true = true) ∧ True) ∧ (eqSegs [Seg.a (4 : Nat) (1 : Nat) fun j => [SV.int
    IntKind.i64 ((cntS { low := rr (bldS (W (k.tmod (6 : Int))) { low := rr (fillS (1 : Int)).low, high := rr (fillS (1 : Int)).high : Fr } { low := rr (fillS (2 : Int)).low, high := rr (fillS (2 : Int)).high : Fr } ((W s).tmod (W (W (W n + (1 : Int)) + (1 : Int)))) (W (W n + (1 : Int)))).low, high := rr (bldS (W (k.tmod (6 : Int))) { low := rr (fillS (1 : Int)).low, high := rr (fillS (1 : Int)).high : Fr } { low := rr (fillS (2 : Int)).low, high := rr (fillS (2 : Int)).high : Fr } ((W s).tmod (W (W (W n + (1 : Int)) + (1 : Int)))) (W (W n + (1 : Int)))).high : Fr }).getD
    j (0 : Int))]] [Seg.a (4 : Nat) (1 : Nat) (if (4 : Nat) = (1 : Nat) then fun x => [SV.int IntKind.i64 (0 : Int)] else fun i' => mergeL (decide (i' = (3 : Nat)))
    [SV.int IntKind.i64 (0 : Int)] ((if (4 : Nat) = (1 : Nat) then fun x => [SV.int IntKind.i64 (W ((W ((1024 : Int) * (W s).tmod (W (W (W n + (1 : Int)) + (1 : Int))))).tdiv
    (W (W n + (1 : Int)))))] else fun i' => mergeL (decide (i' = (2 : Nat))) [SV.int IntKind.i64 (W ((W ((1024 : Int) * (W s).tmod (W (W (W n + (1 : Int)) + (1 : Int))))).tdiv
    (W (W n + (1 : Int)))))] ((if (4 : Nat) = (1 : Nat) then fun x => [SV.int IntKind.i64 (W ((1024 : Int) - W ((W ((1024 : Int) * (W s).tmod (W (W (W n + (1 : Int))
    + (1 : Int))))).tdiv (W (W n + (1 : Int))))))] else fun i' => mergeL (decide (i' = (1 : Nat))) [SV.int IntKind.i64 (W ((1024 : Int) - W ((W ((1024 : Int) * (W s).tmod
    (W (W (W n + (1 : Int)) + (1 : Int))))).tdiv (W (W n + (1 : Int))))))] ((if (4 : Nat) = (1 : Nat) then fun x => [SV.int IntKind.i64 (0 : Int)] else fun i' => mergeL
    (decide (i' = (0 : Nat))) [SV.int IntKind.i64 (0 : Int)] ((fun (x : List SV) => SV.int IntKind.i64 (0 : Int) :: x) [])) i')) i')) i'))] = true → (True ∧ True) ∧
    True ∧ True ∧ true = true ∧ True) ∧ (eqSegs [Seg.a (4 : Nat) (1 : Nat) fun j => [SV.int IntKind.i64 ((cntS { low := rr (bldS (W (k.tmod (6 : Int))) { low := rr (fillS (1 : Int)).low, high := rr (fillS (1 : Int)).high : Fr } { low := rr (fillS (2 : Int)).low, high := rr (fillS (2 : Int)).high : Fr } ((W s).tmod (W (W (W n + (1 : Int)) + (1 : Int)))) (W (W n + (1 : Int)))).low, high := rr (bldS (W (k.tmod (6 : Int))) { low := rr (fillS (1 : Int)).low, high := rr (fillS (1 : Int)).high : Fr } { low := rr (fillS (2 : Int)).low, high := rr (fillS (2 : Int)).high : Fr } ((W s).tmod (W (W (W n + (1 : Int)) + (1 : Int)))) (W (W n + (1 : Int)))).high : Fr }).getD
    j (0 : Int))]] [Seg.a (4 : Nat) (1 : Nat) (if (4 : Nat) = (1 : Nat) then fun x => [SV.int IntKind.i64 (0 : Int)] else fun i' => mergeL (decide (i' = (3 : Nat)))
    [SV.int IntKind.i64 (0 : Int)] ((if (4 : Nat) = (1 : Nat) then fun x => [SV.int IntKind.i64 (W ((W ((1024 : Int) * (W s).tmod (W (W (W n + (1 : Int)) + (1 : Int))))).tdiv
    (W (W n + (1 : Int)))))] else fun i' => mergeL (decide (i' = (2 : Nat))) [SV.int IntKind.i64 (W ((W ((1024 : Int) * (W s).tmod (W (W (W n + (1 : Int)) + (1 : Int))))).tdiv
    (W (W n + (1 : Int)))))] ((if (4 : Nat) = (1 : Nat) then fun x => [SV.int IntKind.i64 (W ((1024 : Int) - W ((W ((1024 : Int) * (W s).tmod (W (W (W n + (1 : Int))
    + (1 : Int))))).tdiv (W (W n + (1 : Int))))))] else fun i' => mergeL (decide (i' = (1 : Nat))) [SV.int IntKind.i64 (W ((1024 : Int) - W ((W ((1024 : Int) * (W s).tmod
    (W (W (W n + (1 : Int)) + (1 : Int))))).tdiv (W (W n + (1 : Int))))))] ((if (4 : Nat) = (1 : Nat) then fun x => [SV.int IntKind.i64 (0 : Int)] else fun i' => mergeL
    (decide (i' = (0 : Nat))) [SV.int IntKind.i64 (0 : Int)] ((fun (x : List SV) => SV.int IntKind.i64 (0 : Int) :: x) [])) i')) i')) i'))] = false → True ∧ True ∧ true
    = false ∧ True)) ∧ ((bldE (W (k.tmod (6 : Int))) (W (W n + (1 : Int))) == (0 : Int)) = false → True ∧ True ∧ true = false ∧ True))))))) = vc7 k s n := by kernel_rfl
theorem eqC_4 (a b : Int) : eqSegs [Seg.a 4 1 fun j => [SV.int IntKind.i64 ([0, a, b, 0].getD j 0)]] [Seg.a 4 1 fun i' => mergeL (decide (i' = 3)) [SV.int IntKind.i64 0]
    (mergeL (decide (i' = 2)) [SV.int IntKind.i64 b] (mergeL (decide (i' = 1)) [SV.int IntKind.i64 a] (mergeL (decide (i' = 0)) [SV.int IntKind.i64 0] [SV.int IntKind.i64 0])))] = true := by
  have e : eqSegs [Seg.a 4 1 fun j => [SV.int IntKind.i64 ([0, a, b, 0].getD j 0)]] [Seg.a 4 1 fun i' => mergeL (decide (i' = 3)) [SV.int IntKind.i64 0]
    (mergeL (decide (i' = 2)) [SV.int IntKind.i64 b] (mergeL (decide (i' = 1)) [SV.int IntKind.i64 a] (mergeL (decide (i' = 0)) [SV.int IntKind.i64 0] [SV.int IntKind.i64 0])))] = (((((0 : Int) == 0) && true) && (((a == a) && true) && (((b == b) && true) && ((((0 : Int) == 0) && true) && true)))) && true) := by rfl
  rw [e]; simp
theorem v7 (k s n : Int) (k0 : 0 ≤ k) (k1 : k < 256) (s0 : 0 ≤ s) (s1 : s < 256) (n0 : 0 ≤ n) (n1 : n < 256) : vc7 k s n := by
  rw [← vc7_eq]
  have e1 : W (k.tmod 6) = k % 6 := by rw [Int.tmod_eq_emod_of_nonneg k0]; exact W_id (by omega) (by omega)
  have e2 : W (W n + 1) = n + 1 := by rw [W_id (n := n) (by omega) (by omega)]; exact W_id (by omega) (by omega)
  have e3 : W (n + 1 + 1) = n + 2 := by rw [W_id (by omega) (by omega)]; omega
  have e4 : (W s).tmod (n + 2) = s % (n + 2) := by rw [W_id (by omega) (by omega), Int.tmod_eq_emod_of_nonneg s0]
  have i0 := Int.emod_nonneg s (show n + 2 ≠ 0 by omega)
  have i1 := Int.emod_lt_of_pos s (show 0 < n + 2 by omega)
  have hk : 0 ≤ k % 6 ∧ k % 6 ≤ 5 := by omega
  have hb := bld_ok0 (n := n + 1) hk.1 hk.2 (by omega) (by omega)
  simp (maxDischargeDepth := 9) [-List.getD_eq_getElem?_getD, W_def, rr_def, fr_eta, zero_mk, rrF, eqF_def, eqFr_iff, ok_bld, ok_fill, e1, e2, e3, e4, hb]
  generalize s % (n + 2) = i at *
  generalize k % 6 = kk at *
  have hn := cnt_new hk.1 hk.2 (show 1 ≤ n + 1 by omega) (show n + 1 ≤ 10000 by omega) i0 (show i ≤ n + 1 by omega)
  simp only [fr7] at hn
  have dv2 := fun m (h0 : 0 ≤ m) (h1 : m ≤ 2000) => dv h0 h1 i0 (show i ≤ n + 1 by omega) (show 1 ≤ n + 1 by omega) (show n + 1 ≤ 10000 by omega)
  have wb := want_bd hk.1 hk.2 (show 1 ≤ n + 1 by omega) (show n + 1 ≤ 10000 by omega) i0 (show i ≤ n + 1 by omega)
  rw [hn, dv2 64 (by omega) (by omega), dv2 16 (by omega) (by omega), dv2 32 (by omega) (by omega), dv2 1024 (by omega) (by omega)]
  have key : ∀ v, v = wantS kk i (n + 1) → W v = wantS kk i (n + 1) ∧ W (1024 - W v) = 1024 - wantS kk i (n + 1) := fun v hv => by
    rw [hv, W_id (n := wantS kk i (n + 1)) (by omega) (by omega)]; exact ⟨rfl, W_id (by omega) (by omega)⟩
  have fin : ∀ v, v = wantS kk i (n + 1) → eqSegs [Seg.a 4 1 fun j => [SV.int IntKind.i64 ([0, 1024 - wantS kk i (n + 1), wantS kk i (n + 1), 0].getD j 0)]] [Seg.a 4 1 fun i' => mergeL (decide (i' = 3)) [SV.int IntKind.i64 0]
      (mergeL (decide (i' = 2)) [SV.int IntKind.i64 (W v)] (mergeL (decide (i' = 1)) [SV.int IntKind.i64 (W (1024 - W v))] (mergeL (decide (i' = 0)) [SV.int IntKind.i64 0] [SV.int IntKind.i64 0])))] = true := fun v hv => by
    obtain ⟨h1, h2⟩ := key v hv
    rw [h2, h1]
    exact eqC_4 _ _
  refine ⟨by omega, fun h0 => ⟨fun h => ?_, fun h => ?_⟩, fun h0 => ⟨fun h1 => ⟨by omega, fin _ ?_⟩, fun h1 => ⟨fun h5 => ⟨by omega, fin _ ?_⟩, fun h5 => ⟨fun h2 => ⟨by omega, fin _ ?_⟩, fun h2 => ⟨fun h3 => ⟨by omega, fin _ ?_⟩, fun h3 => ⟨by omega, ?_⟩⟩⟩⟩⟩⟩
  · have : wantS kk i (n + 1) = 1024 := by simp only [wantS, if_pos h0, if_pos h]
    rw [this]; exact eqC_4 _ _
  · have : wantS kk i (n + 1) = 0 := by simp only [wantS, if_pos h0, if_neg h]
    rw [this]; exact eqC_4 _ _
  · simp [wantS, h1]
  · simp [wantS, h5]
  · simp [wantS, h2]
  · simp [wantS, h3]
  · have e : wantS kk i (n + 1) = 1024 * i / (n + 1) := by simp [wantS, h0, h1, h5, h2, h3]
    rw [← e, W_id (n := 1024 - wantS kk i (n + 1)) (by omega) (by omega)]
    exact eqC_4 _ _
end Go.Proofs.Do
