import Derived.Test.YtjmjndfdociiiaaDoI
namespace Go.Proofs.Do
set_option linter.unusedVariables false
set_option linter.unusedSimpArgs false
open Go Go.Sx Go.Proofs
set_option maxRecDepth 100000
-- SAME: sm
-- ABBR: (∀ (i : Nat), i < (16 : Nat) → true = true) ==> t16
-- ABBR: IntKind.i64.wrap ==> W
-- ROWS: rowL (codI IntKind.u64) (16 : Nat) fun j => [SV.int IntKind.u64 ( ==> .getD j (0 : Int) ==> rr
-- ABBR: [(0 : Int), (0 : Int), (0 : Int), (0 : Int), (0 : Int), (0 : Int), (0 : Int), (0 : Int), (0 : Int), (0 : Int), (0 : Int), (0 : Int), (0 : Int), (0 : Int), (0 : Int), (0 : Int)] ==> z16
noncomputable def vc4 (f : Fr) (d : Dot) (s : List UInt8) : Prop := cva T16 Try.f4 [] [encF f, encD d, .str s] (.bool true)
def A5 : List Ann := [⟨.unit, .int .i64 (.tm 7), fun _ (y : Int) => -1 ≤ y ∧ y ≤ 7, fun _ (y : Int) => (7 - y).toNat⟩]
noncomputable def vc5 (a b : Fr) (m : Mix) : Prop := cva T16 Try.f5 A5 [encF a, encF b, encM m] (.bool true)
def A8 : List Ann := [⟨.unit, .int .i64 (.tm 5), fun _ (y : Int) => 0 ≤ y ∧ y ≤ 16, fun _ (y : Int) => (16 - y).toNat⟩]
noncomputable def vc8 (f : Fr) : Prop := cva T16 Try.f8 A8 [encF f] (.bool true)
def A12 : List Ann := [⟨.unit, .int .i64 (.tm 8), fun _ (y : Int) => 0 ≤ y ∧ y ≤ 16, fun _ (y : Int) => (16 - y).toNat⟩, ⟨.int .i64 (.tm 8), .int .i64 (.tm 9), fun (y x : Int) => 0 ≤ x ∧ x ≤ 64, fun (y x : Int) => (64 - x).toNat⟩]
noncomputable def vc12 (f : Fr) (d : Dot) : Prop := cva T16 Try.f12 A12 [encF f, encD d] (.bool true)
theorem vc4_eq (f : Fr) (d : Dot) (s : List UInt8) : (True ∧ True ∧ (decide (↑s.length > (40 : Int)) = true → (True ∧ True) ∧ True ∧ True ∧ true = true ∧ True) ∧ (decide (↑s.length > (40 : Int)) = false → (100 : Int)
    ≠ (0 : Int) ∧ (30 : Int) ≠ (0 : Int) ∧ IsT true ∧ (t16 ∧ t16 ∧ True) ∧ True ∧ True ∧ True ∧ True ∧ ((((∀ (i : Nat), i < (16 : Nat) → true = true ∧ True) ∧ ∀ (i :
    Nat), i < (16 : Nat) → true = true ∧ True) ∧ True ∧ True ∧ True ∧ True) ∧ okF { low := rr f.low, high := rr f.high : Fr }) ∧ (t16 ∧ t16 ∧ True) ∧ True ∧ True ∧ True
    ∧ True ∧ ((((∀ (i : Nat), i < (16 : Nat) → true = true ∧ True) ∧ ∀ (i : Nat), i < (16 : Nat) → true = true ∧ True) ∧ True ∧ True ∧ True ∧ True) ∧ okF { low := rr f.low, high := rr f.high : Fr })
    ∧ ((t16 ∧ t16 ∧ True) ∧ t16 ∧ t16 ∧ True) ∧ (eqSegs [Seg.a (16 : Nat) (1 : Nat) fun j => [SV.int IntKind.u64 ((textS { low := rr f.low, high := rr f.high : Fr }
    d.x d.y s d.level).low.getD j (0 : Int))], Seg.a (16 : Nat) (1 : Nat) fun j => [SV.int IntKind.u64 ((textS { low := rr f.low, high := rr f.high : Fr } d.x d.y s
    d.level).high.getD j (0 : Int))]] [Seg.a (16 : Nat) (1 : Nat) fun j => [SV.int IntKind.u64 ((textS { low := rr f.low, high := rr f.high : Fr } d.x d.y s d.level).low.getD
    j (0 : Int))], Seg.a (16 : Nat) (1 : Nat) fun j => [SV.int IntKind.u64 ((textS { low := rr f.low, high := rr f.high : Fr } d.x d.y s d.level).high.getD j (0 : Int))]]
    = true → (t16 ∧ t16 ∧ True) ∧ True ∧ True ∧ True ∧ True ∧ ((((∀ (i : Nat), i < (16 : Nat) → true = true ∧ True) ∧ ∀ (i : Nat), i < (16 : Nat) → true = true ∧ True)
    ∧ True ∧ True ∧ True ∧ True) ∧ okF { low := rr f.low, high := rr f.high : Fr }) ∧ (t16 ∧ t16 ∧ True) ∧ True ∧ True ∧ True ∧ True ∧ ((((∀ (i : Nat), i < (16 : Nat)
    → true = true ∧ True) ∧ ∀ (i : Nat), i < (16 : Nat) → true = true ∧ True) ∧ True ∧ True ∧ True ∧ True) ∧ okF { low := rr f.low, high := rr f.high : Fr }) ∧ ((t16
    ∧ t16 ∧ True) ∧ t16 ∧ t16 ∧ True) ∧ (eqSegs [Seg.a (16 : Nat) (1 : Nat) fun j => [SV.int IntKind.u64 ((textS { low := rr f.low, high := rr f.high : Fr } (d.x.tmod
    (100 : Int)) (d.y.tmod (30 : Int)) s d.level).low.getD j (0 : Int))], Seg.a (16 : Nat) (1 : Nat) fun j => [SV.int IntKind.u64 ((textS { low := rr f.low, high := rr f.high : Fr }
    (d.x.tmod (100 : Int)) (d.y.tmod (30 : Int)) s d.level).high.getD j (0 : Int))]] [Seg.a (16 : Nat) (1 : Nat) fun j => [SV.int IntKind.u64 ((textS { low := rr f.low, high := rr f.high : Fr }
    (d.x.tmod (100 : Int)) (d.y.tmod (30 : Int)) s d.level).low.getD j (0 : Int))], Seg.a (16 : Nat) (1 : Nat) fun j => [SV.int IntKind.u64 ((textS { low := rr f.low, high := rr f.high : Fr }
    (d.x.tmod (100 : Int)) (d.y.tmod (30 : Int)) s d.level).high.getD j (0 : Int))]] = true → True ∧ (True ∧ s.length ≤ (1000000 : Nat)) ∧ True ∧ (True ∧ s.length ≤
    (1000000 : Nat)) ∧ ((widthS s == widthS s) = true → (True ∧ True) ∧ IsT true ∧ True ∧ true = true ∧ True) ∧ ((widthS s == widthS s) = false → IsT true ∧ True ∧ true
    = false ∧ True)) ∧ (eqSegs [Seg.a (16 : Nat) (1 : Nat) fun j => [SV.int IntKind.u64 ((textS { low := rr f.low, high := rr f.high : Fr } (d.x.tmod (100 : Int)) (d.y.tmod
    (30 : Int)) s d.level).low.getD j (0 : Int))], Seg.a (16 : Nat) (1 : Nat) fun j => [SV.int IntKind.u64 ((textS { low := rr f.low, high := rr f.high : Fr } (d.x.tmod
    (100 : Int)) (d.y.tmod (30 : Int)) s d.level).high.getD j (0 : Int))]] [Seg.a (16 : Nat) (1 : Nat) fun j => [SV.int IntKind.u64 ((textS { low := rr f.low, high := rr f.high : Fr }
    (d.x.tmod (100 : Int)) (d.y.tmod (30 : Int)) s d.level).low.getD j (0 : Int))], Seg.a (16 : Nat) (1 : Nat) fun j => [SV.int IntKind.u64 ((textS { low := rr f.low, high := rr f.high : Fr }
    (d.x.tmod (100 : Int)) (d.y.tmod (30 : Int)) s d.level).high.getD j (0 : Int))]] = false → IsT true ∧ True ∧ true = false ∧ True)) ∧ (eqSegs [Seg.a (16 : Nat) (1
    : Nat) fun j => [SV.int IntKind.u64 ((textS { low := rr f.low, high := rr f.high : Fr } d.x d.y s d.level).low.getD j (0 : Int))], Seg.a (16 : Nat) (1 : Nat) fun
    j => [SV.int IntKind.u64 ((textS { low := rr f.low, high := rr f.high : Fr } d.x d.y s d.level).high.getD j (0 : Int))]] [Seg.a (16 : Nat) (1 : Nat) fun j => [SV.int
    IntKind.u64 ((textS { low := rr f.low, high := rr f.high : Fr } d.x d.y s d.level).low.getD j (0 : Int))], Seg.a (16 : Nat) (1 : Nat) fun j => [SV.int IntKind.u64
    ((textS { low := rr f.low, high := rr f.high : Fr } d.x d.y s d.level).high.getD j (0 : Int))]] = false → IsT true ∧ True ∧ true = false ∧ True))) = vc4 f d s := by kernel_rfl
theorem vc5_eq (a b : Fr) (m : Mix) : (True ∧ True ∧ (((-1 : Int) ≤ (-1 : Int) ∧ (-1 : Int) ≤ (7 : Int)) ∧ (((sm ((16 : Nat)) ∧ sm ((1 : Nat)) ∧ ∀ (i : Nat), i < (16 : Nat) → sm (a.low.getD i (0 : Int))
    ∧ True) ∧ (sm ((16 : Nat)) ∧ sm ((1 : Nat)) ∧ ∀ (i : Nat), i < (16 : Nat) → sm (a.high.getD i (0 : Int)) ∧ True) ∧ True) ∧ ((sm ((16 : Nat)) ∧ sm ((1 : Nat)) ∧ ∀
    (i : Nat), i < (16 : Nat) → sm (b.low.getD i (0 : Int)) ∧ True) ∧ (sm ((16 : Nat)) ∧ sm ((1 : Nat)) ∧ ∀ (i : Nat), i < (16 : Nat) → sm (b.high.getD i (0 : Int))
    ∧ True) ∧ True) ∧ (m.kind = m.kind ∧ m.step = m.step ∧ m.n = m.n ∧ True) ∧ True ∧ True ∧ True ∧ True ∧ sm ((-1 : Int)) ∧ True ∧ True ∧ True ∧ True ∧ True ∧ True
    ∧ True ∧ True ∧ True ∧ True ∧ True ∧ True ∧ True ∧ True ∧ True ∧ True ∧ True ∧ True ∧ True ∧ True ∧ True ∧ True ∧ True ∧ True ∧ True ∧ True ∧ True ∧ True ∧ True
    ∧ True ∧ True ∧ True ∧ True ∧ True ∧ True ∧ True ∧ True ∧ True ∧ True ∧ True ∧ True ∧ True ∧ True ∧ True ∧ True ∧ True ∧ True ∧ True ∧ True ∧ True ∧ True ∧ True
    ∧ True ∧ True ∧ True ∧ True ∧ True ∧ True ∧ True ∧ True ∧ True ∧ True ∧ True ∧ True ∧ True ∧ True ∧ True ∧ True ∧ True ∧ True ∧ True ∧ True ∧ True ∧ True ∧ True
    ∧ True) ∧ ((if false = true then [] else List.map Seg.shape [Seg.a (16 : Nat) (1 : Nat) fun j => [SV.int IntKind.u64 (a.low.getD j (0 : Int))], Seg.a (16 : Nat)
    (1 : Nat) fun j => [SV.int IntKind.u64 (a.high.getD j (0 : Int))]]) = if false = true then [] else List.map Seg.shape [Seg.a (16 : Nat) (1 : Nat) fun j => [SV.int
    IntKind.u64 (a.low.getD j (0 : Int))], Seg.a (16 : Nat) (1 : Nat) fun j => [SV.int IntKind.u64 (a.high.getD j (0 : Int))]]) ∧ ((sm ((16 : Nat)) ∧ sm ((1 : Nat))
    ∧ ∀ (i : Nat), i < (16 : Nat) → sm (a.low.getD i (0 : Int)) ∧ True) ∧ (sm ((16 : Nat)) ∧ sm ((1 : Nat)) ∧ ∀ (i : Nat), i < (16 : Nat) → sm (a.high.getD i (0 : Int))
    ∧ True) ∧ True) ∧ ((if false = true then [] else List.map Seg.shape [Seg.a (16 : Nat) (1 : Nat) fun j => [SV.int IntKind.u64 (b.low.getD j (0 : Int))], Seg.a (16
    : Nat) (1 : Nat) fun j => [SV.int IntKind.u64 (b.high.getD j (0 : Int))]]) = if false = true then [] else List.map Seg.shape [Seg.a (16 : Nat) (1 : Nat) fun j =>
    [SV.int IntKind.u64 (b.low.getD j (0 : Int))], Seg.a (16 : Nat) (1 : Nat) fun j => [SV.int IntKind.u64 (b.high.getD j (0 : Int))]]) ∧ ((sm ((16 : Nat)) ∧ sm ((1
    : Nat)) ∧ ∀ (i : Nat), i < (16 : Nat) → sm (b.low.getD i (0 : Int)) ∧ True) ∧ (sm ((16 : Nat)) ∧ sm ((1 : Nat)) ∧ ∀ (i : Nat), i < (16 : Nat) → sm (b.high.getD i
    (0 : Int)) ∧ True) ∧ True) ∧ ((if false = true then [] else List.map Seg.shape [Seg.s (SV.int IntKind.i64 m.kind), Seg.s (SV.int IntKind.i64 m.step), Seg.s (SV.int
    IntKind.i64 m.n)]) = if false = true then [] else List.map Seg.shape [Seg.s (SV.int IntKind.i64 m.kind), Seg.s (SV.int IntKind.i64 m.step), Seg.s (SV.int IntKind.i64
    m.n)]) ∧ (m.kind = m.kind ∧ m.step = m.step ∧ m.n = m.n ∧ True) ∧ True) ∧ ∀ (n : Int), (-1 : Int) ≤ n ∧ n ≤ (7 : Int) → True ∧ (decide (n < (7 : Int)) = true → (20
    : Int) ≠ (0 : Int) ∧ True ∧ (t16 ∧ t16 ∧ True) ∧ (t16 ∧ t16 ∧ True) ∧ True ∧ True ∧ ((True ∧ ((∀ (i : Nat), i < (16 : Nat) → true = true ∧ True) ∧ ∀ (i : Nat), i
    < (16 : Nat) → true = true ∧ True) ∧ ((∀ (i : Nat), i < (16 : Nat) → true = true ∧ True) ∧ ∀ (i : Nat), i < (16 : Nat) → true = true ∧ True) ∧ True ∧ True) ∧ okF
    { low := rr a.low, high := rr a.high : Fr } ∧ okF { low := rr b.low, high := rr b.high : Fr }) ∧ t16 ∧ t16 ∧ True ∧ (20 : Int) ≠ (0 : Int) ∧ True ∧ (t16 ∧ t16 ∧
    True) ∧ (t16 ∧ t16 ∧ True) ∧ True ∧ True ∧ ((True ∧ ((∀ (i : Nat), i < (16 : Nat) → true = true ∧ True) ∧ ∀ (i : Nat), i < (16 : Nat) → true = true ∧ True) ∧ ((∀
    (i : Nat), i < (16 : Nat) → true = true ∧ True) ∧ ∀ (i : Nat), i < (16 : Nat) → true = true ∧ True) ∧ True ∧ True) ∧ okF { low := rr a.low, high := rr a.high : Fr }
    ∧ okF { low := rr b.low, high := rr b.high : Fr }) ∧ t16 ∧ t16 ∧ True ∧ ((t16 ∧ t16 ∧ True) ∧ t16 ∧ t16 ∧ True) ∧ ((!eqSegs [Seg.a (16 : Nat) ((0 : Nat) + (1 : Nat))
    fun j => [SV.int IntKind.u64 ((bldS n { low := rr a.low, high := rr a.high : Fr } { low := rr b.low, high := rr b.high : Fr } (m.step.tmod (20 : Int)) (13 : Int)).low.getD
    j (0 : Int))], Seg.a (16 : Nat) ((0 : Nat) + (1 : Nat)) fun j => [SV.int IntKind.u64 ((bldS n { low := rr a.low, high := rr a.high : Fr } { low := rr b.low, high := rr b.high : Fr }
    (m.step.tmod (20 : Int)) (13 : Int)).high.getD j (0 : Int))]] [Seg.a (16 : Nat) ((0 : Nat) + (1 : Nat)) fun j => [SV.int IntKind.u64 ((bldS n { low := rr a.low, high := rr a.high : Fr }
    { low := rr b.low, high := rr b.high : Fr } (m.step.tmod (20 : Int)) (13 : Int)).low.getD j (0 : Int))], Seg.a (16 : Nat) ((0 : Nat) + (1 : Nat)) fun j => [SV.int
    IntKind.u64 ((bldS n { low := rr a.low, high := rr a.high : Fr } { low := rr b.low, high := rr b.high : Fr } (m.step.tmod (20 : Int)) (13 : Int)).high.getD j (0
    : Int))]]) = true → True ∧ True ∧ True ∧ true = false ∧ True) ∧ ((!eqSegs [Seg.a (16 : Nat) ((0 : Nat) + (1 : Nat)) fun j => [SV.int IntKind.u64 ((bldS n { low := rr a.low, high := rr a.high : Fr }
    { low := rr b.low, high := rr b.high : Fr } (m.step.tmod (20 : Int)) (13 : Int)).low.getD j (0 : Int))], Seg.a (16 : Nat) ((0 : Nat) + (1 : Nat)) fun j => [SV.int
    IntKind.u64 ((bldS n { low := rr a.low, high := rr a.high : Fr } { low := rr b.low, high := rr b.high : Fr } (m.step.tmod (20 : Int)) (13 : Int)).high.getD j (0
    : Int))]] [Seg.a (16 : Nat) ((0 : Nat) + (1 : Nat)) fun j => [SV.int IntKind.u64 ((bldS n { low := rr a.low, high := rr a.high : Fr } { low := rr b.low, high := rr b.high : Fr }
    (m.step.tmod (20 : Int)) (13 : Int)).low.getD j (0 : Int))], Seg.a (16 : Nat) ((0 : Nat) + (1 : Nat)) fun j => [SV.int IntKind.u64 ((bldS n { low := rr a.low, high := rr a.high : Fr }
    { low := rr b.low, high := rr b.high : Fr } (m.step.tmod (20 : Int)) (13 : Int)).high.getD j (0 : Int))]]) = false → True ∧ ((bldE n (13 : Int) != bldE n (13 : Int))
    = true → True ∧ True ∧ true = false ∧ True) ∧ ((bldE n (13 : Int) != bldE n (13 : Int)) = false → True ∧ ((-1 : Int) ≤ W (n + (1 : Int)) ∧ W (n + (1 : Int)) ≤ (7
    : Int)) ∧ ((7 : Int) - W (n + (1 : Int))).toNat < ((7 : Int) - n).toNat ∧ (((sm ((16 : Nat)) ∧ sm ((1 : Nat)) ∧ ∀ (i : Nat), i < (16 : Nat) → sm (a.low.getD i (0
    : Int)) ∧ True) ∧ (sm ((16 : Nat)) ∧ sm ((1 : Nat)) ∧ ∀ (i : Nat), i < (16 : Nat) → sm (a.high.getD i (0 : Int)) ∧ True) ∧ True) ∧ ((sm ((16 : Nat)) ∧ sm ((1 : Nat))
    ∧ ∀ (i : Nat), i < (16 : Nat) → sm (b.low.getD i (0 : Int)) ∧ True) ∧ (sm ((16 : Nat)) ∧ sm ((1 : Nat)) ∧ ∀ (i : Nat), i < (16 : Nat) → sm (b.high.getD i (0 : Int))
    ∧ True) ∧ True) ∧ (m.kind = m.kind ∧ m.step = m.step ∧ m.n = m.n ∧ True) ∧ True ∧ True ∧ True ∧ True ∧ sm (W (n + (1 : Int))) ∧ True ∧ True ∧ True ∧ True ∧ True
    ∧ True ∧ True ∧ True ∧ True ∧ True ∧ True ∧ True ∧ True ∧ True ∧ True ∧ True ∧ True ∧ True ∧ True ∧ True ∧ True ∧ True ∧ True ∧ True ∧ True ∧ True ∧ True ∧ True
    ∧ True ∧ True ∧ True ∧ True ∧ True ∧ True ∧ True ∧ True ∧ True ∧ True ∧ True ∧ True ∧ True ∧ True ∧ True ∧ True ∧ True ∧ True ∧ True ∧ True ∧ True ∧ True ∧ True
    ∧ True ∧ True ∧ True ∧ True ∧ True ∧ True ∧ True ∧ True ∧ True ∧ True ∧ True ∧ True ∧ True ∧ True ∧ True ∧ True ∧ True ∧ True ∧ True ∧ True ∧ True ∧ True ∧ True
    ∧ True ∧ True) ∧ ((if false = true then [] else List.map Seg.shape [Seg.a (16 : Nat) (1 : Nat) fun j => [SV.int IntKind.u64 (a.low.getD j (0 : Int))], Seg.a (16
    : Nat) (1 : Nat) fun j => [SV.int IntKind.u64 (a.high.getD j (0 : Int))]]) = if false = true then [] else List.map Seg.shape [Seg.a (16 : Nat) (1 : Nat) fun j =>
    [SV.int IntKind.u64 (a.low.getD j (0 : Int))], Seg.a (16 : Nat) (1 : Nat) fun j => [SV.int IntKind.u64 (a.high.getD j (0 : Int))]]) ∧ ((sm ((16 : Nat)) ∧ sm ((1
    : Nat)) ∧ ∀ (i : Nat), i < (16 : Nat) → sm (a.low.getD i (0 : Int)) ∧ True) ∧ (sm ((16 : Nat)) ∧ sm ((1 : Nat)) ∧ ∀ (i : Nat), i < (16 : Nat) → sm (a.high.getD i
    (0 : Int)) ∧ True) ∧ True) ∧ ((if false = true then [] else List.map Seg.shape [Seg.a (16 : Nat) (1 : Nat) fun j => [SV.int IntKind.u64 (b.low.getD j (0 : Int))],
    Seg.a (16 : Nat) (1 : Nat) fun j => [SV.int IntKind.u64 (b.high.getD j (0 : Int))]]) = if false = true then [] else List.map Seg.shape [Seg.a (16 : Nat) (1 : Nat)
    fun j => [SV.int IntKind.u64 (b.low.getD j (0 : Int))], Seg.a (16 : Nat) (1 : Nat) fun j => [SV.int IntKind.u64 (b.high.getD j (0 : Int))]]) ∧ ((sm ((16 : Nat))
    ∧ sm ((1 : Nat)) ∧ ∀ (i : Nat), i < (16 : Nat) → sm (b.low.getD i (0 : Int)) ∧ True) ∧ (sm ((16 : Nat)) ∧ sm ((1 : Nat)) ∧ ∀ (i : Nat), i < (16 : Nat) → sm (b.high.getD
    i (0 : Int)) ∧ True) ∧ True) ∧ ((if false = true then [] else List.map Seg.shape [Seg.s (SV.int IntKind.i64 m.kind), Seg.s (SV.int IntKind.i64 m.step), Seg.s (SV.int
    IntKind.i64 m.n)]) = if false = true then [] else List.map Seg.shape [Seg.s (SV.int IntKind.i64 m.kind), Seg.s (SV.int IntKind.i64 m.step), Seg.s (SV.int IntKind.i64
    m.n)]) ∧ (m.kind = m.kind ∧ m.step = m.step ∧ m.n = m.n ∧ True) ∧ True))) ∧ (decide (n < (7 : Int)) = false → True ∧ (t16 ∧ t16 ∧ True) ∧ (t16 ∧ t16 ∧ True) ∧ True
    ∧ True ∧ ((True ∧ ((∀ (i : Nat), i < (16 : Nat) → true = true ∧ True) ∧ ∀ (i : Nat), i < (16 : Nat) → true = true ∧ True) ∧ ((∀ (i : Nat), i < (16 : Nat) → true
    = true ∧ True) ∧ ∀ (i : Nat), i < (16 : Nat) → true = true ∧ True) ∧ True ∧ True) ∧ okF { low := rr a.low, high := rr a.high : Fr } ∧ okF { low := rr b.low, high := rr b.high : Fr })
    ∧ t16 ∧ t16 ∧ True ∧ True ∧ (t16 ∧ t16 ∧ True) ∧ (t16 ∧ t16 ∧ True) ∧ True ∧ True ∧ ((True ∧ ((∀ (i : Nat), i < (16 : Nat) → true = true ∧ True) ∧ ∀ (i : Nat), i
    < (16 : Nat) → true = true ∧ True) ∧ ((∀ (i : Nat), i < (16 : Nat) → true = true ∧ True) ∧ ∀ (i : Nat), i < (16 : Nat) → true = true ∧ True) ∧ True ∧ True) ∧ okF
    { low := rr a.low, high := rr a.high : Fr } ∧ okF { low := rr b.low, high := rr b.high : Fr }) ∧ t16 ∧ t16 ∧ True ∧ ((t16 ∧ t16 ∧ True) ∧ t16 ∧ t16 ∧ True) ∧ (eqSegs
    [Seg.a (16 : Nat) ((0 : Nat) + (1 : Nat)) fun j => [SV.int IntKind.u64 ((bldS m.kind { low := rr a.low, high := rr a.high : Fr } { low := rr b.low, high := rr b.high : Fr }
    m.step m.n).low.getD j (0 : Int))], Seg.a (16 : Nat) ((0 : Nat) + (1 : Nat)) fun j => [SV.int IntKind.u64 ((bldS m.kind { low := rr a.low, high := rr a.high : Fr }
    { low := rr b.low, high := rr b.high : Fr } m.step m.n).high.getD j (0 : Int))]] [Seg.a (16 : Nat) ((0 : Nat) + (1 : Nat)) fun j => [SV.int IntKind.u64 ((bldS m.kind
    { low := rr a.low, high := rr a.high : Fr } { low := rr b.low, high := rr b.high : Fr } m.step m.n).low.getD j (0 : Int))], Seg.a (16 : Nat) ((0 : Nat) + (1 : Nat))
    fun j => [SV.int IntKind.u64 ((bldS m.kind { low := rr a.low, high := rr a.high : Fr } { low := rr b.low, high := rr b.high : Fr } m.step m.n).high.getD j (0 : Int))]]
    = true → ((bldE m.kind m.n == bldE m.kind m.n) = true → (True ∧ True) ∧ True ∧ True ∧ true = true ∧ True) ∧ ((bldE m.kind m.n == bldE m.kind m.n) = false → True
    ∧ True ∧ true = false ∧ True)) ∧ (eqSegs [Seg.a (16 : Nat) ((0 : Nat) + (1 : Nat)) fun j => [SV.int IntKind.u64 ((bldS m.kind { low := rr a.low, high := rr a.high : Fr }
    { low := rr b.low, high := rr b.high : Fr } m.step m.n).low.getD j (0 : Int))], Seg.a (16 : Nat) ((0 : Nat) + (1 : Nat)) fun j => [SV.int IntKind.u64 ((bldS m.kind
    { low := rr a.low, high := rr a.high : Fr } { low := rr b.low, high := rr b.high : Fr } m.step m.n).high.getD j (0 : Int))]] [Seg.a (16 : Nat) ((0 : Nat) + (1 :
    Nat)) fun j => [SV.int IntKind.u64 ((bldS m.kind { low := rr a.low, high := rr a.high : Fr } { low := rr b.low, high := rr b.high : Fr } m.step m.n).low.getD j (0
    : Int))], Seg.a (16 : Nat) ((0 : Nat) + (1 : Nat)) fun j => [SV.int IntKind.u64 ((bldS m.kind { low := rr a.low, high := rr a.high : Fr } { low := rr b.low, high := rr b.high : Fr }
    m.step m.n).high.getD j (0 : Int))]] = false → True ∧ True ∧ true = false ∧ True))) = vc5 a b m := by kernel_rfl
theorem vc8_eq (f : Fr) : (True ∧ (t16 ∧ t16 ∧ True) ∧ (((∀ (i : Nat), i < (16 : Nat) → true = true ∧ True) ∧ ∀ (i : Nat), i < (16 : Nat) → true = true ∧ True) ∧ okF { low := rr f.low, high := rr f.high : Fr })
    ∧ (t16 ∧ t16 ∧ True) ∧ (((∀ (i : Nat), i < (16 : Nat) → true = true ∧ True) ∧ ∀ (i : Nat), i < (16 : Nat) → true = true ∧ True) ∧ okF { low := rr f.low, high := rr f.high : Fr })
    ∧ IsT true ∧ True ∧ (bne (α := Int) ↑(rowsS { low := rr f.low, high := rr f.high : Fr }).length ↑(rowsS { low := rr f.low, high := rr f.high : Fr }).length = true
    → True ∧ True ∧ true = false ∧ True) ∧ (bne (α := Int) ↑(rowsS { low := rr f.low, high := rr f.high : Fr }).length ↑(rowsS { low := rr f.low, high := rr f.high : Fr }).length
    = false → True ∧ (((0 : Int) ≤ (0 : Int) ∧ (0 : Int) ≤ (16 : Int)) ∧ (((sm ((16 : Nat)) ∧ sm ((1 : Nat)) ∧ ∀ (i : Nat), i < (16 : Nat) → sm (f.low.getD i (0 : Int))
    ∧ True) ∧ (sm ((16 : Nat)) ∧ sm ((1 : Nat)) ∧ ∀ (i : Nat), i < (16 : Nat) → sm (f.high.getD i (0 : Int)) ∧ True) ∧ True) ∧ True ∧ True ∧ (sm ((rowsS { low := rr f.low, high := rr f.high : Fr }).length)
    ∧ ∀ (i : Nat), i < (rowsS { low := rr f.low, high := rr f.high : Fr }).length → sm ((rowsS { low := rr f.low, high := rr f.high : Fr }).getD i codS.dft) ∧ True)
    ∧ (sm ((rowsS { low := rr f.low, high := rr f.high : Fr }).length) ∧ ∀ (i : Nat), i < (rowsS { low := rr f.low, high := rr f.high : Fr }).length → sm ((rowsS { low := rr f.low, high := rr f.high : Fr }).getD
    i codS.dft) ∧ True) ∧ sm ((0 : Int)) ∧ ((sm ((16 : Nat)) ∧ sm ((0 : Nat) + (1 : Nat)) ∧ ∀ (i : Nat), i < (16 : Nat) → sm (f.low.getD i (0 : Int)) ∧ True) ∧ (sm ((16
    : Nat)) ∧ sm ((0 : Nat) + (1 : Nat)) ∧ ∀ (i : Nat), i < (16 : Nat) → sm (f.high.getD i (0 : Int)) ∧ True) ∧ True) ∧ (sm ((rowsS { low := rr f.low, high := rr f.high : Fr }).length)
    ∧ ∀ (i : Nat), i < (rowsS { low := rr f.low, high := rr f.high : Fr }).length → sm ((rowsS { low := rr f.low, high := rr f.high : Fr }).getD i codS.dft) ∧ True)
    ∧ ((sm ((16 : Nat)) ∧ sm ((0 : Nat) + (1 : Nat)) ∧ ∀ (i : Nat), i < (16 : Nat) → sm (f.low.getD i (0 : Int)) ∧ True) ∧ (sm ((16 : Nat)) ∧ sm ((0 : Nat) + (1 : Nat))
    ∧ ∀ (i : Nat), i < (16 : Nat) → sm (f.high.getD i (0 : Int)) ∧ True) ∧ True) ∧ (sm ((rowsS { low := rr f.low, high := rr f.high : Fr }).length) ∧ ∀ (i : Nat), i
    < (rowsS { low := rr f.low, high := rr f.high : Fr }).length → sm ((rowsS { low := rr f.low, high := rr f.high : Fr }).getD i codS.dft) ∧ True) ∧ (sm ((rowsS { low := rr f.low, high := rr f.high : Fr }).length)
    ∧ ∀ (i : Nat), i < (rowsS { low := rr f.low, high := rr f.high : Fr }).length → sm ((rowsS { low := rr f.low, high := rr f.high : Fr }).getD i codS.dft) ∧ True)
    ∧ Eq (α := Int) ↑(rowsS { low := rr f.low, high := rr f.high : Fr }).length ↑(rowsS { low := rr f.low, high := rr f.high : Fr }).length ∧ (sm ((rowsS { low := rr f.low, high := rr f.high : Fr }).length)
    ∧ ∀ (i : Nat), i < (rowsS { low := rr f.low, high := rr f.high : Fr }).length → sm ((rowsS { low := rr f.low, high := rr f.high : Fr }).getD i codS.dft) ∧ True)
    ∧ Eq (α := Int) ↑(rowsS { low := rr f.low, high := rr f.high : Fr }).length ↑(rowsS { low := rr f.low, high := rr f.high : Fr }).length ∧ True ∧ True ∧ True ∧ True
    ∧ True ∧ True ∧ True ∧ True ∧ True ∧ True ∧ True ∧ True ∧ True ∧ True ∧ True ∧ True ∧ True ∧ True) ∧ ((if false = true then [] else List.map Seg.shape [Seg.a (16
    : Nat) (1 : Nat) fun j => [SV.int IntKind.u64 (f.low.getD j (0 : Int))], Seg.a (16 : Nat) (1 : Nat) fun j => [SV.int IntKind.u64 (f.high.getD j (0 : Int))]]) = if
    false = true then [] else List.map Seg.shape [Seg.a (16 : Nat) (1 : Nat) fun j => [SV.int IntKind.u64 (f.low.getD j (0 : Int))], Seg.a (16 : Nat) (1 : Nat) fun j
    => [SV.int IntKind.u64 (f.high.getD j (0 : Int))]]) ∧ ((sm ((16 : Nat)) ∧ sm ((1 : Nat)) ∧ ∀ (i : Nat), i < (16 : Nat) → sm (f.low.getD i (0 : Int)) ∧ True) ∧ (sm
    ((16 : Nat)) ∧ sm ((1 : Nat)) ∧ ∀ (i : Nat), i < (16 : Nat) → sm (f.high.getD i (0 : Int)) ∧ True) ∧ True) ∧ True) ∧ ∀ (n : Int), (0 : Int) ≤ n ∧ n ≤ (16 : Int)
    → True ∧ (decide (n < ↑(rowsS { low := rr f.low, high := rr f.high : Fr }).length) = true → ((0 : Int) ≤ n ∧ n < ↑(rowsS { low := rr f.low, high := rr f.high : Fr }).length)
    ∧ ((0 : Int) ≤ n ∧ n < ↑(rowsS { low := rr f.low, high := rr f.high : Fr }).length) ∧ IsT true ∧ ((!(rowsS { low := rr f.low, high := rr f.high : Fr }).getD n.toNat
    codS.dft == (rowsS { low := rr f.low, high := rr f.high : Fr }).getD n.toNat codS.dft) = true → True ∧ True ∧ true = false ∧ True) ∧ ((!(rowsS { low := rr f.low, high := rr f.high : Fr }).getD
    n.toNat codS.dft == (rowsS { low := rr f.low, high := rr f.high : Fr }).getD n.toNat codS.dft) = false → True ∧ ((0 : Int) ≤ W (n + (1 : Int)) ∧ W (n + (1 : Int))
    ≤ (16 : Int)) ∧ ((16 : Int) - W (n + (1 : Int))).toNat < ((16 : Int) - n).toNat ∧ (((sm ((16 : Nat)) ∧ sm ((1 : Nat)) ∧ ∀ (i : Nat), i < (16 : Nat) → sm (f.low.getD
    i (0 : Int)) ∧ True) ∧ (sm ((16 : Nat)) ∧ sm ((1 : Nat)) ∧ ∀ (i : Nat), i < (16 : Nat) → sm (f.high.getD i (0 : Int)) ∧ True) ∧ True) ∧ True ∧ True ∧ (sm ((rowsS
    { low := rr f.low, high := rr f.high : Fr }).length) ∧ ∀ (i : Nat), i < (rowsS { low := rr f.low, high := rr f.high : Fr }).length → sm ((rowsS { low := rr f.low, high := rr f.high : Fr }).getD
    i codS.dft) ∧ True) ∧ (sm ((rowsS { low := rr f.low, high := rr f.high : Fr }).length) ∧ ∀ (i : Nat), i < (rowsS { low := rr f.low, high := rr f.high : Fr }).length
    → sm ((rowsS { low := rr f.low, high := rr f.high : Fr }).getD i codS.dft) ∧ True) ∧ sm (W (n + (1 : Int))) ∧ ((sm ((16 : Nat)) ∧ sm ((0 : Nat) + (1 : Nat)) ∧ ∀
    (i : Nat), i < (16 : Nat) → sm (f.low.getD i (0 : Int)) ∧ True) ∧ (sm ((16 : Nat)) ∧ sm ((0 : Nat) + (1 : Nat)) ∧ ∀ (i : Nat), i < (16 : Nat) → sm (f.high.getD i
    (0 : Int)) ∧ True) ∧ True) ∧ (sm ((rowsS { low := rr f.low, high := rr f.high : Fr }).length) ∧ ∀ (i : Nat), i < (rowsS { low := rr f.low, high := rr f.high : Fr }).length
    → sm ((rowsS { low := rr f.low, high := rr f.high : Fr }).getD i codS.dft) ∧ True) ∧ ((sm ((16 : Nat)) ∧ sm ((0 : Nat) + (1 : Nat)) ∧ ∀ (i : Nat), i < (16 : Nat)
    → sm (f.low.getD i (0 : Int)) ∧ True) ∧ (sm ((16 : Nat)) ∧ sm ((0 : Nat) + (1 : Nat)) ∧ ∀ (i : Nat), i < (16 : Nat) → sm (f.high.getD i (0 : Int)) ∧ True) ∧ True)
    ∧ (sm ((rowsS { low := rr f.low, high := rr f.high : Fr }).length) ∧ ∀ (i : Nat), i < (rowsS { low := rr f.low, high := rr f.high : Fr }).length → sm ((rowsS { low := rr f.low, high := rr f.high : Fr }).getD
    i codS.dft) ∧ True) ∧ (sm ((rowsS { low := rr f.low, high := rr f.high : Fr }).length) ∧ ∀ (i : Nat), i < (rowsS { low := rr f.low, high := rr f.high : Fr }).length
    → sm ((rowsS { low := rr f.low, high := rr f.high : Fr }).getD i codS.dft) ∧ True) ∧ Eq (α := Int) ↑(rowsS { low := rr f.low, high := rr f.high : Fr }).length ↑(rowsS
    { low := rr f.low, high := rr f.high : Fr }).length ∧ (sm ((rowsS { low := rr f.low, high := rr f.high : Fr }).length) ∧ ∀ (i : Nat), i < (rowsS { low := rr f.low, high := rr f.high : Fr }).length
    → sm ((rowsS { low := rr f.low, high := rr f.high : Fr }).getD i codS.dft) ∧ True) ∧ Eq (α := Int) ↑(rowsS { low := rr f.low, high := rr f.high : Fr }).length ↑(rowsS
    { low := rr f.low, high := rr f.high : Fr }).length ∧ True ∧ True ∧ True ∧ True ∧ True ∧ True ∧ True ∧ True ∧ True ∧ True ∧ True ∧ True ∧ True ∧ True ∧ True ∧ True
    ∧ True ∧ True) ∧ ((if false = true then [] else List.map Seg.shape [Seg.a (16 : Nat) (1 : Nat) fun j => [SV.int IntKind.u64 (f.low.getD j (0 : Int))], Seg.a (16
    : Nat) (1 : Nat) fun j => [SV.int IntKind.u64 (f.high.getD j (0 : Int))]]) = if false = true then [] else List.map Seg.shape [Seg.a (16 : Nat) (1 : Nat) fun j =>
    [SV.int IntKind.u64 (f.low.getD j (0 : Int))], Seg.a (16 : Nat) (1 : Nat) fun j => [SV.int IntKind.u64 (f.high.getD j (0 : Int))]]) ∧ ((sm ((16 : Nat)) ∧ sm ((1
    : Nat)) ∧ ∀ (i : Nat), i < (16 : Nat) → sm (f.low.getD i (0 : Int)) ∧ True) ∧ (sm ((16 : Nat)) ∧ sm ((1 : Nat)) ∧ ∀ (i : Nat), i < (16 : Nat) → sm (f.high.getD i
    (0 : Int)) ∧ True) ∧ True) ∧ True)) ∧ (decide (n < ↑(rowsS { low := rr f.low, high := rr f.high : Fr }).length) = false → (True ∧ True) ∧ True ∧ True ∧ true = true
    ∧ True))) = vc8 f := by kernel_rfl
theorem vc12_eq (f : Fr) (d : Dot) : (True ∧ (64 : Int) ≠ (0 : Int) ∧ (16 : Int) ≠ (0 : Int) ∧ IsT true ∧ (t16 ∧ t16 ∧ True) ∧ (((∀ (i : Nat), i < (16 : Nat) → true = true ∧ True) ∧ ∀ (i : Nat), i <
    (16 : Nat) → true = true ∧ True) ∧ okF { low := rr f.low, high := rr f.high : Fr }) ∧ (t16 ∧ t16 ∧ True) ∧ (((∀ (i : Nat), i < (16 : Nat) → true = true ∧ True) ∧
    ∀ (i : Nat), i < (16 : Nat) → true = true ∧ True) ∧ okF { low := rr (invS { low := rr f.low, high := rr f.high : Fr }).low, high := rr (invS { low := rr f.low, high := rr f.high : Fr }).high : Fr })
    ∧ ((t16 ∧ t16 ∧ True) ∧ t16 ∧ t16 ∧ True) ∧ IsT true ∧ ((!eqSegs [Seg.a (16 : Nat) (1 : Nat) fun j => [SV.int IntKind.u64 ((invS { low := rr (invS { low := rr f.low, high := rr f.high : Fr }).low, high := rr (invS { low := rr f.low, high := rr f.high : Fr }).high : Fr }).low.getD
    j (0 : Int))], Seg.a (16 : Nat) (1 : Nat) fun j => [SV.int IntKind.u64 ((invS { low := rr (invS { low := rr f.low, high := rr f.high : Fr }).low, high := rr (invS { low := rr f.low, high := rr f.high : Fr }).high : Fr }).high.getD
    j (0 : Int))]] [Seg.a (16 : Nat) ((0 : Nat) + (1 : Nat)) fun j => [SV.int IntKind.u64 (f.low.getD j (0 : Int))], Seg.a (16 : Nat) ((0 : Nat) + (1 : Nat)) fun j =>
    [SV.int IntKind.u64 (f.high.getD j (0 : Int))]]) = true → True ∧ True ∧ true = false ∧ True) ∧ ((!eqSegs [Seg.a (16 : Nat) (1 : Nat) fun j => [SV.int IntKind.u64
    ((invS { low := rr (invS { low := rr f.low, high := rr f.high : Fr }).low, high := rr (invS { low := rr f.low, high := rr f.high : Fr }).high : Fr }).low.getD j
    (0 : Int))], Seg.a (16 : Nat) (1 : Nat) fun j => [SV.int IntKind.u64 ((invS { low := rr (invS { low := rr f.low, high := rr f.high : Fr }).low, high := rr (invS { low := rr f.low, high := rr f.high : Fr }).high : Fr }).high.getD
    j (0 : Int))]] [Seg.a (16 : Nat) ((0 : Nat) + (1 : Nat)) fun j => [SV.int IntKind.u64 (f.low.getD j (0 : Int))], Seg.a (16 : Nat) ((0 : Nat) + (1 : Nat)) fun j =>
    [SV.int IntKind.u64 (f.high.getD j (0 : Int))]]) = false → (t16 ∧ t16 ∧ True) ∧ True ∧ True ∧ ((((∀ (i : Nat), i < (16 : Nat) → true = true ∧ True) ∧ ∀ (i : Nat),
    i < (16 : Nat) → true = true ∧ True) ∧ True ∧ True) ∧ okF { low := rr f.low, high := rr f.high : Fr }) ∧ (t16 ∧ t16 ∧ True) ∧ True ∧ True ∧ ((((∀ (i : Nat), i <
    (16 : Nat) → true = true ∧ True) ∧ ∀ (i : Nat), i < (16 : Nat) → true = true ∧ True) ∧ True ∧ True) ∧ okF { low := rr (shiftS { low := rr f.low, high := rr f.high : Fr } (d.x.tmod (64 : Int)) (d.y.tmod (16 : Int))).low, high := rr (shiftS { low := rr f.low, high := rr f.high : Fr } (d.x.tmod (64 : Int)) (d.y.tmod (16 : Int))).high : Fr })
    ∧ t16 ∧ t16 ∧ True ∧ True ∧ (((0 : Int) ≤ (0 : Int) ∧ (0 : Int) ≤ (16 : Int)) ∧ (((sm ((16 : Nat)) ∧ sm ((1 : Nat)) ∧ ∀ (i : Nat), i < (16 : Nat) → sm (f.low.getD
    i (0 : Int)) ∧ True) ∧ (sm ((16 : Nat)) ∧ sm ((1 : Nat)) ∧ ∀ (i : Nat), i < (16 : Nat) → sm (f.high.getD i (0 : Int)) ∧ True) ∧ True) ∧ (d.x = d.x ∧ d.y = d.y ∧
    d.level = d.level ∧ True) ∧ True ∧ True ∧ True ∧ sm (d.x.tmod (64 : Int)) ∧ sm (d.y.tmod (16 : Int)) ∧ True ∧ sm ((0 : Int)) ∧ True ∧ True ∧ True ∧ True ∧ True ∧
    d.x = d.x ∧ sm (d.x.tmod (64 : Int)) ∧ True ∧ d.y = d.y ∧ sm (d.y.tmod (16 : Int)) ∧ ((sm ((16 : Nat)) ∧ sm ((0 : Nat) + (1 : Nat)) ∧ ∀ (i : Nat), i < (16 : Nat)
    → sm (f.low.getD i (0 : Int)) ∧ True) ∧ (sm ((16 : Nat)) ∧ sm ((0 : Nat) + (1 : Nat)) ∧ ∀ (i : Nat), i < (16 : Nat) → sm (f.high.getD i (0 : Int)) ∧ True) ∧ True)
    ∧ ((sm ((16 : Nat)) ∧ sm ((1 : Nat)) ∧ ∀ (i : Nat), i < (16 : Nat) → sm ((invS { low := rr f.low, high := rr f.high : Fr }).low.getD i (0 : Int)) ∧ True) ∧ (sm ((16
    : Nat)) ∧ sm ((1 : Nat)) ∧ ∀ (i : Nat), i < (16 : Nat) → sm ((invS { low := rr f.low, high := rr f.high : Fr }).high.getD i (0 : Int)) ∧ True) ∧ True) ∧ ((sm ((16
    : Nat)) ∧ sm ((1 : Nat)) ∧ ∀ (i : Nat), i < (16 : Nat) → sm ((invS { low := rr (invS { low := rr f.low, high := rr f.high : Fr }).low, high := rr (invS { low := rr f.low, high := rr f.high : Fr }).high : Fr }).low.getD
    i (0 : Int)) ∧ True) ∧ (sm ((16 : Nat)) ∧ sm ((1 : Nat)) ∧ ∀ (i : Nat), i < (16 : Nat) → sm ((invS { low := rr (invS { low := rr f.low, high := rr f.high : Fr }).low, high := rr (invS { low := rr f.low, high := rr f.high : Fr }).high : Fr }).high.getD
    i (0 : Int)) ∧ True) ∧ True) ∧ ((sm ((16 : Nat)) ∧ sm ((0 : Nat) + (1 : Nat)) ∧ ∀ (i : Nat), i < (16 : Nat) → sm (f.low.getD i (0 : Int)) ∧ True) ∧ (sm ((16 : Nat))
    ∧ sm ((0 : Nat) + (1 : Nat)) ∧ ∀ (i : Nat), i < (16 : Nat) → sm (f.high.getD i (0 : Int)) ∧ True) ∧ True) ∧ True ∧ ((sm ((16 : Nat)) ∧ sm ((0 : Nat) + (1 : Nat))
    ∧ ∀ (i : Nat), i < (16 : Nat) → sm (f.low.getD i (0 : Int)) ∧ True) ∧ (sm ((16 : Nat)) ∧ sm ((0 : Nat) + (1 : Nat)) ∧ ∀ (i : Nat), i < (16 : Nat) → sm (f.high.getD
    i (0 : Int)) ∧ True) ∧ True) ∧ sm (d.x.tmod (64 : Int)) ∧ sm (d.y.tmod (16 : Int)) ∧ ((sm ((16 : Nat)) ∧ sm ((1 : Nat)) ∧ ∀ (i : Nat), i < (16 : Nat) → sm ((shiftS
    { low := rr f.low, high := rr f.high : Fr } (d.x.tmod (64 : Int)) (d.y.tmod (16 : Int))).low.getD i (0 : Int)) ∧ True) ∧ (sm ((16 : Nat)) ∧ sm ((1 : Nat)) ∧ ∀ (i
    : Nat), i < (16 : Nat) → sm ((shiftS { low := rr f.low, high := rr f.high : Fr } (d.x.tmod (64 : Int)) (d.y.tmod (16 : Int))).high.getD i (0 : Int)) ∧ True) ∧ True)
    ∧ sm (d.x.tmod (64 : Int)) ∧ sm (W ((0 : Int) - d.x.tmod (64 : Int))) ∧ sm (d.y.tmod (16 : Int)) ∧ sm (W ((0 : Int) - d.y.tmod (16 : Int))) ∧ ((sm ((16 : Nat)) ∧
    sm ((1 : Nat)) ∧ ∀ (i : Nat), i < (16 : Nat) → sm ((shiftS { low := rr (shiftS { low := rr f.low, high := rr f.high : Fr } (d.x.tmod (64 : Int)) (d.y.tmod (16 : Int))).low, high := rr (shiftS { low := rr f.low, high := rr f.high : Fr } (d.x.tmod (64 : Int)) (d.y.tmod (16 : Int))).high : Fr }
    (W ((0 : Int) - d.x.tmod (64 : Int))) (W ((0 : Int) - d.y.tmod (16 : Int)))).low.getD i (0 : Int)) ∧ True) ∧ (sm ((16 : Nat)) ∧ sm ((1 : Nat)) ∧ ∀ (i : Nat), i <
    (16 : Nat) → sm ((shiftS { low := rr (shiftS { low := rr f.low, high := rr f.high : Fr } (d.x.tmod (64 : Int)) (d.y.tmod (16 : Int))).low, high := rr (shiftS { low := rr f.low, high := rr f.high : Fr } (d.x.tmod (64 : Int)) (d.y.tmod (16 : Int))).high : Fr }
    (W ((0 : Int) - d.x.tmod (64 : Int))) (W ((0 : Int) - d.y.tmod (16 : Int)))).high.getD i (0 : Int)) ∧ True) ∧ True) ∧ True ∧ True ∧ True ∧ True ∧ True ∧ True ∧ True
    ∧ True ∧ True ∧ True ∧ True ∧ True ∧ True ∧ True ∧ True ∧ True ∧ True ∧ True ∧ True ∧ True ∧ True ∧ True ∧ True ∧ True ∧ True ∧ True ∧ True ∧ True ∧ True ∧ True
    ∧ True ∧ True ∧ True ∧ True ∧ True ∧ True ∧ True ∧ True ∧ True ∧ True ∧ True ∧ True ∧ True ∧ True ∧ True ∧ True ∧ True ∧ True ∧ True ∧ True ∧ True ∧ True ∧ True
    ∧ True ∧ True ∧ True ∧ True ∧ True ∧ True ∧ True ∧ True ∧ True ∧ True ∧ True ∧ True ∧ True ∧ True ∧ True ∧ True ∧ True ∧ True ∧ True ∧ True ∧ True ∧ True ∧ True
    ∧ True ∧ True ∧ True ∧ True ∧ True ∧ True ∧ True ∧ True ∧ True ∧ True ∧ True ∧ True ∧ True) ∧ ((if false = true then [] else List.map Seg.shape [Seg.a (16 : Nat)
    (1 : Nat) fun j => [SV.int IntKind.u64 (f.low.getD j (0 : Int))], Seg.a (16 : Nat) (1 : Nat) fun j => [SV.int IntKind.u64 (f.high.getD j (0 : Int))]]) = if false
    = true then [] else List.map Seg.shape [Seg.a (16 : Nat) (1 : Nat) fun j => [SV.int IntKind.u64 (f.low.getD j (0 : Int))], Seg.a (16 : Nat) (1 : Nat) fun j => [SV.int
    IntKind.u64 (f.high.getD j (0 : Int))]]) ∧ ((sm ((16 : Nat)) ∧ sm ((1 : Nat)) ∧ ∀ (i : Nat), i < (16 : Nat) → sm (f.low.getD i (0 : Int)) ∧ True) ∧ (sm ((16 : Nat))
    ∧ sm ((1 : Nat)) ∧ ∀ (i : Nat), i < (16 : Nat) → sm (f.high.getD i (0 : Int)) ∧ True) ∧ True) ∧ ((if false = true then [] else List.map Seg.shape [Seg.s (SV.int
    IntKind.i64 d.x), Seg.s (SV.int IntKind.i64 d.y), Seg.s (SV.int IntKind.i64 d.level)]) = if false = true then [] else List.map Seg.shape [Seg.s (SV.int IntKind.i64
    d.x), Seg.s (SV.int IntKind.i64 d.y), Seg.s (SV.int IntKind.i64 d.level)]) ∧ (d.x = d.x ∧ d.y = d.y ∧ d.level = d.level ∧ True) ∧ ((if false = true then [] else
    List.map Seg.shape ([Seg.a (16 : Nat) (1 : Nat) fun x => [SV.int IntKind.u64 (0 : Int)]] ++ ([Seg.a (16 : Nat) (1 : Nat) fun x => [SV.int IntKind.u64 (0 : Int)]]
    ++ []))) = if false = true then [] else List.map Seg.shape ([Seg.a (16 : Nat) (1 : Nat) fun x => [SV.int IntKind.u64 (0 : Int)]] ++ ([Seg.a (16 : Nat) (1 : Nat)
    fun x => [SV.int IntKind.u64 (0 : Int)]] ++ []))) ∧ ((sm ((16 : Nat)) ∧ sm ((1 : Nat)) ∧ ∀ (i : Nat), i < (16 : Nat) → sm ((shiftS { low := rr (shiftS { low := rr f.low, high := rr f.high : Fr } (d.x.tmod (64 : Int)) (d.y.tmod (16 : Int))).low, high := rr (shiftS { low := rr f.low, high := rr f.high : Fr } (d.x.tmod (64 : Int)) (d.y.tmod (16 : Int))).high : Fr }
    (W ((0 : Int) - d.x.tmod (64 : Int))) (W ((0 : Int) - d.y.tmod (16 : Int)))).low.getD i (0 : Int)) ∧ True) ∧ (sm ((16 : Nat)) ∧ sm ((1 : Nat)) ∧ ∀ (i : Nat), i <
    (16 : Nat) → sm ((shiftS { low := rr (shiftS { low := rr f.low, high := rr f.high : Fr } (d.x.tmod (64 : Int)) (d.y.tmod (16 : Int))).low, high := rr (shiftS { low := rr f.low, high := rr f.high : Fr } (d.x.tmod (64 : Int)) (d.y.tmod (16 : Int))).high : Fr }
    (W ((0 : Int) - d.x.tmod (64 : Int))) (W ((0 : Int) - d.y.tmod (16 : Int)))).high.getD i (0 : Int)) ∧ True) ∧ True) ∧ True) ∧ ∀ (n : Int), (0 : Int) ≤ n ∧ n ≤ (16
    : Int) → True ∧ (decide (n < (16 : Int)) = true → True ∧ (((0 : Int) ≤ (0 : Int) ∧ (0 : Int) ≤ (64 : Int)) ∧ (((sm ((16 : Nat)) ∧ sm ((1 : Nat)) ∧ ∀ (i : Nat), i
    < (16 : Nat) → sm (f.low.getD i (0 : Int)) ∧ True) ∧ (sm ((16 : Nat)) ∧ sm ((1 : Nat)) ∧ ∀ (i : Nat), i < (16 : Nat) → sm (f.high.getD i (0 : Int)) ∧ True) ∧ True)
    ∧ (d.x = d.x ∧ d.y = d.y ∧ d.level = d.level ∧ True) ∧ True ∧ True ∧ True ∧ sm (d.x.tmod (64 : Int)) ∧ sm (d.y.tmod (16 : Int)) ∧ True ∧ n = n ∧ sm ((0 : Int)) ∧
    True ∧ True ∧ True ∧ True ∧ d.x = d.x ∧ sm (d.x.tmod (64 : Int)) ∧ True ∧ d.y = d.y ∧ sm (d.y.tmod (16 : Int)) ∧ ((sm ((16 : Nat)) ∧ sm ((0 : Nat) + (1 : Nat)) ∧
    ∀ (i : Nat), i < (16 : Nat) → sm (f.low.getD i (0 : Int)) ∧ True) ∧ (sm ((16 : Nat)) ∧ sm ((0 : Nat) + (1 : Nat)) ∧ ∀ (i : Nat), i < (16 : Nat) → sm (f.high.getD
    i (0 : Int)) ∧ True) ∧ True) ∧ ((sm ((16 : Nat)) ∧ sm ((1 : Nat)) ∧ ∀ (i : Nat), i < (16 : Nat) → sm ((invS { low := rr f.low, high := rr f.high : Fr }).low.getD
    i (0 : Int)) ∧ True) ∧ (sm ((16 : Nat)) ∧ sm ((1 : Nat)) ∧ ∀ (i : Nat), i < (16 : Nat) → sm ((invS { low := rr f.low, high := rr f.high : Fr }).high.getD i (0 :
    Int)) ∧ True) ∧ True) ∧ ((sm ((16 : Nat)) ∧ sm ((1 : Nat)) ∧ ∀ (i : Nat), i < (16 : Nat) → sm ((invS { low := rr (invS { low := rr f.low, high := rr f.high : Fr }).low, high := rr (invS { low := rr f.low, high := rr f.high : Fr }).high : Fr }).low.getD
    i (0 : Int)) ∧ True) ∧ (sm ((16 : Nat)) ∧ sm ((1 : Nat)) ∧ ∀ (i : Nat), i < (16 : Nat) → sm ((invS { low := rr (invS { low := rr f.low, high := rr f.high : Fr }).low, high := rr (invS { low := rr f.low, high := rr f.high : Fr }).high : Fr }).high.getD
    i (0 : Int)) ∧ True) ∧ True) ∧ ((sm ((16 : Nat)) ∧ sm ((0 : Nat) + (1 : Nat)) ∧ ∀ (i : Nat), i < (16 : Nat) → sm (f.low.getD i (0 : Int)) ∧ True) ∧ (sm ((16 : Nat))
    ∧ sm ((0 : Nat) + (1 : Nat)) ∧ ∀ (i : Nat), i < (16 : Nat) → sm (f.high.getD i (0 : Int)) ∧ True) ∧ True) ∧ True ∧ ((sm ((16 : Nat)) ∧ sm ((0 : Nat) + (1 : Nat))
    ∧ ∀ (i : Nat), i < (16 : Nat) → sm (f.low.getD i (0 : Int)) ∧ True) ∧ (sm ((16 : Nat)) ∧ sm ((0 : Nat) + (1 : Nat)) ∧ ∀ (i : Nat), i < (16 : Nat) → sm (f.high.getD
    i (0 : Int)) ∧ True) ∧ True) ∧ sm (d.x.tmod (64 : Int)) ∧ sm (d.y.tmod (16 : Int)) ∧ ((sm ((16 : Nat)) ∧ sm ((1 : Nat)) ∧ ∀ (i : Nat), i < (16 : Nat) → sm ((shiftS
    { low := rr f.low, high := rr f.high : Fr } (d.x.tmod (64 : Int)) (d.y.tmod (16 : Int))).low.getD i (0 : Int)) ∧ True) ∧ (sm ((16 : Nat)) ∧ sm ((1 : Nat)) ∧ ∀ (i
    : Nat), i < (16 : Nat) → sm ((shiftS { low := rr f.low, high := rr f.high : Fr } (d.x.tmod (64 : Int)) (d.y.tmod (16 : Int))).high.getD i (0 : Int)) ∧ True) ∧ True)
    ∧ sm (d.x.tmod (64 : Int)) ∧ sm (W ((0 : Int) - d.x.tmod (64 : Int))) ∧ sm (d.y.tmod (16 : Int)) ∧ sm (W ((0 : Int) - d.y.tmod (16 : Int))) ∧ ((sm ((16 : Nat)) ∧
    sm ((1 : Nat)) ∧ ∀ (i : Nat), i < (16 : Nat) → sm ((shiftS { low := rr (shiftS { low := rr f.low, high := rr f.high : Fr } (d.x.tmod (64 : Int)) (d.y.tmod (16 : Int))).low, high := rr (shiftS { low := rr f.low, high := rr f.high : Fr } (d.x.tmod (64 : Int)) (d.y.tmod (16 : Int))).high : Fr }
    (W ((0 : Int) - d.x.tmod (64 : Int))) (W ((0 : Int) - d.y.tmod (16 : Int)))).low.getD i (0 : Int)) ∧ True) ∧ (sm ((16 : Nat)) ∧ sm ((1 : Nat)) ∧ ∀ (i : Nat), i <
    (16 : Nat) → sm ((shiftS { low := rr (shiftS { low := rr f.low, high := rr f.high : Fr } (d.x.tmod (64 : Int)) (d.y.tmod (16 : Int))).low, high := rr (shiftS { low := rr f.low, high := rr f.high : Fr } (d.x.tmod (64 : Int)) (d.y.tmod (16 : Int))).high : Fr }
    (W ((0 : Int) - d.x.tmod (64 : Int))) (W ((0 : Int) - d.y.tmod (16 : Int)))).high.getD i (0 : Int)) ∧ True) ∧ True) ∧ n = n ∧ True ∧ True ∧ True ∧ True ∧ True ∧
    True ∧ True ∧ True ∧ True ∧ True ∧ True ∧ True ∧ True ∧ True ∧ True ∧ True ∧ True ∧ True ∧ True ∧ True ∧ True ∧ True ∧ True ∧ True ∧ True ∧ True ∧ True ∧ True ∧
    True ∧ True ∧ True ∧ True ∧ True ∧ True ∧ True ∧ True ∧ True ∧ True ∧ True ∧ True ∧ True ∧ True ∧ True ∧ True ∧ True ∧ True ∧ True ∧ True ∧ True ∧ True ∧ True ∧
    True ∧ True ∧ True ∧ True ∧ True ∧ True ∧ True ∧ True ∧ True ∧ True ∧ True ∧ True ∧ True ∧ True ∧ True ∧ True ∧ True ∧ True ∧ True ∧ True ∧ True ∧ True ∧ True ∧
    True ∧ True ∧ True ∧ True ∧ True ∧ True ∧ True ∧ True ∧ True ∧ True ∧ True ∧ True ∧ True ∧ True) ∧ ((if false = true then [] else List.map Seg.shape [Seg.a (16 :
    Nat) (1 : Nat) fun j => [SV.int IntKind.u64 (f.low.getD j (0 : Int))], Seg.a (16 : Nat) (1 : Nat) fun j => [SV.int IntKind.u64 (f.high.getD j (0 : Int))]]) = if
    false = true then [] else List.map Seg.shape [Seg.a (16 : Nat) (1 : Nat) fun j => [SV.int IntKind.u64 (f.low.getD j (0 : Int))], Seg.a (16 : Nat) (1 : Nat) fun j
    => [SV.int IntKind.u64 (f.high.getD j (0 : Int))]]) ∧ ((sm ((16 : Nat)) ∧ sm ((1 : Nat)) ∧ ∀ (i : Nat), i < (16 : Nat) → sm (f.low.getD i (0 : Int)) ∧ True) ∧ (sm
    ((16 : Nat)) ∧ sm ((1 : Nat)) ∧ ∀ (i : Nat), i < (16 : Nat) → sm (f.high.getD i (0 : Int)) ∧ True) ∧ True) ∧ ((if false = true then [] else List.map Seg.shape [Seg.s
    (SV.int IntKind.i64 d.x), Seg.s (SV.int IntKind.i64 d.y), Seg.s (SV.int IntKind.i64 d.level)]) = if false = true then [] else List.map Seg.shape [Seg.s (SV.int IntKind.i64
    d.x), Seg.s (SV.int IntKind.i64 d.y), Seg.s (SV.int IntKind.i64 d.level)]) ∧ (d.x = d.x ∧ d.y = d.y ∧ d.level = d.level ∧ True) ∧ ((if false = true then [] else
    List.map Seg.shape ([Seg.a (16 : Nat) (1 : Nat) fun x => [SV.int IntKind.u64 (0 : Int)]] ++ ([Seg.a (16 : Nat) (1 : Nat) fun x => [SV.int IntKind.u64 (0 : Int)]]
    ++ []))) = if false = true then [] else List.map Seg.shape ([Seg.a (16 : Nat) (1 : Nat) fun x => [SV.int IntKind.u64 (0 : Int)]] ++ ([Seg.a (16 : Nat) (1 : Nat)
    fun x => [SV.int IntKind.u64 (0 : Int)]] ++ []))) ∧ ((sm ((16 : Nat)) ∧ sm ((1 : Nat)) ∧ ∀ (i : Nat), i < (16 : Nat) → sm ((shiftS { low := rr (shiftS { low := rr f.low, high := rr f.high : Fr } (d.x.tmod (64 : Int)) (d.y.tmod (16 : Int))).low, high := rr (shiftS { low := rr f.low, high := rr f.high : Fr } (d.x.tmod (64 : Int)) (d.y.tmod (16 : Int))).high : Fr }
    (W ((0 : Int) - d.x.tmod (64 : Int))) (W ((0 : Int) - d.y.tmod (16 : Int)))).low.getD i (0 : Int)) ∧ True) ∧ (sm ((16 : Nat)) ∧ sm ((1 : Nat)) ∧ ∀ (i : Nat), i <
    (16 : Nat) → sm ((shiftS { low := rr (shiftS { low := rr f.low, high := rr f.high : Fr } (d.x.tmod (64 : Int)) (d.y.tmod (16 : Int))).low, high := rr (shiftS { low := rr f.low, high := rr f.high : Fr } (d.x.tmod (64 : Int)) (d.y.tmod (16 : Int))).high : Fr }
    (W ((0 : Int) - d.x.tmod (64 : Int))) (W ((0 : Int) - d.y.tmod (16 : Int)))).high.getD i (0 : Int)) ∧ True) ∧ True) ∧ True) ∧ ∀ (n_1 : Int), (0 : Int) ≤ n_1 ∧ n_1
    ≤ (64 : Int) → True ∧ (decide (n_1 < (64 : Int)) = true → True ∧ (decide (W (n_1 + d.x.tmod (64 : Int)) ≥ (0 : Int)) = true → (decide (W (n_1 + d.x.tmod (64 : Int))
    < (64 : Int)) = true → (decide (W (n + d.y.tmod (16 : Int)) ≥ (0 : Int)) = true → True ∧ (decide (W (n + d.y.tmod (16 : Int)) < (16 : Int)) = true → (t16 ∧ t16 ∧
    True) ∧ True ∧ True ∧ ((((∀ (i : Nat), i < (16 : Nat) → true = true ∧ True) ∧ ∀ (i : Nat), i < (16 : Nat) → true = true ∧ True) ∧ True ∧ True) ∧ okF { low := rr f.low, high := rr f.high : Fr })
    ∧ True ∧ (t16 ∧ t16 ∧ True) ∧ True ∧ True ∧ ((((∀ (i : Nat), i < (16 : Nat) → true = true ∧ True) ∧ ∀ (i : Nat), i < (16 : Nat) → true = true ∧ True) ∧ True ∧ True)
    ∧ okF { low := rr (shiftS { low := rr (shiftS { low := rr f.low, high := rr f.high : Fr } (d.x.tmod (64 : Int)) (d.y.tmod (16 : Int))).low, high := rr (shiftS { low := rr f.low, high := rr f.high : Fr } (d.x.tmod (64 : Int)) (d.y.tmod (16 : Int))).high : Fr } (W ((0 : Int) - d.x.tmod (64 : Int))) (W ((0 : Int) - d.y.tmod (16 : Int)))).low, high := rr (shiftS { low := rr (shiftS { low := rr f.low, high := rr f.high : Fr } (d.x.tmod (64 : Int)) (d.y.tmod (16 : Int))).low, high := rr (shiftS { low := rr f.low, high := rr f.high : Fr } (d.x.tmod (64 : Int)) (d.y.tmod (16 : Int))).high : Fr } (W ((0 : Int) - d.x.tmod (64 : Int))) (W ((0 : Int) - d.y.tmod (16 : Int)))).high : Fr })
    ∧ True ∧ ((getS { low := rr (shiftS { low := rr (shiftS { low := rr f.low, high := rr f.high : Fr } (d.x.tmod (64 : Int)) (d.y.tmod (16 : Int))).low, high := rr (shiftS { low := rr f.low, high := rr f.high : Fr } (d.x.tmod (64 : Int)) (d.y.tmod (16 : Int))).high : Fr } (W ((0 : Int) - d.x.tmod (64 : Int))) (W ((0 : Int) - d.y.tmod (16 : Int)))).low, high := rr (shiftS { low := rr (shiftS { low := rr f.low, high := rr f.high : Fr } (d.x.tmod (64 : Int)) (d.y.tmod (16 : Int))).low, high := rr (shiftS { low := rr f.low, high := rr f.high : Fr } (d.x.tmod (64 : Int)) (d.y.tmod (16 : Int))).high : Fr } (W ((0 : Int) - d.x.tmod (64 : Int))) (W ((0 : Int) - d.y.tmod (16 : Int)))).high : Fr }
    n_1 n != getS { low := rr f.low, high := rr f.high : Fr } n_1 n) = true → True ∧ True ∧ true = false ∧ True) ∧ ((getS { low := rr (shiftS { low := rr (shiftS { low := rr f.low, high := rr f.high : Fr } (d.x.tmod (64 : Int)) (d.y.tmod (16 : Int))).low, high := rr (shiftS { low := rr f.low, high := rr f.high : Fr } (d.x.tmod (64 : Int)) (d.y.tmod (16 : Int))).high : Fr } (W ((0 : Int) - d.x.tmod (64 : Int))) (W ((0 : Int) - d.y.tmod (16 : Int)))).low, high := rr (shiftS { low := rr (shiftS { low := rr f.low, high := rr f.high : Fr } (d.x.tmod (64 : Int)) (d.y.tmod (16 : Int))).low, high := rr (shiftS { low := rr f.low, high := rr f.high : Fr } (d.x.tmod (64 : Int)) (d.y.tmod (16 : Int))).high : Fr } (W ((0 : Int) - d.x.tmod (64 : Int))) (W ((0 : Int) - d.y.tmod (16 : Int)))).high : Fr }
    n_1 n != getS { low := rr f.low, high := rr f.high : Fr } n_1 n) = false → True ∧ ((0 : Int) ≤ W (n_1 + (1 : Int)) ∧ W (n_1 + (1 : Int)) ≤ (64 : Int)) ∧ ((64 : Int)
    - W (n_1 + (1 : Int))).toNat < ((64 : Int) - n_1).toNat ∧ (((sm ((16 : Nat)) ∧ sm ((1 : Nat)) ∧ ∀ (i : Nat), i < (16 : Nat) → sm (f.low.getD i (0 : Int)) ∧ True)
    ∧ (sm ((16 : Nat)) ∧ sm ((1 : Nat)) ∧ ∀ (i : Nat), i < (16 : Nat) → sm (f.high.getD i (0 : Int)) ∧ True) ∧ True) ∧ (d.x = d.x ∧ d.y = d.y ∧ d.level = d.level ∧ True)
    ∧ True ∧ True ∧ True ∧ sm (d.x.tmod (64 : Int)) ∧ sm (d.y.tmod (16 : Int)) ∧ True ∧ n = n ∧ sm (W (n_1 + (1 : Int))) ∧ True ∧ True ∧ True ∧ True ∧ d.x = d.x ∧ sm
    (d.x.tmod (64 : Int)) ∧ True ∧ d.y = d.y ∧ sm (d.y.tmod (16 : Int)) ∧ ((sm ((16 : Nat)) ∧ sm ((0 : Nat) + (1 : Nat)) ∧ ∀ (i : Nat), i < (16 : Nat) → sm (f.low.getD
    i (0 : Int)) ∧ True) ∧ (sm ((16 : Nat)) ∧ sm ((0 : Nat) + (1 : Nat)) ∧ ∀ (i : Nat), i < (16 : Nat) → sm (f.high.getD i (0 : Int)) ∧ True) ∧ True) ∧ ((sm ((16 : Nat))
    ∧ sm ((1 : Nat)) ∧ ∀ (i : Nat), i < (16 : Nat) → sm ((invS { low := rr f.low, high := rr f.high : Fr }).low.getD i (0 : Int)) ∧ True) ∧ (sm ((16 : Nat)) ∧ sm ((1
    : Nat)) ∧ ∀ (i : Nat), i < (16 : Nat) → sm ((invS { low := rr f.low, high := rr f.high : Fr }).high.getD i (0 : Int)) ∧ True) ∧ True) ∧ ((sm ((16 : Nat)) ∧ sm ((1
    : Nat)) ∧ ∀ (i : Nat), i < (16 : Nat) → sm ((invS { low := rr (invS { low := rr f.low, high := rr f.high : Fr }).low, high := rr (invS { low := rr f.low, high := rr f.high : Fr }).high : Fr }).low.getD
    i (0 : Int)) ∧ True) ∧ (sm ((16 : Nat)) ∧ sm ((1 : Nat)) ∧ ∀ (i : Nat), i < (16 : Nat) → sm ((invS { low := rr (invS { low := rr f.low, high := rr f.high : Fr }).low, high := rr (invS { low := rr f.low, high := rr f.high : Fr }).high : Fr }).high.getD
    i (0 : Int)) ∧ True) ∧ True) ∧ ((sm ((16 : Nat)) ∧ sm ((0 : Nat) + (1 : Nat)) ∧ ∀ (i : Nat), i < (16 : Nat) → sm (f.low.getD i (0 : Int)) ∧ True) ∧ (sm ((16 : Nat))
    ∧ sm ((0 : Nat) + (1 : Nat)) ∧ ∀ (i : Nat), i < (16 : Nat) → sm (f.high.getD i (0 : Int)) ∧ True) ∧ True) ∧ True ∧ ((sm ((16 : Nat)) ∧ sm ((0 : Nat) + (1 : Nat))
    ∧ ∀ (i : Nat), i < (16 : Nat) → sm (f.low.getD i (0 : Int)) ∧ True) ∧ (sm ((16 : Nat)) ∧ sm ((0 : Nat) + (1 : Nat)) ∧ ∀ (i : Nat), i < (16 : Nat) → sm (f.high.getD
    i (0 : Int)) ∧ True) ∧ True) ∧ sm (d.x.tmod (64 : Int)) ∧ sm (d.y.tmod (16 : Int)) ∧ ((sm ((16 : Nat)) ∧ sm ((1 : Nat)) ∧ ∀ (i : Nat), i < (16 : Nat) → sm ((shiftS
    { low := rr f.low, high := rr f.high : Fr } (d.x.tmod (64 : Int)) (d.y.tmod (16 : Int))).low.getD i (0 : Int)) ∧ True) ∧ (sm ((16 : Nat)) ∧ sm ((1 : Nat)) ∧ ∀ (i
    : Nat), i < (16 : Nat) → sm ((shiftS { low := rr f.low, high := rr f.high : Fr } (d.x.tmod (64 : Int)) (d.y.tmod (16 : Int))).high.getD i (0 : Int)) ∧ True) ∧ True)
    ∧ sm (d.x.tmod (64 : Int)) ∧ sm (W ((0 : Int) - d.x.tmod (64 : Int))) ∧ sm (d.y.tmod (16 : Int)) ∧ sm (W ((0 : Int) - d.y.tmod (16 : Int))) ∧ ((sm ((16 : Nat)) ∧
    sm ((1 : Nat)) ∧ ∀ (i : Nat), i < (16 : Nat) → sm ((shiftS { low := rr (shiftS { low := rr f.low, high := rr f.high : Fr } (d.x.tmod (64 : Int)) (d.y.tmod (16 : Int))).low, high := rr (shiftS { low := rr f.low, high := rr f.high : Fr } (d.x.tmod (64 : Int)) (d.y.tmod (16 : Int))).high : Fr }
    (W ((0 : Int) - d.x.tmod (64 : Int))) (W ((0 : Int) - d.y.tmod (16 : Int)))).low.getD i (0 : Int)) ∧ True) ∧ (sm ((16 : Nat)) ∧ sm ((1 : Nat)) ∧ ∀ (i : Nat), i <
    (16 : Nat) → sm ((shiftS { low := rr (shiftS { low := rr f.low, high := rr f.high : Fr } (d.x.tmod (64 : Int)) (d.y.tmod (16 : Int))).low, high := rr (shiftS { low := rr f.low, high := rr f.high : Fr } (d.x.tmod (64 : Int)) (d.y.tmod (16 : Int))).high : Fr }
    (W ((0 : Int) - d.x.tmod (64 : Int))) (W ((0 : Int) - d.y.tmod (16 : Int)))).high.getD i (0 : Int)) ∧ True) ∧ True) ∧ n = n ∧ True ∧ True ∧ True ∧ True ∧ True ∧
    True ∧ True ∧ True ∧ True ∧ True ∧ True ∧ True ∧ True ∧ True ∧ True ∧ True ∧ True ∧ True ∧ True ∧ True ∧ True ∧ True ∧ True ∧ True ∧ True ∧ True ∧ True ∧ True ∧
    True ∧ True ∧ True ∧ True ∧ True ∧ True ∧ True ∧ True ∧ True ∧ True ∧ True ∧ True ∧ True ∧ True ∧ True ∧ True ∧ True ∧ True ∧ True ∧ True ∧ True ∧ True ∧ True ∧
    True ∧ True ∧ True ∧ True ∧ True ∧ True ∧ True ∧ True ∧ True ∧ True ∧ True ∧ True ∧ True ∧ True ∧ True ∧ True ∧ True ∧ True ∧ True ∧ True ∧ True ∧ True ∧ True ∧
    True ∧ True ∧ True ∧ True ∧ True ∧ True ∧ True ∧ True ∧ True ∧ True ∧ True ∧ True ∧ True ∧ True) ∧ ((if false = true then [] else List.map Seg.shape [Seg.a (16 :
    Nat) (1 : Nat) fun j => [SV.int IntKind.u64 (f.low.getD j (0 : Int))], Seg.a (16 : Nat) (1 : Nat) fun j => [SV.int IntKind.u64 (f.high.getD j (0 : Int))]]) = if
    false = true then [] else List.map Seg.shape [Seg.a (16 : Nat) (1 : Nat) fun j => [SV.int IntKind.u64 (f.low.getD j (0 : Int))], Seg.a (16 : Nat) (1 : Nat) fun j
    => [SV.int IntKind.u64 (f.high.getD j (0 : Int))]]) ∧ ((sm ((16 : Nat)) ∧ sm ((1 : Nat)) ∧ ∀ (i : Nat), i < (16 : Nat) → sm (f.low.getD i (0 : Int)) ∧ True) ∧ (sm
    ((16 : Nat)) ∧ sm ((1 : Nat)) ∧ ∀ (i : Nat), i < (16 : Nat) → sm (f.high.getD i (0 : Int)) ∧ True) ∧ True) ∧ ((if false = true then [] else List.map Seg.shape [Seg.s
    (SV.int IntKind.i64 d.x), Seg.s (SV.int IntKind.i64 d.y), Seg.s (SV.int IntKind.i64 d.level)]) = if false = true then [] else List.map Seg.shape [Seg.s (SV.int IntKind.i64
    d.x), Seg.s (SV.int IntKind.i64 d.y), Seg.s (SV.int IntKind.i64 d.level)]) ∧ (d.x = d.x ∧ d.y = d.y ∧ d.level = d.level ∧ True) ∧ ((if false = true then [] else
    List.map Seg.shape ([Seg.a (16 : Nat) (1 : Nat) fun x => [SV.int IntKind.u64 (0 : Int)]] ++ ([Seg.a (16 : Nat) (1 : Nat) fun x => [SV.int IntKind.u64 (0 : Int)]]
    ++ []))) = if false = true then [] else List.map Seg.shape ([Seg.a (16 : Nat) (1 : Nat) fun x => [SV.int IntKind.u64 (0 : Int)]] ++ ([Seg.a (16 : Nat) (1 : Nat)
    fun x => [SV.int IntKind.u64 (0 : Int)]] ++ []))) ∧ ((sm ((16 : Nat)) ∧ sm ((1 : Nat)) ∧ ∀ (i : Nat), i < (16 : Nat) → sm ((shiftS { low := rr (shiftS { low := rr f.low, high := rr f.high : Fr } (d.x.tmod (64 : Int)) (d.y.tmod (16 : Int))).low, high := rr (shiftS { low := rr f.low, high := rr f.high : Fr } (d.x.tmod (64 : Int)) (d.y.tmod (16 : Int))).high : Fr }
    (W ((0 : Int) - d.x.tmod (64 : Int))) (W ((0 : Int) - d.y.tmod (16 : Int)))).low.getD i (0 : Int)) ∧ True) ∧ (sm ((16 : Nat)) ∧ sm ((1 : Nat)) ∧ ∀ (i : Nat), i <
    (16 : Nat) → sm ((shiftS { low := rr (shiftS { low := rr f.low, high := rr f.high : Fr } (d.x.tmod (64 : Int)) (d.y.tmod (16 : Int))).low, high := rr (shiftS { low := rr f.low, high := rr f.high : Fr } (d.x.tmod (64 : Int)) (d.y.tmod (16 : Int))).high : Fr }
    (W ((0 : Int) - d.x.tmod (64 : Int))) (W ((0 : Int) - d.y.tmod (16 : Int)))).high.getD i (0 : Int)) ∧ True) ∧ True) ∧ True)) ∧ (decide (W (n + d.y.tmod (16 : Int))
    < (16 : Int)) = false → (t16 ∧ t16 ∧ True) ∧ True ∧ True ∧ ((((∀ (i : Nat), i < (16 : Nat) → true = true ∧ True) ∧ ∀ (i : Nat), i < (16 : Nat) → true = true ∧ True)
    ∧ True ∧ True) ∧ okF { low := rr (shiftS { low := rr (shiftS { low := rr f.low, high := rr f.high : Fr } (d.x.tmod (64 : Int)) (d.y.tmod (16 : Int))).low, high := rr (shiftS { low := rr f.low, high := rr f.high : Fr } (d.x.tmod (64 : Int)) (d.y.tmod (16 : Int))).high : Fr } (W ((0 : Int) - d.x.tmod (64 : Int))) (W ((0 : Int) - d.y.tmod (16 : Int)))).low, high := rr (shiftS { low := rr (shiftS { low := rr f.low, high := rr f.high : Fr } (d.x.tmod (64 : Int)) (d.y.tmod (16 : Int))).low, high := rr (shiftS { low := rr f.low, high := rr f.high : Fr } (d.x.tmod (64 : Int)) (d.y.tmod (16 : Int))).high : Fr } (W ((0 : Int) - d.x.tmod (64 : Int))) (W ((0 : Int) - d.y.tmod (16 : Int)))).high : Fr })
    ∧ True ∧ ((getS { low := rr (shiftS { low := rr (shiftS { low := rr f.low, high := rr f.high : Fr } (d.x.tmod (64 : Int)) (d.y.tmod (16 : Int))).low, high := rr (shiftS { low := rr f.low, high := rr f.high : Fr } (d.x.tmod (64 : Int)) (d.y.tmod (16 : Int))).high : Fr } (W ((0 : Int) - d.x.tmod (64 : Int))) (W ((0 : Int) - d.y.tmod (16 : Int)))).low, high := rr (shiftS { low := rr (shiftS { low := rr f.low, high := rr f.high : Fr } (d.x.tmod (64 : Int)) (d.y.tmod (16 : Int))).low, high := rr (shiftS { low := rr f.low, high := rr f.high : Fr } (d.x.tmod (64 : Int)) (d.y.tmod (16 : Int))).high : Fr } (W ((0 : Int) - d.x.tmod (64 : Int))) (W ((0 : Int) - d.y.tmod (16 : Int)))).high : Fr }
    n_1 n != (0 : Int)) = true → True ∧ True ∧ true = false ∧ True) ∧ ((getS { low := rr (shiftS { low := rr (shiftS { low := rr f.low, high := rr f.high : Fr } (d.x.tmod (64 : Int)) (d.y.tmod (16 : Int))).low, high := rr (shiftS { low := rr f.low, high := rr f.high : Fr } (d.x.tmod (64 : Int)) (d.y.tmod (16 : Int))).high : Fr } (W ((0 : Int) - d.x.tmod (64 : Int))) (W ((0 : Int) - d.y.tmod (16 : Int)))).low, high := rr (shiftS { low := rr (shiftS { low := rr f.low, high := rr f.high : Fr } (d.x.tmod (64 : Int)) (d.y.tmod (16 : Int))).low, high := rr (shiftS { low := rr f.low, high := rr f.high : Fr } (d.x.tmod (64 : Int)) (d.y.tmod (16 : Int))).high : Fr } (W ((0 : Int) - d.x.tmod (64 : Int))) (W ((0 : Int) - d.y.tmod (16 : Int)))).high : Fr }
    n_1 n != (0 : Int)) = false → True ∧ ((0 : Int) ≤ W (n_1 + (1 : Int)) ∧ W (n_1 + (1 : Int)) ≤ (64 : Int)) ∧ ((64 : Int) - W (n_1 + (1 : Int))).toNat < ((64 : Int)
    - n_1).toNat ∧ (((sm ((16 : Nat)) ∧ sm ((1 : Nat)) ∧ ∀ (i : Nat), i < (16 : Nat) → sm (f.low.getD i (0 : Int)) ∧ True) ∧ (sm ((16 : Nat)) ∧ sm ((1 : Nat)) ∧ ∀ (i
    : Nat), i < (16 : Nat) → sm (f.high.getD i (0 : Int)) ∧ True) ∧ True) ∧ (d.x = d.x ∧ d.y = d.y ∧ d.level = d.level ∧ True) ∧ True ∧ True ∧ True ∧ sm (d.x.tmod (64
    : Int)) ∧ sm (d.y.tmod (16 : Int)) ∧ True ∧ n = n ∧ sm (W (n_1 + (1 : Int))) ∧ True ∧ True ∧ True ∧ True ∧ d.x = d.x ∧ sm (d.x.tmod (64 : Int)) ∧ True ∧ d.y = d.y
    ∧ sm (d.y.tmod (16 : Int)) ∧ ((sm ((16 : Nat)) ∧ sm ((0 : Nat) + (1 : Nat)) ∧ ∀ (i : Nat), i < (16 : Nat) → sm (f.low.getD i (0 : Int)) ∧ True) ∧ (sm ((16 : Nat))
    ∧ sm ((0 : Nat) + (1 : Nat)) ∧ ∀ (i : Nat), i < (16 : Nat) → sm (f.high.getD i (0 : Int)) ∧ True) ∧ True) ∧ ((sm ((16 : Nat)) ∧ sm ((1 : Nat)) ∧ ∀ (i : Nat), i <
    (16 : Nat) → sm ((invS { low := rr f.low, high := rr f.high : Fr }).low.getD i (0 : Int)) ∧ True) ∧ (sm ((16 : Nat)) ∧ sm ((1 : Nat)) ∧ ∀ (i : Nat), i < (16 : Nat)
    → sm ((invS { low := rr f.low, high := rr f.high : Fr }).high.getD i (0 : Int)) ∧ True) ∧ True) ∧ ((sm ((16 : Nat)) ∧ sm ((1 : Nat)) ∧ ∀ (i : Nat), i < (16 : Nat)
    → sm ((invS { low := rr (invS { low := rr f.low, high := rr f.high : Fr }).low, high := rr (invS { low := rr f.low, high := rr f.high : Fr }).high : Fr }).low.getD
    i (0 : Int)) ∧ True) ∧ (sm ((16 : Nat)) ∧ sm ((1 : Nat)) ∧ ∀ (i : Nat), i < (16 : Nat) → sm ((invS { low := rr (invS { low := rr f.low, high := rr f.high : Fr }).low, high := rr (invS { low := rr f.low, high := rr f.high : Fr }).high : Fr }).high.getD
    i (0 : Int)) ∧ True) ∧ True) ∧ ((sm ((16 : Nat)) ∧ sm ((0 : Nat) + (1 : Nat)) ∧ ∀ (i : Nat), i < (16 : Nat) → sm (f.low.getD i (0 : Int)) ∧ True) ∧ (sm ((16 : Nat))
    ∧ sm ((0 : Nat) + (1 : Nat)) ∧ ∀ (i : Nat), i < (16 : Nat) → sm (f.high.getD i (0 : Int)) ∧ True) ∧ True) ∧ True ∧ ((sm ((16 : Nat)) ∧ sm ((0 : Nat) + (1 : Nat))
    ∧ ∀ (i : Nat), i < (16 : Nat) → sm (f.low.getD i (0 : Int)) ∧ True) ∧ (sm ((16 : Nat)) ∧ sm ((0 : Nat) + (1 : Nat)) ∧ ∀ (i : Nat), i < (16 : Nat) → sm (f.high.getD
    i (0 : Int)) ∧ True) ∧ True) ∧ sm (d.x.tmod (64 : Int)) ∧ sm (d.y.tmod (16 : Int)) ∧ ((sm ((16 : Nat)) ∧ sm ((1 : Nat)) ∧ ∀ (i : Nat), i < (16 : Nat) → sm ((shiftS
    { low := rr f.low, high := rr f.high : Fr } (d.x.tmod (64 : Int)) (d.y.tmod (16 : Int))).low.getD i (0 : Int)) ∧ True) ∧ (sm ((16 : Nat)) ∧ sm ((1 : Nat)) ∧ ∀ (i
    : Nat), i < (16 : Nat) → sm ((shiftS { low := rr f.low, high := rr f.high : Fr } (d.x.tmod (64 : Int)) (d.y.tmod (16 : Int))).high.getD i (0 : Int)) ∧ True) ∧ True)
    ∧ sm (d.x.tmod (64 : Int)) ∧ sm (W ((0 : Int) - d.x.tmod (64 : Int))) ∧ sm (d.y.tmod (16 : Int)) ∧ sm (W ((0 : Int) - d.y.tmod (16 : Int))) ∧ ((sm ((16 : Nat)) ∧
    sm ((1 : Nat)) ∧ ∀ (i : Nat), i < (16 : Nat) → sm ((shiftS { low := rr (shiftS { low := rr f.low, high := rr f.high : Fr } (d.x.tmod (64 : Int)) (d.y.tmod (16 : Int))).low, high := rr (shiftS { low := rr f.low, high := rr f.high : Fr } (d.x.tmod (64 : Int)) (d.y.tmod (16 : Int))).high : Fr }
    (W ((0 : Int) - d.x.tmod (64 : Int))) (W ((0 : Int) - d.y.tmod (16 : Int)))).low.getD i (0 : Int)) ∧ True) ∧ (sm ((16 : Nat)) ∧ sm ((1 : Nat)) ∧ ∀ (i : Nat), i <
    (16 : Nat) → sm ((shiftS { low := rr (shiftS { low := rr f.low, high := rr f.high : Fr } (d.x.tmod (64 : Int)) (d.y.tmod (16 : Int))).low, high := rr (shiftS { low := rr f.low, high := rr f.high : Fr } (d.x.tmod (64 : Int)) (d.y.tmod (16 : Int))).high : Fr }
    (W ((0 : Int) - d.x.tmod (64 : Int))) (W ((0 : Int) - d.y.tmod (16 : Int)))).high.getD i (0 : Int)) ∧ True) ∧ True) ∧ n = n ∧ True ∧ True ∧ True ∧ True ∧ True ∧
    True ∧ True ∧ True ∧ True ∧ True ∧ True ∧ True ∧ True ∧ True ∧ True ∧ True ∧ True ∧ True ∧ True ∧ True ∧ True ∧ True ∧ True ∧ True ∧ True ∧ True ∧ True ∧ True ∧
    True ∧ True ∧ True ∧ True ∧ True ∧ True ∧ True ∧ True ∧ True ∧ True ∧ True ∧ True ∧ True ∧ True ∧ True ∧ True ∧ True ∧ True ∧ True ∧ True ∧ True ∧ True ∧ True ∧
    True ∧ True ∧ True ∧ True ∧ True ∧ True ∧ True ∧ True ∧ True ∧ True ∧ True ∧ True ∧ True ∧ True ∧ True ∧ True ∧ True ∧ True ∧ True ∧ True ∧ True ∧ True ∧ True ∧
    True ∧ True ∧ True ∧ True ∧ True ∧ True ∧ True ∧ True ∧ True ∧ True ∧ True ∧ True ∧ True ∧ True) ∧ ((if false = true then [] else List.map Seg.shape [Seg.a (16 :
    Nat) (1 : Nat) fun j => [SV.int IntKind.u64 (f.low.getD j (0 : Int))], Seg.a (16 : Nat) (1 : Nat) fun j => [SV.int IntKind.u64 (f.high.getD j (0 : Int))]]) = if
    false = true then [] else List.map Seg.shape [Seg.a (16 : Nat) (1 : Nat) fun j => [SV.int IntKind.u64 (f.low.getD j (0 : Int))], Seg.a (16 : Nat) (1 : Nat) fun j
    => [SV.int IntKind.u64 (f.high.getD j (0 : Int))]]) ∧ ((sm ((16 : Nat)) ∧ sm ((1 : Nat)) ∧ ∀ (i : Nat), i < (16 : Nat) → sm (f.low.getD i (0 : Int)) ∧ True) ∧ (sm
    ((16 : Nat)) ∧ sm ((1 : Nat)) ∧ ∀ (i : Nat), i < (16 : Nat) → sm (f.high.getD i (0 : Int)) ∧ True) ∧ True) ∧ ((if false = true then [] else List.map Seg.shape [Seg.s
    (SV.int IntKind.i64 d.x), Seg.s (SV.int IntKind.i64 d.y), Seg.s (SV.int IntKind.i64 d.level)]) = if false = true then [] else List.map Seg.shape [Seg.s (SV.int IntKind.i64
    d.x), Seg.s (SV.int IntKind.i64 d.y), Seg.s (SV.int IntKind.i64 d.level)]) ∧ (d.x = d.x ∧ d.y = d.y ∧ d.level = d.level ∧ True) ∧ ((if false = true then [] else
    List.map Seg.shape ([Seg.a (16 : Nat) (1 : Nat) fun x => [SV.int IntKind.u64 (0 : Int)]] ++ ([Seg.a (16 : Nat) (1 : Nat) fun x => [SV.int IntKind.u64 (0 : Int)]]
    ++ []))) = if false = true then [] else List.map Seg.shape ([Seg.a (16 : Nat) (1 : Nat) fun x => [SV.int IntKind.u64 (0 : Int)]] ++ ([Seg.a (16 : Nat) (1 : Nat)
    fun x => [SV.int IntKind.u64 (0 : Int)]] ++ []))) ∧ ((sm ((16 : Nat)) ∧ sm ((1 : Nat)) ∧ ∀ (i : Nat), i < (16 : Nat) → sm ((shiftS { low := rr (shiftS { low := rr f.low, high := rr f.high : Fr } (d.x.tmod (64 : Int)) (d.y.tmod (16 : Int))).low, high := rr (shiftS { low := rr f.low, high := rr f.high : Fr } (d.x.tmod (64 : Int)) (d.y.tmod (16 : Int))).high : Fr }
    (W ((0 : Int) - d.x.tmod (64 : Int))) (W ((0 : Int) - d.y.tmod (16 : Int)))).low.getD i (0 : Int)) ∧ True) ∧ (sm ((16 : Nat)) ∧ sm ((1 : Nat)) ∧ ∀ (i : Nat), i <
    (16 : Nat) → sm ((shiftS { low := rr (shiftS { low := rr f.low, high := rr f.high : Fr } (d.x.tmod (64 : Int)) (d.y.tmod (16 : Int))).low, high := rr (shiftS { low := rr f.low, high := rr f.high : Fr } (d.x.tmod (64 : Int)) (d.y.tmod (16 : Int))).high : Fr }
    (W ((0 : Int) - d.x.tmod (64 : Int))) (W ((0 : Int) - d.y.tmod (16 : Int)))).high.getD i (0 : Int)) ∧ True) ∧ True) ∧ True))) ∧ (decide (W (n + d.y.tmod (16 : Int))
    ≥ (0 : Int)) = false → True ∧ (t16 ∧ t16 ∧ True) ∧ True ∧ True ∧ ((((∀ (i : Nat), i < (16 : Nat) → true = true ∧ True) ∧ ∀ (i : Nat), i < (16 : Nat) → true = true
    ∧ True) ∧ True ∧ True) ∧ okF { low := rr (shiftS { low := rr (shiftS { low := rr f.low, high := rr f.high : Fr } (d.x.tmod (64 : Int)) (d.y.tmod (16 : Int))).low, high := rr (shiftS { low := rr f.low, high := rr f.high : Fr } (d.x.tmod (64 : Int)) (d.y.tmod (16 : Int))).high : Fr } (W ((0 : Int) - d.x.tmod (64 : Int))) (W ((0 : Int) - d.y.tmod (16 : Int)))).low, high := rr (shiftS { low := rr (shiftS { low := rr f.low, high := rr f.high : Fr } (d.x.tmod (64 : Int)) (d.y.tmod (16 : Int))).low, high := rr (shiftS { low := rr f.low, high := rr f.high : Fr } (d.x.tmod (64 : Int)) (d.y.tmod (16 : Int))).high : Fr } (W ((0 : Int) - d.x.tmod (64 : Int))) (W ((0 : Int) - d.y.tmod (16 : Int)))).high : Fr })
    ∧ True ∧ ((getS { low := rr (shiftS { low := rr (shiftS { low := rr f.low, high := rr f.high : Fr } (d.x.tmod (64 : Int)) (d.y.tmod (16 : Int))).low, high := rr (shiftS { low := rr f.low, high := rr f.high : Fr } (d.x.tmod (64 : Int)) (d.y.tmod (16 : Int))).high : Fr } (W ((0 : Int) - d.x.tmod (64 : Int))) (W ((0 : Int) - d.y.tmod (16 : Int)))).low, high := rr (shiftS { low := rr (shiftS { low := rr f.low, high := rr f.high : Fr } (d.x.tmod (64 : Int)) (d.y.tmod (16 : Int))).low, high := rr (shiftS { low := rr f.low, high := rr f.high : Fr } (d.x.tmod (64 : Int)) (d.y.tmod (16 : Int))).high : Fr } (W ((0 : Int) - d.x.tmod (64 : Int))) (W ((0 : Int) - d.y.tmod (16 : Int)))).high : Fr }
    n_1 n != (0 : Int)) = true → True ∧ True ∧ true = false ∧ True) ∧ ((getS { low := rr (shiftS { low := rr (shiftS { low := rr f.low, high := rr f.high : Fr } (d.x.tmod (64 : Int)) (d.y.tmod (16 : Int))).low, high := rr (shiftS { low := rr f.low, high := rr f.high : Fr } (d.x.tmod (64 : Int)) (d.y.tmod (16 : Int))).high : Fr } (W ((0 : Int) - d.x.tmod (64 : Int))) (W ((0 : Int) - d.y.tmod (16 : Int)))).low, high := rr (shiftS { low := rr (shiftS { low := rr f.low, high := rr f.high : Fr } (d.x.tmod (64 : Int)) (d.y.tmod (16 : Int))).low, high := rr (shiftS { low := rr f.low, high := rr f.high : Fr } (d.x.tmod (64 : Int)) (d.y.tmod (16 : Int))).high : Fr } (W ((0 : Int) - d.x.tmod (64 : Int))) (W ((0 : Int) - d.y.tmod (16 : Int)))).high : Fr }
    n_1 n != (0 : Int)) = false → True ∧ ((0 : Int) ≤ W (n_1 + (1 : Int)) ∧ W (n_1 + (1 : Int)) ≤ (64 : Int)) ∧ ((64 : Int) - W (n_1 + (1 : Int))).toNat < ((64 : Int)
    - n_1).toNat ∧ (((sm ((16 : Nat)) ∧ sm ((1 : Nat)) ∧ ∀ (i : Nat), i < (16 : Nat) → sm (f.low.getD i (0 : Int)) ∧ True) ∧ (sm ((16 : Nat)) ∧ sm ((1 : Nat)) ∧ ∀ (i
    : Nat), i < (16 : Nat) → sm (f.high.getD i (0 : Int)) ∧ True) ∧ True) ∧ (d.x = d.x ∧ d.y = d.y ∧ d.level = d.level ∧ True) ∧ True ∧ True ∧ True ∧ sm (d.x.tmod (64
    : Int)) ∧ sm (d.y.tmod (16 : Int)) ∧ True ∧ n = n ∧ sm (W (n_1 + (1 : Int))) ∧ True ∧ True ∧ True ∧ True ∧ d.x = d.x ∧ sm (d.x.tmod (64 : Int)) ∧ True ∧ d.y = d.y
    ∧ sm (d.y.tmod (16 : Int)) ∧ ((sm ((16 : Nat)) ∧ sm ((0 : Nat) + (1 : Nat)) ∧ ∀ (i : Nat), i < (16 : Nat) → sm (f.low.getD i (0 : Int)) ∧ True) ∧ (sm ((16 : Nat))
    ∧ sm ((0 : Nat) + (1 : Nat)) ∧ ∀ (i : Nat), i < (16 : Nat) → sm (f.high.getD i (0 : Int)) ∧ True) ∧ True) ∧ ((sm ((16 : Nat)) ∧ sm ((1 : Nat)) ∧ ∀ (i : Nat), i <
    (16 : Nat) → sm ((invS { low := rr f.low, high := rr f.high : Fr }).low.getD i (0 : Int)) ∧ True) ∧ (sm ((16 : Nat)) ∧ sm ((1 : Nat)) ∧ ∀ (i : Nat), i < (16 : Nat)
    → sm ((invS { low := rr f.low, high := rr f.high : Fr }).high.getD i (0 : Int)) ∧ True) ∧ True) ∧ ((sm ((16 : Nat)) ∧ sm ((1 : Nat)) ∧ ∀ (i : Nat), i < (16 : Nat)
    → sm ((invS { low := rr (invS { low := rr f.low, high := rr f.high : Fr }).low, high := rr (invS { low := rr f.low, high := rr f.high : Fr }).high : Fr }).low.getD
    i (0 : Int)) ∧ True) ∧ (sm ((16 : Nat)) ∧ sm ((1 : Nat)) ∧ ∀ (i : Nat), i < (16 : Nat) → sm ((invS { low := rr (invS { low := rr f.low, high := rr f.high : Fr }).low, high := rr (invS { low := rr f.low, high := rr f.high : Fr }).high : Fr }).high.getD
    i (0 : Int)) ∧ True) ∧ True) ∧ ((sm ((16 : Nat)) ∧ sm ((0 : Nat) + (1 : Nat)) ∧ ∀ (i : Nat), i < (16 : Nat) → sm (f.low.getD i (0 : Int)) ∧ True) ∧ (sm ((16 : Nat))
    ∧ sm ((0 : Nat) + (1 : Nat)) ∧ ∀ (i : Nat), i < (16 : Nat) → sm (f.high.getD i (0 : Int)) ∧ True) ∧ True) ∧ True ∧ ((sm ((16 : Nat)) ∧ sm ((0 : Nat) + (1 : Nat))
    ∧ ∀ (i : Nat), i < (16 : Nat) → sm (f.low.getD i (0 : Int)) ∧ True) ∧ (sm ((16 : Nat)) ∧ sm ((0 : Nat) + (1 : Nat)) ∧ ∀ (i : Nat), i < (16 : Nat) → sm (f.high.getD
    i (0 : Int)) ∧ True) ∧ True) ∧ sm (d.x.tmod (64 : Int)) ∧ sm (d.y.tmod (16 : Int)) ∧ ((sm ((16 : Nat)) ∧ sm ((1 : Nat)) ∧ ∀ (i : Nat), i < (16 : Nat) → sm ((shiftS
    { low := rr f.low, high := rr f.high : Fr } (d.x.tmod (64 : Int)) (d.y.tmod (16 : Int))).low.getD i (0 : Int)) ∧ True) ∧ (sm ((16 : Nat)) ∧ sm ((1 : Nat)) ∧ ∀ (i
    : Nat), i < (16 : Nat) → sm ((shiftS { low := rr f.low, high := rr f.high : Fr } (d.x.tmod (64 : Int)) (d.y.tmod (16 : Int))).high.getD i (0 : Int)) ∧ True) ∧ True)
    ∧ sm (d.x.tmod (64 : Int)) ∧ sm (W ((0 : Int) - d.x.tmod (64 : Int))) ∧ sm (d.y.tmod (16 : Int)) ∧ sm (W ((0 : Int) - d.y.tmod (16 : Int))) ∧ ((sm ((16 : Nat)) ∧
    sm ((1 : Nat)) ∧ ∀ (i : Nat), i < (16 : Nat) → sm ((shiftS { low := rr (shiftS { low := rr f.low, high := rr f.high : Fr } (d.x.tmod (64 : Int)) (d.y.tmod (16 : Int))).low, high := rr (shiftS { low := rr f.low, high := rr f.high : Fr } (d.x.tmod (64 : Int)) (d.y.tmod (16 : Int))).high : Fr }
    (W ((0 : Int) - d.x.tmod (64 : Int))) (W ((0 : Int) - d.y.tmod (16 : Int)))).low.getD i (0 : Int)) ∧ True) ∧ (sm ((16 : Nat)) ∧ sm ((1 : Nat)) ∧ ∀ (i : Nat), i <
    (16 : Nat) → sm ((shiftS { low := rr (shiftS { low := rr f.low, high := rr f.high : Fr } (d.x.tmod (64 : Int)) (d.y.tmod (16 : Int))).low, high := rr (shiftS { low := rr f.low, high := rr f.high : Fr } (d.x.tmod (64 : Int)) (d.y.tmod (16 : Int))).high : Fr }
    (W ((0 : Int) - d.x.tmod (64 : Int))) (W ((0 : Int) - d.y.tmod (16 : Int)))).high.getD i (0 : Int)) ∧ True) ∧ True) ∧ n = n ∧ True ∧ True ∧ True ∧ True ∧ True ∧
    True ∧ True ∧ True ∧ True ∧ True ∧ True ∧ True ∧ True ∧ True ∧ True ∧ True ∧ True ∧ True ∧ True ∧ True ∧ True ∧ True ∧ True ∧ True ∧ True ∧ True ∧ True ∧ True ∧
    True ∧ True ∧ True ∧ True ∧ True ∧ True ∧ True ∧ True ∧ True ∧ True ∧ True ∧ True ∧ True ∧ True ∧ True ∧ True ∧ True ∧ True ∧ True ∧ True ∧ True ∧ True ∧ True ∧
    True ∧ True ∧ True ∧ True ∧ True ∧ True ∧ True ∧ True ∧ True ∧ True ∧ True ∧ True ∧ True ∧ True ∧ True ∧ True ∧ True ∧ True ∧ True ∧ True ∧ True ∧ True ∧ True ∧
    True ∧ True ∧ True ∧ True ∧ True ∧ True ∧ True ∧ True ∧ True ∧ True ∧ True ∧ True ∧ True ∧ True) ∧ ((if false = true then [] else List.map Seg.shape [Seg.a (16 :
    Nat) (1 : Nat) fun j => [SV.int IntKind.u64 (f.low.getD j (0 : Int))], Seg.a (16 : Nat) (1 : Nat) fun j => [SV.int IntKind.u64 (f.high.getD j (0 : Int))]]) = if
    false = true then [] else List.map Seg.shape [Seg.a (16 : Nat) (1 : Nat) fun j => [SV.int IntKind.u64 (f.low.getD j (0 : Int))], Seg.a (16 : Nat) (1 : Nat) fun j
    => [SV.int IntKind.u64 (f.high.getD j (0 : Int))]]) ∧ ((sm ((16 : Nat)) ∧ sm ((1 : Nat)) ∧ ∀ (i : Nat), i < (16 : Nat) → sm (f.low.getD i (0 : Int)) ∧ True) ∧ (sm
    ((16 : Nat)) ∧ sm ((1 : Nat)) ∧ ∀ (i : Nat), i < (16 : Nat) → sm (f.high.getD i (0 : Int)) ∧ True) ∧ True) ∧ ((if false = true then [] else List.map Seg.shape [Seg.s
    (SV.int IntKind.i64 d.x), Seg.s (SV.int IntKind.i64 d.y), Seg.s (SV.int IntKind.i64 d.level)]) = if false = true then [] else List.map Seg.shape [Seg.s (SV.int IntKind.i64
    d.x), Seg.s (SV.int IntKind.i64 d.y), Seg.s (SV.int IntKind.i64 d.level)]) ∧ (d.x = d.x ∧ d.y = d.y ∧ d.level = d.level ∧ True) ∧ ((if false = true then [] else
    List.map Seg.shape ([Seg.a (16 : Nat) (1 : Nat) fun x => [SV.int IntKind.u64 (0 : Int)]] ++ ([Seg.a (16 : Nat) (1 : Nat) fun x => [SV.int IntKind.u64 (0 : Int)]]
    ++ []))) = if false = true then [] else List.map Seg.shape ([Seg.a (16 : Nat) (1 : Nat) fun x => [SV.int IntKind.u64 (0 : Int)]] ++ ([Seg.a (16 : Nat) (1 : Nat)
    fun x => [SV.int IntKind.u64 (0 : Int)]] ++ []))) ∧ ((sm ((16 : Nat)) ∧ sm ((1 : Nat)) ∧ ∀ (i : Nat), i < (16 : Nat) → sm ((shiftS { low := rr (shiftS { low := rr f.low, high := rr f.high : Fr } (d.x.tmod (64 : Int)) (d.y.tmod (16 : Int))).low, high := rr (shiftS { low := rr f.low, high := rr f.high : Fr } (d.x.tmod (64 : Int)) (d.y.tmod (16 : Int))).high : Fr }
    (W ((0 : Int) - d.x.tmod (64 : Int))) (W ((0 : Int) - d.y.tmod (16 : Int)))).low.getD i (0 : Int)) ∧ True) ∧ (sm ((16 : Nat)) ∧ sm ((1 : Nat)) ∧ ∀ (i : Nat), i <
    (16 : Nat) → sm ((shiftS { low := rr (shiftS { low := rr f.low, high := rr f.high : Fr } (d.x.tmod (64 : Int)) (d.y.tmod (16 : Int))).low, high := rr (shiftS { low := rr f.low, high := rr f.high : Fr } (d.x.tmod (64 : Int)) (d.y.tmod (16 : Int))).high : Fr }
    (W ((0 : Int) - d.x.tmod (64 : Int))) (W ((0 : Int) - d.y.tmod (16 : Int)))).high.getD i (0 : Int)) ∧ True) ∧ True) ∧ True))) ∧ (decide (W (n_1 + d.x.tmod (64 :
    Int)) < (64 : Int)) = false → True ∧ (t16 ∧ t16 ∧ True) ∧ True ∧ True ∧ ((((∀ (i : Nat), i < (16 : Nat) → true = true ∧ True) ∧ ∀ (i : Nat), i < (16 : Nat) → true
    = true ∧ True) ∧ True ∧ True) ∧ okF { low := rr (shiftS { low := rr (shiftS { low := rr f.low, high := rr f.high : Fr } (d.x.tmod (64 : Int)) (d.y.tmod (16 : Int))).low, high := rr (shiftS { low := rr f.low, high := rr f.high : Fr } (d.x.tmod (64 : Int)) (d.y.tmod (16 : Int))).high : Fr } (W ((0 : Int) - d.x.tmod (64 : Int))) (W ((0 : Int) - d.y.tmod (16 : Int)))).low, high := rr (shiftS { low := rr (shiftS { low := rr f.low, high := rr f.high : Fr } (d.x.tmod (64 : Int)) (d.y.tmod (16 : Int))).low, high := rr (shiftS { low := rr f.low, high := rr f.high : Fr } (d.x.tmod (64 : Int)) (d.y.tmod (16 : Int))).high : Fr } (W ((0 : Int) - d.x.tmod (64 : Int))) (W ((0 : Int) - d.y.tmod (16 : Int)))).high : Fr })
    ∧ True ∧ ((getS { low := rr (shiftS { low := rr (shiftS { low := rr f.low, high := rr f.high : Fr } (d.x.tmod (64 : Int)) (d.y.tmod (16 : Int))).low, high := rr (shiftS { low := rr f.low, high := rr f.high : Fr } (d.x.tmod (64 : Int)) (d.y.tmod (16 : Int))).high : Fr } (W ((0 : Int) - d.x.tmod (64 : Int))) (W ((0 : Int) - d.y.tmod (16 : Int)))).low, high := rr (shiftS { low := rr (shiftS { low := rr f.low, high := rr f.high : Fr } (d.x.tmod (64 : Int)) (d.y.tmod (16 : Int))).low, high := rr (shiftS { low := rr f.low, high := rr f.high : Fr } (d.x.tmod (64 : Int)) (d.y.tmod (16 : Int))).high : Fr } (W ((0 : Int) - d.x.tmod (64 : Int))) (W ((0 : Int) - d.y.tmod (16 : Int)))).high : Fr }
    n_1 n != (0 : Int)) = true → True ∧ True ∧ true = false ∧ True) ∧ ((getS { low := rr (shiftS { low := rr (shiftS { low := rr f.low, high := rr f.high : Fr } (d.x.tmod (64 : Int)) (d.y.tmod (16 : Int))).low, high := rr (shiftS { low := rr f.low, high := rr f.high : Fr } (d.x.tmod (64 : Int)) (d.y.tmod (16 : Int))).high : Fr } (W ((0 : Int) - d.x.tmod (64 : Int))) (W ((0 : Int) - d.y.tmod (16 : Int)))).low, high := rr (shiftS { low := rr (shiftS { low := rr f.low, high := rr f.high : Fr } (d.x.tmod (64 : Int)) (d.y.tmod (16 : Int))).low, high := rr (shiftS { low := rr f.low, high := rr f.high : Fr } (d.x.tmod (64 : Int)) (d.y.tmod (16 : Int))).high : Fr } (W ((0 : Int) - d.x.tmod (64 : Int))) (W ((0 : Int) - d.y.tmod (16 : Int)))).high : Fr }
    n_1 n != (0 : Int)) = false → True ∧ ((0 : Int) ≤ W (n_1 + (1 : Int)) ∧ W (n_1 + (1 : Int)) ≤ (64 : Int)) ∧ ((64 : Int) - W (n_1 + (1 : Int))).toNat < ((64 : Int)
    - n_1).toNat ∧ (((sm ((16 : Nat)) ∧ sm ((1 : Nat)) ∧ ∀ (i : Nat), i < (16 : Nat) → sm (f.low.getD i (0 : Int)) ∧ True) ∧ (sm ((16 : Nat)) ∧ sm ((1 : Nat)) ∧ ∀ (i
    : Nat), i < (16 : Nat) → sm (f.high.getD i (0 : Int)) ∧ True) ∧ True) ∧ (d.x = d.x ∧ d.y = d.y ∧ d.level = d.level ∧ True) ∧ True ∧ True ∧ True ∧ sm (d.x.tmod (64
    : Int)) ∧ sm (d.y.tmod (16 : Int)) ∧ True ∧ n = n ∧ sm (W (n_1 + (1 : Int))) ∧ True ∧ True ∧ True ∧ True ∧ d.x = d.x ∧ sm (d.x.tmod (64 : Int)) ∧ True ∧ d.y = d.y
    ∧ sm (d.y.tmod (16 : Int)) ∧ ((sm ((16 : Nat)) ∧ sm ((0 : Nat) + (1 : Nat)) ∧ ∀ (i : Nat), i < (16 : Nat) → sm (f.low.getD i (0 : Int)) ∧ True) ∧ (sm ((16 : Nat))
    ∧ sm ((0 : Nat) + (1 : Nat)) ∧ ∀ (i : Nat), i < (16 : Nat) → sm (f.high.getD i (0 : Int)) ∧ True) ∧ True) ∧ ((sm ((16 : Nat)) ∧ sm ((1 : Nat)) ∧ ∀ (i : Nat), i <
    (16 : Nat) → sm ((invS { low := rr f.low, high := rr f.high : Fr }).low.getD i (0 : Int)) ∧ True) ∧ (sm ((16 : Nat)) ∧ sm ((1 : Nat)) ∧ ∀ (i : Nat), i < (16 : Nat)
    → sm ((invS { low := rr f.low, high := rr f.high : Fr }).high.getD i (0 : Int)) ∧ True) ∧ True) ∧ ((sm ((16 : Nat)) ∧ sm ((1 : Nat)) ∧ ∀ (i : Nat), i < (16 : Nat)
    → sm ((invS { low := rr (invS { low := rr f.low, high := rr f.high : Fr }).low, high := rr (invS { low := rr f.low, high := rr f.high : Fr }).high : Fr }).low.getD
    i (0 : Int)) ∧ True) ∧ (sm ((16 : Nat)) ∧ sm ((1 : Nat)) ∧ ∀ (i : Nat), i < (16 : Nat) → sm ((invS { low := rr (invS { low := rr f.low, high := rr f.high : Fr }).low, high := rr (invS { low := rr f.low, high := rr f.high : Fr }).high : Fr }).high.getD
    i (0 : Int)) ∧ True) ∧ True) ∧ ((sm ((16 : Nat)) ∧ sm ((0 : Nat) + (1 : Nat)) ∧ ∀ (i : Nat), i < (16 : Nat) → sm (f.low.getD i (0 : Int)) ∧ True) ∧ (sm ((16 : Nat))
    ∧ sm ((0 : Nat) + (1 : Nat)) ∧ ∀ (i : Nat), i < (16 : Nat) → sm (f.high.getD i (0 : Int)) ∧ True) ∧ True) ∧ True ∧ ((sm ((16 : Nat)) ∧ sm ((0 : Nat) + (1 : Nat))
    ∧ ∀ (i : Nat), i < (16 : Nat) → sm (f.low.getD i (0 : Int)) ∧ True) ∧ (sm ((16 : Nat)) ∧ sm ((0 : Nat) + (1 : Nat)) ∧ ∀ (i : Nat), i < (16 : Nat) → sm (f.high.getD
    i (0 : Int)) ∧ True) ∧ True) ∧ sm (d.x.tmod (64 : Int)) ∧ sm (d.y.tmod (16 : Int)) ∧ ((sm ((16 : Nat)) ∧ sm ((1 : Nat)) ∧ ∀ (i : Nat), i < (16 : Nat) → sm ((shiftS
    { low := rr f.low, high := rr f.high : Fr } (d.x.tmod (64 : Int)) (d.y.tmod (16 : Int))).low.getD i (0 : Int)) ∧ True) ∧ (sm ((16 : Nat)) ∧ sm ((1 : Nat)) ∧ ∀ (i
    : Nat), i < (16 : Nat) → sm ((shiftS { low := rr f.low, high := rr f.high : Fr } (d.x.tmod (64 : Int)) (d.y.tmod (16 : Int))).high.getD i (0 : Int)) ∧ True) ∧ True)
    ∧ sm (d.x.tmod (64 : Int)) ∧ sm (W ((0 : Int) - d.x.tmod (64 : Int))) ∧ sm (d.y.tmod (16 : Int)) ∧ sm (W ((0 : Int) - d.y.tmod (16 : Int))) ∧ ((sm ((16 : Nat)) ∧
    sm ((1 : Nat)) ∧ ∀ (i : Nat), i < (16 : Nat) → sm ((shiftS { low := rr (shiftS { low := rr f.low, high := rr f.high : Fr } (d.x.tmod (64 : Int)) (d.y.tmod (16 : Int))).low, high := rr (shiftS { low := rr f.low, high := rr f.high : Fr } (d.x.tmod (64 : Int)) (d.y.tmod (16 : Int))).high : Fr }
    (W ((0 : Int) - d.x.tmod (64 : Int))) (W ((0 : Int) - d.y.tmod (16 : Int)))).low.getD i (0 : Int)) ∧ True) ∧ (sm ((16 : Nat)) ∧ sm ((1 : Nat)) ∧ ∀ (i : Nat), i <
    (16 : Nat) → sm ((shiftS { low := rr (shiftS { low := rr f.low, high := rr f.high : Fr } (d.x.tmod (64 : Int)) (d.y.tmod (16 : Int))).low, high := rr (shiftS { low := rr f.low, high := rr f.high : Fr } (d.x.tmod (64 : Int)) (d.y.tmod (16 : Int))).high : Fr }
    (W ((0 : Int) - d.x.tmod (64 : Int))) (W ((0 : Int) - d.y.tmod (16 : Int)))).high.getD i (0 : Int)) ∧ True) ∧ True) ∧ n = n ∧ True ∧ True ∧ True ∧ True ∧ True ∧
    True ∧ True ∧ True ∧ True ∧ True ∧ True ∧ True ∧ True ∧ True ∧ True ∧ True ∧ True ∧ True ∧ True ∧ True ∧ True ∧ True ∧ True ∧ True ∧ True ∧ True ∧ True ∧ True ∧
    True ∧ True ∧ True ∧ True ∧ True ∧ True ∧ True ∧ True ∧ True ∧ True ∧ True ∧ True ∧ True ∧ True ∧ True ∧ True ∧ True ∧ True ∧ True ∧ True ∧ True ∧ True ∧ True ∧
    True ∧ True ∧ True ∧ True ∧ True ∧ True ∧ True ∧ True ∧ True ∧ True ∧ True ∧ True ∧ True ∧ True ∧ True ∧ True ∧ True ∧ True ∧ True ∧ True ∧ True ∧ True ∧ True ∧
    True ∧ True ∧ True ∧ True ∧ True ∧ True ∧ True ∧ True ∧ True ∧ True ∧ True ∧ True ∧ True ∧ True) ∧ ((if false = true then [] else List.map Seg.shape [Seg.a (16 :
    Nat) (1 : Nat) fun j => [SV.int IntKind.u64 (f.low.getD j (0 : Int))], Seg.a (16 : Nat) (1 : Nat) fun j => [SV.int IntKind.u64 (f.high.getD j (0 : Int))]]) = if
    false = true then [] else List.map Seg.shape [Seg.a (16 : Nat) (1 : Nat) fun j => [SV.int IntKind.u64 (f.low.getD j (0 : Int))], Seg.a (16 : Nat) (1 : Nat) fun j
    => [SV.int IntKind.u64 (f.high.getD j (0 : Int))]]) ∧ ((sm ((16 : Nat)) ∧ sm ((1 : Nat)) ∧ ∀ (i : Nat), i < (16 : Nat) → sm (f.low.getD i (0 : Int)) ∧ True) ∧ (sm
    ((16 : Nat)) ∧ sm ((1 : Nat)) ∧ ∀ (i : Nat), i < (16 : Nat) → sm (f.high.getD i (0 : Int)) ∧ True) ∧ True) ∧ ((if false = true then [] else List.map Seg.shape [Seg.s
    (SV.int IntKind.i64 d.x), Seg.s (SV.int IntKind.i64 d.y), Seg.s (SV.int IntKind.i64 d.level)]) = if false = true then [] else List.map Seg.shape [Seg.s (SV.int IntKind.i64
    d.x), Seg.s (SV.int IntKind.i64 d.y), Seg.s (SV.int IntKind.i64 d.level)]) ∧ (d.x = d.x ∧ d.y = d.y ∧ d.level = d.level ∧ True) ∧ ((if false = true then [] else
    List.map Seg.shape ([Seg.a (16 : Nat) (1 : Nat) fun x => [SV.int IntKind.u64 (0 : Int)]] ++ ([Seg.a (16 : Nat) (1 : Nat) fun x => [SV.int IntKind.u64 (0 : Int)]]
    ++ []))) = if false = true then [] else List.map Seg.shape ([Seg.a (16 : Nat) (1 : Nat) fun x => [SV.int IntKind.u64 (0 : Int)]] ++ ([Seg.a (16 : Nat) (1 : Nat)
    fun x => [SV.int IntKind.u64 (0 : Int)]] ++ []))) ∧ ((sm ((16 : Nat)) ∧ sm ((1 : Nat)) ∧ ∀ (i : Nat), i < (16 : Nat) → sm ((shiftS { low := rr (shiftS { low := rr f.low, high := rr f.high : Fr } (d.x.tmod (64 : Int)) (d.y.tmod (16 : Int))).low, high := rr (shiftS { low := rr f.low, high := rr f.high : Fr } (d.x.tmod (64 : Int)) (d.y.tmod (16 : Int))).high : Fr }
    (W ((0 : Int) - d.x.tmod (64 : Int))) (W ((0 : Int) - d.y.tmod (16 : Int)))).low.getD i (0 : Int)) ∧ True) ∧ (sm ((16 : Nat)) ∧ sm ((1 : Nat)) ∧ ∀ (i : Nat), i <
    (16 : Nat) → sm ((shiftS { low := rr (shiftS { low := rr f.low, high := rr f.high : Fr } (d.x.tmod (64 : Int)) (d.y.tmod (16 : Int))).low, high := rr (shiftS { low := rr f.low, high := rr f.high : Fr } (d.x.tmod (64 : Int)) (d.y.tmod (16 : Int))).high : Fr }
    (W ((0 : Int) - d.x.tmod (64 : Int))) (W ((0 : Int) - d.y.tmod (16 : Int)))).high.getD i (0 : Int)) ∧ True) ∧ True) ∧ True))) ∧ (decide (W (n_1 + d.x.tmod (64 :
    Int)) ≥ (0 : Int)) = false → True ∧ (t16 ∧ t16 ∧ True) ∧ True ∧ True ∧ ((((∀ (i : Nat), i < (16 : Nat) → true = true ∧ True) ∧ ∀ (i : Nat), i < (16 : Nat) → true
    = true ∧ True) ∧ True ∧ True) ∧ okF { low := rr (shiftS { low := rr (shiftS { low := rr f.low, high := rr f.high : Fr } (d.x.tmod (64 : Int)) (d.y.tmod (16 : Int))).low, high := rr (shiftS { low := rr f.low, high := rr f.high : Fr } (d.x.tmod (64 : Int)) (d.y.tmod (16 : Int))).high : Fr } (W ((0 : Int) - d.x.tmod (64 : Int))) (W ((0 : Int) - d.y.tmod (16 : Int)))).low, high := rr (shiftS { low := rr (shiftS { low := rr f.low, high := rr f.high : Fr } (d.x.tmod (64 : Int)) (d.y.tmod (16 : Int))).low, high := rr (shiftS { low := rr f.low, high := rr f.high : Fr } (d.x.tmod (64 : Int)) (d.y.tmod (16 : Int))).high : Fr } (W ((0 : Int) - d.x.tmod (64 : Int))) (W ((0 : Int) - d.y.tmod (16 : Int)))).high : Fr })
    ∧ True ∧ ((getS { low := rr (shiftS { low := rr (shiftS { low := rr f.low, high := rr f.high : Fr } (d.x.tmod (64 : Int)) (d.y.tmod (16 : Int))).low, high := rr (shiftS { low := rr f.low, high := rr f.high : Fr } (d.x.tmod (64 : Int)) (d.y.tmod (16 : Int))).high : Fr } (W ((0 : Int) - d.x.tmod (64 : Int))) (W ((0 : Int) - d.y.tmod (16 : Int)))).low, high := rr (shiftS { low := rr (shiftS { low := rr f.low, high := rr f.high : Fr } (d.x.tmod (64 : Int)) (d.y.tmod (16 : Int))).low, high := rr (shiftS { low := rr f.low, high := rr f.high : Fr } (d.x.tmod (64 : Int)) (d.y.tmod (16 : Int))).high : Fr } (W ((0 : Int) - d.x.tmod (64 : Int))) (W ((0 : Int) - d.y.tmod (16 : Int)))).high : Fr }
    n_1 n != (0 : Int)) = true → True ∧ True ∧ true = false ∧ True) ∧ ((getS { low := rr (shiftS { low := rr (shiftS { low := rr f.low, high := rr f.high : Fr } (d.x.tmod (64 : Int)) (d.y.tmod (16 : Int))).low, high := rr (shiftS { low := rr f.low, high := rr f.high : Fr } (d.x.tmod (64 : Int)) (d.y.tmod (16 : Int))).high : Fr } (W ((0 : Int) - d.x.tmod (64 : Int))) (W ((0 : Int) - d.y.tmod (16 : Int)))).low, high := rr (shiftS { low := rr (shiftS { low := rr f.low, high := rr f.high : Fr } (d.x.tmod (64 : Int)) (d.y.tmod (16 : Int))).low, high := rr (shiftS { low := rr f.low, high := rr f.high : Fr } (d.x.tmod (64 : Int)) (d.y.tmod (16 : Int))).high : Fr } (W ((0 : Int) - d.x.tmod (64 : Int))) (W ((0 : Int) - d.y.tmod (16 : Int)))).high : Fr }
    n_1 n != (0 : Int)) = false → True ∧ ((0 : Int) ≤ W (n_1 + (1 : Int)) ∧ W (n_1 + (1 : Int)) ≤ (64 : Int)) ∧ ((64 : Int) - W (n_1 + (1 : Int))).toNat < ((64 : Int)
    - n_1).toNat ∧ (((sm ((16 : Nat)) ∧ sm ((1 : Nat)) ∧ ∀ (i : Nat), i < (16 : Nat) → sm (f.low.getD i (0 : Int)) ∧ True) ∧ (sm ((16 : Nat)) ∧ sm ((1 : Nat)) ∧ ∀ (i
    : Nat), i < (16 : Nat) → sm (f.high.getD i (0 : Int)) ∧ True) ∧ True) ∧ (d.x = d.x ∧ d.y = d.y ∧ d.level = d.level ∧ True) ∧ True ∧ True ∧ True ∧ sm (d.x.tmod (64
    : Int)) ∧ sm (d.y.tmod (16 : Int)) ∧ True ∧ n = n ∧ sm (W (n_1 + (1 : Int))) ∧ True ∧ True ∧ True ∧ True ∧ d.x = d.x ∧ sm (d.x.tmod (64 : Int)) ∧ True ∧ d.y = d.y
    ∧ sm (d.y.tmod (16 : Int)) ∧ ((sm ((16 : Nat)) ∧ sm ((0 : Nat) + (1 : Nat)) ∧ ∀ (i : Nat), i < (16 : Nat) → sm (f.low.getD i (0 : Int)) ∧ True) ∧ (sm ((16 : Nat))
    ∧ sm ((0 : Nat) + (1 : Nat)) ∧ ∀ (i : Nat), i < (16 : Nat) → sm (f.high.getD i (0 : Int)) ∧ True) ∧ True) ∧ ((sm ((16 : Nat)) ∧ sm ((1 : Nat)) ∧ ∀ (i : Nat), i <
    (16 : Nat) → sm ((invS { low := rr f.low, high := rr f.high : Fr }).low.getD i (0 : Int)) ∧ True) ∧ (sm ((16 : Nat)) ∧ sm ((1 : Nat)) ∧ ∀ (i : Nat), i < (16 : Nat)
    → sm ((invS { low := rr f.low, high := rr f.high : Fr }).high.getD i (0 : Int)) ∧ True) ∧ True) ∧ ((sm ((16 : Nat)) ∧ sm ((1 : Nat)) ∧ ∀ (i : Nat), i < (16 : Nat)
    → sm ((invS { low := rr (invS { low := rr f.low, high := rr f.high : Fr }).low, high := rr (invS { low := rr f.low, high := rr f.high : Fr }).high : Fr }).low.getD
    i (0 : Int)) ∧ True) ∧ (sm ((16 : Nat)) ∧ sm ((1 : Nat)) ∧ ∀ (i : Nat), i < (16 : Nat) → sm ((invS { low := rr (invS { low := rr f.low, high := rr f.high : Fr }).low, high := rr (invS { low := rr f.low, high := rr f.high : Fr }).high : Fr }).high.getD
    i (0 : Int)) ∧ True) ∧ True) ∧ ((sm ((16 : Nat)) ∧ sm ((0 : Nat) + (1 : Nat)) ∧ ∀ (i : Nat), i < (16 : Nat) → sm (f.low.getD i (0 : Int)) ∧ True) ∧ (sm ((16 : Nat))
    ∧ sm ((0 : Nat) + (1 : Nat)) ∧ ∀ (i : Nat), i < (16 : Nat) → sm (f.high.getD i (0 : Int)) ∧ True) ∧ True) ∧ True ∧ ((sm ((16 : Nat)) ∧ sm ((0 : Nat) + (1 : Nat))
    ∧ ∀ (i : Nat), i < (16 : Nat) → sm (f.low.getD i (0 : Int)) ∧ True) ∧ (sm ((16 : Nat)) ∧ sm ((0 : Nat) + (1 : Nat)) ∧ ∀ (i : Nat), i < (16 : Nat) → sm (f.high.getD
    i (0 : Int)) ∧ True) ∧ True) ∧ sm (d.x.tmod (64 : Int)) ∧ sm (d.y.tmod (16 : Int)) ∧ ((sm ((16 : Nat)) ∧ sm ((1 : Nat)) ∧ ∀ (i : Nat), i < (16 : Nat) → sm ((shiftS
    { low := rr f.low, high := rr f.high : Fr } (d.x.tmod (64 : Int)) (d.y.tmod (16 : Int))).low.getD i (0 : Int)) ∧ True) ∧ (sm ((16 : Nat)) ∧ sm ((1 : Nat)) ∧ ∀ (i
    : Nat), i < (16 : Nat) → sm ((shiftS { low := rr f.low, high := rr f.high : Fr } (d.x.tmod (64 : Int)) (d.y.tmod (16 : Int))).high.getD i (0 : Int)) ∧ True) ∧ True)
    ∧ sm (d.x.tmod (64 : Int)) ∧ sm (W ((0 : Int) - d.x.tmod (64 : Int))) ∧ sm (d.y.tmod (16 : Int)) ∧ sm (W ((0 : Int) - d.y.tmod (16 : Int))) ∧ ((sm ((16 : Nat)) ∧
    sm ((1 : Nat)) ∧ ∀ (i : Nat), i < (16 : Nat) → sm ((shiftS { low := rr (shiftS { low := rr f.low, high := rr f.high : Fr } (d.x.tmod (64 : Int)) (d.y.tmod (16 : Int))).low, high := rr (shiftS { low := rr f.low, high := rr f.high : Fr } (d.x.tmod (64 : Int)) (d.y.tmod (16 : Int))).high : Fr }
    (W ((0 : Int) - d.x.tmod (64 : Int))) (W ((0 : Int) - d.y.tmod (16 : Int)))).low.getD i (0 : Int)) ∧ True) ∧ (sm ((16 : Nat)) ∧ sm ((1 : Nat)) ∧ ∀ (i : Nat), i <
    (16 : Nat) → sm ((shiftS { low := rr (shiftS { low := rr f.low, high := rr f.high : Fr } (d.x.tmod (64 : Int)) (d.y.tmod (16 : Int))).low, high := rr (shiftS { low := rr f.low, high := rr f.high : Fr } (d.x.tmod (64 : Int)) (d.y.tmod (16 : Int))).high : Fr }
    (W ((0 : Int) - d.x.tmod (64 : Int))) (W ((0 : Int) - d.y.tmod (16 : Int)))).high.getD i (0 : Int)) ∧ True) ∧ True) ∧ n = n ∧ True ∧ True ∧ True ∧ True ∧ True ∧
    True ∧ True ∧ True ∧ True ∧ True ∧ True ∧ True ∧ True ∧ True ∧ True ∧ True ∧ True ∧ True ∧ True ∧ True ∧ True ∧ True ∧ True ∧ True ∧ True ∧ True ∧ True ∧ True ∧
    True ∧ True ∧ True ∧ True ∧ True ∧ True ∧ True ∧ True ∧ True ∧ True ∧ True ∧ True ∧ True ∧ True ∧ True ∧ True ∧ True ∧ True ∧ True ∧ True ∧ True ∧ True ∧ True ∧
    True ∧ True ∧ True ∧ True ∧ True ∧ True ∧ True ∧ True ∧ True ∧ True ∧ True ∧ True ∧ True ∧ True ∧ True ∧ True ∧ True ∧ True ∧ True ∧ True ∧ True ∧ True ∧ True ∧
    True ∧ True ∧ True ∧ True ∧ True ∧ True ∧ True ∧ True ∧ True ∧ True ∧ True ∧ True ∧ True ∧ True) ∧ ((if false = true then [] else List.map Seg.shape [Seg.a (16 :
    Nat) (1 : Nat) fun j => [SV.int IntKind.u64 (f.low.getD j (0 : Int))], Seg.a (16 : Nat) (1 : Nat) fun j => [SV.int IntKind.u64 (f.high.getD j (0 : Int))]]) = if
    false = true then [] else List.map Seg.shape [Seg.a (16 : Nat) (1 : Nat) fun j => [SV.int IntKind.u64 (f.low.getD j (0 : Int))], Seg.a (16 : Nat) (1 : Nat) fun j
    => [SV.int IntKind.u64 (f.high.getD j (0 : Int))]]) ∧ ((sm ((16 : Nat)) ∧ sm ((1 : Nat)) ∧ ∀ (i : Nat), i < (16 : Nat) → sm (f.low.getD i (0 : Int)) ∧ True) ∧ (sm
    ((16 : Nat)) ∧ sm ((1 : Nat)) ∧ ∀ (i : Nat), i < (16 : Nat) → sm (f.high.getD i (0 : Int)) ∧ True) ∧ True) ∧ ((if false = true then [] else List.map Seg.shape [Seg.s
    (SV.int IntKind.i64 d.x), Seg.s (SV.int IntKind.i64 d.y), Seg.s (SV.int IntKind.i64 d.level)]) = if false = true then [] else List.map Seg.shape [Seg.s (SV.int IntKind.i64
    d.x), Seg.s (SV.int IntKind.i64 d.y), Seg.s (SV.int IntKind.i64 d.level)]) ∧ (d.x = d.x ∧ d.y = d.y ∧ d.level = d.level ∧ True) ∧ ((if false = true then [] else
    List.map Seg.shape ([Seg.a (16 : Nat) (1 : Nat) fun x => [SV.int IntKind.u64 (0 : Int)]] ++ ([Seg.a (16 : Nat) (1 : Nat) fun x => [SV.int IntKind.u64 (0 : Int)]]
    ++ []))) = if false = true then [] else List.map Seg.shape ([Seg.a (16 : Nat) (1 : Nat) fun x => [SV.int IntKind.u64 (0 : Int)]] ++ ([Seg.a (16 : Nat) (1 : Nat)
    fun x => [SV.int IntKind.u64 (0 : Int)]] ++ []))) ∧ ((sm ((16 : Nat)) ∧ sm ((1 : Nat)) ∧ ∀ (i : Nat), i < (16 : Nat) → sm ((shiftS { low := rr (shiftS { low := rr f.low, high := rr f.high : Fr } (d.x.tmod (64 : Int)) (d.y.tmod (16 : Int))).low, high := rr (shiftS { low := rr f.low, high := rr f.high : Fr } (d.x.tmod (64 : Int)) (d.y.tmod (16 : Int))).high : Fr }
    (W ((0 : Int) - d.x.tmod (64 : Int))) (W ((0 : Int) - d.y.tmod (16 : Int)))).low.getD i (0 : Int)) ∧ True) ∧ (sm ((16 : Nat)) ∧ sm ((1 : Nat)) ∧ ∀ (i : Nat), i <
    (16 : Nat) → sm ((shiftS { low := rr (shiftS { low := rr f.low, high := rr f.high : Fr } (d.x.tmod (64 : Int)) (d.y.tmod (16 : Int))).low, high := rr (shiftS { low := rr f.low, high := rr f.high : Fr } (d.x.tmod (64 : Int)) (d.y.tmod (16 : Int))).high : Fr }
    (W ((0 : Int) - d.x.tmod (64 : Int))) (W ((0 : Int) - d.y.tmod (16 : Int)))).high.getD i (0 : Int)) ∧ True) ∧ True) ∧ True))) ∧ (decide (n_1 < (64 : Int)) = false
    → True ∧ ((0 : Int) ≤ W (n + (1 : Int)) ∧ W (n + (1 : Int)) ≤ (16 : Int)) ∧ ((16 : Int) - W (n + (1 : Int))).toNat < ((16 : Int) - n).toNat ∧ (((sm ((16 : Nat))
    ∧ sm ((1 : Nat)) ∧ ∀ (i : Nat), i < (16 : Nat) → sm (f.low.getD i (0 : Int)) ∧ True) ∧ (sm ((16 : Nat)) ∧ sm ((1 : Nat)) ∧ ∀ (i : Nat), i < (16 : Nat) → sm (f.high.getD
    i (0 : Int)) ∧ True) ∧ True) ∧ (d.x = d.x ∧ d.y = d.y ∧ d.level = d.level ∧ True) ∧ True ∧ True ∧ True ∧ sm (d.x.tmod (64 : Int)) ∧ sm (d.y.tmod (16 : Int)) ∧ True
    ∧ sm (W (n + (1 : Int))) ∧ True ∧ True ∧ True ∧ True ∧ True ∧ d.x = d.x ∧ sm (d.x.tmod (64 : Int)) ∧ True ∧ d.y = d.y ∧ sm (d.y.tmod (16 : Int)) ∧ ((sm ((16 : Nat))
    ∧ sm ((0 : Nat) + (1 : Nat)) ∧ ∀ (i : Nat), i < (16 : Nat) → sm (f.low.getD i (0 : Int)) ∧ True) ∧ (sm ((16 : Nat)) ∧ sm ((0 : Nat) + (1 : Nat)) ∧ ∀ (i : Nat), i
    < (16 : Nat) → sm (f.high.getD i (0 : Int)) ∧ True) ∧ True) ∧ ((sm ((16 : Nat)) ∧ sm ((1 : Nat)) ∧ ∀ (i : Nat), i < (16 : Nat) → sm ((invS { low := rr f.low, high := rr f.high : Fr }).low.getD
    i (0 : Int)) ∧ True) ∧ (sm ((16 : Nat)) ∧ sm ((1 : Nat)) ∧ ∀ (i : Nat), i < (16 : Nat) → sm ((invS { low := rr f.low, high := rr f.high : Fr }).high.getD i (0 :
    Int)) ∧ True) ∧ True) ∧ ((sm ((16 : Nat)) ∧ sm ((1 : Nat)) ∧ ∀ (i : Nat), i < (16 : Nat) → sm ((invS { low := rr (invS { low := rr f.low, high := rr f.high : Fr }).low, high := rr (invS { low := rr f.low, high := rr f.high : Fr }).high : Fr }).low.getD
    i (0 : Int)) ∧ True) ∧ (sm ((16 : Nat)) ∧ sm ((1 : Nat)) ∧ ∀ (i : Nat), i < (16 : Nat) → sm ((invS { low := rr (invS { low := rr f.low, high := rr f.high : Fr }).low, high := rr (invS { low := rr f.low, high := rr f.high : Fr }).high : Fr }).high.getD
    i (0 : Int)) ∧ True) ∧ True) ∧ ((sm ((16 : Nat)) ∧ sm ((0 : Nat) + (1 : Nat)) ∧ ∀ (i : Nat), i < (16 : Nat) → sm (f.low.getD i (0 : Int)) ∧ True) ∧ (sm ((16 : Nat))
    ∧ sm ((0 : Nat) + (1 : Nat)) ∧ ∀ (i : Nat), i < (16 : Nat) → sm (f.high.getD i (0 : Int)) ∧ True) ∧ True) ∧ True ∧ ((sm ((16 : Nat)) ∧ sm ((0 : Nat) + (1 : Nat))
    ∧ ∀ (i : Nat), i < (16 : Nat) → sm (f.low.getD i (0 : Int)) ∧ True) ∧ (sm ((16 : Nat)) ∧ sm ((0 : Nat) + (1 : Nat)) ∧ ∀ (i : Nat), i < (16 : Nat) → sm (f.high.getD
    i (0 : Int)) ∧ True) ∧ True) ∧ sm (d.x.tmod (64 : Int)) ∧ sm (d.y.tmod (16 : Int)) ∧ ((sm ((16 : Nat)) ∧ sm ((1 : Nat)) ∧ ∀ (i : Nat), i < (16 : Nat) → sm ((shiftS
    { low := rr f.low, high := rr f.high : Fr } (d.x.tmod (64 : Int)) (d.y.tmod (16 : Int))).low.getD i (0 : Int)) ∧ True) ∧ (sm ((16 : Nat)) ∧ sm ((1 : Nat)) ∧ ∀ (i
    : Nat), i < (16 : Nat) → sm ((shiftS { low := rr f.low, high := rr f.high : Fr } (d.x.tmod (64 : Int)) (d.y.tmod (16 : Int))).high.getD i (0 : Int)) ∧ True) ∧ True)
    ∧ sm (d.x.tmod (64 : Int)) ∧ sm (W ((0 : Int) - d.x.tmod (64 : Int))) ∧ sm (d.y.tmod (16 : Int)) ∧ sm (W ((0 : Int) - d.y.tmod (16 : Int))) ∧ ((sm ((16 : Nat)) ∧
    sm ((1 : Nat)) ∧ ∀ (i : Nat), i < (16 : Nat) → sm ((shiftS { low := rr (shiftS { low := rr f.low, high := rr f.high : Fr } (d.x.tmod (64 : Int)) (d.y.tmod (16 : Int))).low, high := rr (shiftS { low := rr f.low, high := rr f.high : Fr } (d.x.tmod (64 : Int)) (d.y.tmod (16 : Int))).high : Fr }
    (W ((0 : Int) - d.x.tmod (64 : Int))) (W ((0 : Int) - d.y.tmod (16 : Int)))).low.getD i (0 : Int)) ∧ True) ∧ (sm ((16 : Nat)) ∧ sm ((1 : Nat)) ∧ ∀ (i : Nat), i <
    (16 : Nat) → sm ((shiftS { low := rr (shiftS { low := rr f.low, high := rr f.high : Fr } (d.x.tmod (64 : Int)) (d.y.tmod (16 : Int))).low, high := rr (shiftS { low := rr f.low, high := rr f.high : Fr } (d.x.tmod (64 : Int)) (d.y.tmod (16 : Int))).high : Fr }
    (W ((0 : Int) - d.x.tmod (64 : Int))) (W ((0 : Int) - d.y.tmod (16 : Int)))).high.getD i (0 : Int)) ∧ True) ∧ True) ∧ True ∧ True ∧ True ∧ True ∧ True ∧ True ∧ True
    ∧ True ∧ True ∧ True ∧ True ∧ True ∧ True ∧ True ∧ True ∧ True ∧ True ∧ True ∧ True ∧ True ∧ True ∧ True ∧ True ∧ True ∧ True ∧ True ∧ True ∧ True ∧ True ∧ True
    ∧ True ∧ True ∧ True ∧ True ∧ True ∧ True ∧ True ∧ True ∧ True ∧ True ∧ True ∧ True ∧ True ∧ True ∧ True ∧ True ∧ True ∧ True ∧ True ∧ True ∧ True ∧ True ∧ True
    ∧ True ∧ True ∧ True ∧ True ∧ True ∧ True ∧ True ∧ True ∧ True ∧ True ∧ True ∧ True ∧ True ∧ True ∧ True ∧ True ∧ True ∧ True ∧ True ∧ True ∧ True ∧ True ∧ True
    ∧ True ∧ True ∧ True ∧ True ∧ True ∧ True ∧ True ∧ True ∧ True ∧ True ∧ True ∧ True ∧ True) ∧ ((if false = true then [] else List.map Seg.shape [Seg.a (16 : Nat)
    (1 : Nat) fun j => [SV.int IntKind.u64 (f.low.getD j (0 : Int))], Seg.a (16 : Nat) (1 : Nat) fun j => [SV.int IntKind.u64 (f.high.getD j (0 : Int))]]) = if false
    = true then [] else List.map Seg.shape [Seg.a (16 : Nat) (1 : Nat) fun j => [SV.int IntKind.u64 (f.low.getD j (0 : Int))], Seg.a (16 : Nat) (1 : Nat) fun j => [SV.int
    IntKind.u64 (f.high.getD j (0 : Int))]]) ∧ ((sm ((16 : Nat)) ∧ sm ((1 : Nat)) ∧ ∀ (i : Nat), i < (16 : Nat) → sm (f.low.getD i (0 : Int)) ∧ True) ∧ (sm ((16 : Nat))
    ∧ sm ((1 : Nat)) ∧ ∀ (i : Nat), i < (16 : Nat) → sm (f.high.getD i (0 : Int)) ∧ True) ∧ True) ∧ ((if false = true then [] else List.map Seg.shape [Seg.s (SV.int
    IntKind.i64 d.x), Seg.s (SV.int IntKind.i64 d.y), Seg.s (SV.int IntKind.i64 d.level)]) = if false = true then [] else List.map Seg.shape [Seg.s (SV.int IntKind.i64
    d.x), Seg.s (SV.int IntKind.i64 d.y), Seg.s (SV.int IntKind.i64 d.level)]) ∧ (d.x = d.x ∧ d.y = d.y ∧ d.level = d.level ∧ True) ∧ ((if false = true then [] else
    List.map Seg.shape ([Seg.a (16 : Nat) (1 : Nat) fun x => [SV.int IntKind.u64 (0 : Int)]] ++ ([Seg.a (16 : Nat) (1 : Nat) fun x => [SV.int IntKind.u64 (0 : Int)]]
    ++ []))) = if false = true then [] else List.map Seg.shape ([Seg.a (16 : Nat) (1 : Nat) fun x => [SV.int IntKind.u64 (0 : Int)]] ++ ([Seg.a (16 : Nat) (1 : Nat)
    fun x => [SV.int IntKind.u64 (0 : Int)]] ++ []))) ∧ ((sm ((16 : Nat)) ∧ sm ((1 : Nat)) ∧ ∀ (i : Nat), i < (16 : Nat) → sm ((shiftS { low := rr (shiftS { low := rr f.low, high := rr f.high : Fr } (d.x.tmod (64 : Int)) (d.y.tmod (16 : Int))).low, high := rr (shiftS { low := rr f.low, high := rr f.high : Fr } (d.x.tmod (64 : Int)) (d.y.tmod (16 : Int))).high : Fr }
    (W ((0 : Int) - d.x.tmod (64 : Int))) (W ((0 : Int) - d.y.tmod (16 : Int)))).low.getD i (0 : Int)) ∧ True) ∧ (sm ((16 : Nat)) ∧ sm ((1 : Nat)) ∧ ∀ (i : Nat), i <
    (16 : Nat) → sm ((shiftS { low := rr (shiftS { low := rr f.low, high := rr f.high : Fr } (d.x.tmod (64 : Int)) (d.y.tmod (16 : Int))).low, high := rr (shiftS { low := rr f.low, high := rr f.high : Fr } (d.x.tmod (64 : Int)) (d.y.tmod (16 : Int))).high : Fr }
    (W ((0 : Int) - d.x.tmod (64 : Int))) (W ((0 : Int) - d.y.tmod (16 : Int)))).high.getD i (0 : Int)) ∧ True) ∧ True) ∧ True)) ∧ (decide (n < (16 : Int)) = false →
    (t16 ∧ t16 ∧ True) ∧ (((∀ (i : Nat), i < (16 : Nat) → true = true ∧ True) ∧ ∀ (i : Nat), i < (16 : Nat) → true = true ∧ True) ∧ okF { low := rr f.low, high := rr f.high : Fr })
    ∧ (t16 ∧ t16 ∧ True) ∧ (((∀ (i : Nat), i < (16 : Nat) → true = true ∧ True) ∧ ∀ (i : Nat), i < (16 : Nat) → true = true ∧ True) ∧ okF { low := rr f.low, high := rr f.high : Fr })
    ∧ (t16 ∧ t16 ∧ True) ∧ (((∀ (i : Nat), i < (16 : Nat) → true = true ∧ True) ∧ ∀ (i : Nat), i < (16 : Nat) → true = true ∧ True) ∧ okF { low := rr (invS { low := rr f.low, high := rr f.high : Fr }).low, high := rr (invS { low := rr f.low, high := rr f.high : Fr }).high : Fr })
    ∧ (∀ (i : Nat), i < (4 : Nat) → true = true) ∧ (∀ (i : Nat), i < (4 : Nat) → true = true) ∧ IsT true ∧ ((0 : Int) ≤ (0 : Int) ∧ (0 : Int) < (4 : Int)) ∧ (0 : Nat)
    < (4 : Nat) ∧ ((0 : Int) ≤ (3 : Int) ∧ (3 : Int) < (4 : Int)) ∧ (3 : Nat) < (4 : Nat) ∧ (((cntS { low := rr f.low, high := rr f.high : Fr }).getD (0 : Nat) (0 :
    Int) == (cntS { low := rr (invS { low := rr f.low, high := rr f.high : Fr }).low, high := rr (invS { low := rr f.low, high := rr f.high : Fr }).high : Fr }).getD
    (3 : Nat) (0 : Int)) = true → ((0 : Int) ≤ (1 : Int) ∧ (1 : Int) < (4 : Int)) ∧ (1 : Nat) < (4 : Nat) ∧ ((0 : Int) ≤ (2 : Int) ∧ (2 : Int) < (4 : Int)) ∧ (2 : Nat)
    < (4 : Nat) ∧ (((cntS { low := rr f.low, high := rr f.high : Fr }).getD (1 : Nat) (0 : Int) == (cntS { low := rr (invS { low := rr f.low, high := rr f.high : Fr }).low, high := rr (invS { low := rr f.low, high := rr f.high : Fr }).high : Fr }).getD
    (2 : Nat) (0 : Int)) = true → ((0 : Int) ≤ (2 : Int) ∧ (2 : Int) < (4 : Int)) ∧ (2 : Nat) < (4 : Nat) ∧ ((0 : Int) ≤ (1 : Int) ∧ (1 : Int) < (4 : Int)) ∧ (1 : Nat)
    < (4 : Nat) ∧ (((cntS { low := rr f.low, high := rr f.high : Fr }).getD (2 : Nat) (0 : Int) == (cntS { low := rr (invS { low := rr f.low, high := rr f.high : Fr }).low, high := rr (invS { low := rr f.low, high := rr f.high : Fr }).high : Fr }).getD
    (1 : Nat) (0 : Int)) = true → ((0 : Int) ≤ (3 : Int) ∧ (3 : Int) < (4 : Int)) ∧ (3 : Nat) < (4 : Nat) ∧ ((0 : Int) ≤ (0 : Int) ∧ (0 : Int) < (4 : Int)) ∧ (0 : Nat)
    < (4 : Nat) ∧ (((cntS { low := rr f.low, high := rr f.high : Fr }).getD (3 : Nat) (0 : Int) == (cntS { low := rr (invS { low := rr f.low, high := rr f.high : Fr }).low, high := rr (invS { low := rr f.low, high := rr f.high : Fr }).high : Fr }).getD
    (0 : Nat) (0 : Int)) = true → ((0 : Int) ≤ (0 : Int) ∧ (0 : Int) < (4 : Int)) ∧ (0 : Nat) < (4 : Nat) ∧ ((0 : Int) ≤ (1 : Int) ∧ (1 : Int) < (4 : Int)) ∧ (1 : Nat)
    < (4 : Nat) ∧ ((0 : Int) ≤ (2 : Int) ∧ (2 : Int) < (4 : Int)) ∧ (2 : Nat) < (4 : Nat) ∧ ((0 : Int) ≤ (3 : Int) ∧ (3 : Int) < (4 : Int)) ∧ (3 : Nat) < (4 : Nat) ∧
    ((W (W (W ((cntS { low := rr f.low, high := rr f.high : Fr }).getD (0 : Nat) (0 : Int) + (cntS { low := rr f.low, high := rr f.high : Fr }).getD (1 : Nat) (0 : Int))
    + (cntS { low := rr f.low, high := rr f.high : Fr }).getD (2 : Nat) (0 : Int)) + (cntS { low := rr f.low, high := rr f.high : Fr }).getD (3 : Nat) (0 : Int)) ==
    (1024 : Int)) = true → (True ∧ True) ∧ True ∧ True ∧ true = true ∧ True) ∧ ((W (W (W ((cntS { low := rr f.low, high := rr f.high : Fr }).getD (0 : Nat) (0 : Int)
    + (cntS { low := rr f.low, high := rr f.high : Fr }).getD (1 : Nat) (0 : Int)) + (cntS { low := rr f.low, high := rr f.high : Fr }).getD (2 : Nat) (0 : Int)) + (cntS
    { low := rr f.low, high := rr f.high : Fr }).getD (3 : Nat) (0 : Int)) == (1024 : Int)) = false → True ∧ True ∧ true = false ∧ True)) ∧ (((cntS { low := rr f.low, high := rr f.high : Fr }).getD
    (3 : Nat) (0 : Int) == (cntS { low := rr (invS { low := rr f.low, high := rr f.high : Fr }).low, high := rr (invS { low := rr f.low, high := rr f.high : Fr }).high : Fr }).getD
    (0 : Nat) (0 : Int)) = false → True ∧ True ∧ true = false ∧ True)) ∧ (((cntS { low := rr f.low, high := rr f.high : Fr }).getD (2 : Nat) (0 : Int) == (cntS { low := rr (invS { low := rr f.low, high := rr f.high : Fr }).low, high := rr (invS { low := rr f.low, high := rr f.high : Fr }).high : Fr }).getD
    (1 : Nat) (0 : Int)) = false → True ∧ True ∧ true = false ∧ True)) ∧ (((cntS { low := rr f.low, high := rr f.high : Fr }).getD (1 : Nat) (0 : Int) == (cntS { low := rr (invS { low := rr f.low, high := rr f.high : Fr }).low, high := rr (invS { low := rr f.low, high := rr f.high : Fr }).high : Fr }).getD
    (2 : Nat) (0 : Int)) = false → True ∧ True ∧ true = false ∧ True)) ∧ (((cntS { low := rr f.low, high := rr f.high : Fr }).getD (0 : Nat) (0 : Int) == (cntS { low := rr (invS { low := rr f.low, high := rr f.high : Fr }).low, high := rr (invS { low := rr f.low, high := rr f.high : Fr }).high : Fr }).getD
    (3 : Nat) (0 : Int)) = false → True ∧ True ∧ true = false ∧ True)))) = vc12 f d := by kernel_rfl
theorem v4 (f : Fr) (d : Dot) (s : List UInt8) (ha : okF f) : vc4 f d s := by
  rw [← vc4_eq]
  obtain ⟨l1, l2⟩ := okF_len ha
  simp (maxDischargeDepth := 9) [-List.getD_eq_getElem?_getD, W_def, rr_eq l1, rr_eq l2, rr_def, fr_eta, zero_mk, rrF, eqF_def, eqFr_iff, ha, ok_text]
  omega
theorem v5 (a b : Fr) (m : Mix) (ha : okF a) (hb : okF b) : vc5 a b m := by
  rw [← vc5_eq]
  obtain ⟨l1, l2⟩ := okF_len ha
  obtain ⟨l3, l4⟩ := okF_len hb
  simp (maxDischargeDepth := 9) [-List.getD_eq_getElem?_getD, W_def, rr_eq l1, rr_eq l2, rr_eq l3, rr_eq l4, rr_def, fr_eta, zero_mk, rrF, eqF_def, eqFr_iff, ha, hb, ok_bld]
  intro n n0 n1 n2
  rw [W_id (by omega) (by omega)]; omega
theorem v8 (f : Fr) (ha : okF f) : vc8 f := by
  rw [← vc8_eq]
  obtain ⟨l1, l2⟩ := okF_len ha
  simp (maxDischargeDepth := 9) [-List.getD_eq_getElem?_getD, W_def, rr_eq l1, rr_eq l2, rr_def, fr_eta, zero_mk, rrF, eqF_def, eqFr_iff, ha, ok_bld, rows_len]
  intro n n0 n1 n2
  rw [W_id (by omega) (by omega)]; omega
theorem cnt_inv (f : Fr) {k m : Int} (hk : m = 3 - k) : cA f k 16 = cA (invS f) m 16 := cA_congr fun y hy => by
  rw [cR_def, cR_def]
  refine cN_congr fun j hj => ?_
  rw [lv_inv hy hj]
  exact decide_eq_decide.2 (by omega)
theorem back {f : Fr} {dx dy a b : Int} (a0 : 0 ≤ a) (a1 : a < 64) (b0 : 0 ≤ b) (b1 : b < 16) : getS (shiftS (shiftS f dx dy) (-dx) (-dy)) a b = if 0 ≤ a + dx ∧ a + dx < 64 ∧ 0 ≤ b + dy ∧ b + dy < 16 then getS f a b else 0 := by
  rw [getS_in a0 a1 b0 b1, lv_shift (by omega) (by omega), Int.toNat_of_nonneg a0, Int.toNat_of_nonneg b0]
  have e1 : a - -dx = a + dx := by omega
  have e2 : b - -dy = b + dy := by omega
  rw [e1, e2]
  split
  · rename_i h
    rw [getS_in h.1 h.2.1 h.2.2.1 h.2.2.2, lv_shift (by omega) (by omega), Int.toNat_of_nonneg h.1, Int.toNat_of_nonneg h.2.2.1]
    congr 1 <;> omega
  · rename_i h
    exact getS_out h
theorem inv_inv {f : Fr} (ha : okF f) : invS (invS f) = f := lv_ext (ok_inv _) ha fun y x hy hx => by
  rw [lv_inv hy hx, lv_inv hy hx]; omega
theorem v12 (f : Fr) (d : Dot) (ha : okF f) : vc12 f d := by
  rw [← vc12_eq]
  obtain ⟨l1, l2⟩ := okF_len ha
  simp (maxDischargeDepth := 9) [-List.getD_eq_getElem?_getD, W_def, rr_eq l1, rr_eq l2, rr_def, fr_eta, zero_mk, rrF, eqF_def, eqFr_iff, ha, ok_inv, ok_shift]
  have m1 := tmod_bd d.x (k := 64) (by omega)
  have m2 := tmod_bd d.y (k := 16) (by omega)
  generalize d.x.tmod 64 = dx at *
  generalize d.y.tmod 16 = dy at *
  rw [W_id (n := -dx) (by omega) (by omega), W_id (n := -dy) (by omega) (by omega)]
  refine ⟨inv_inv ha, fun _ b b0 b1 => ⟨fun b2 a a0 a1 => ⟨fun a2 => ?_, fun _ => row_step b0 b2⟩, fun _ => ?_⟩⟩
  · have hs := col_step a0 a2
    rw [W_id (n := a + dx) (by omega) (by omega), W_id (n := b + dy) (by omega) (by omega), back a0 a2 b0 b2]
    exact ⟨fun h1 => ⟨fun h2 => ⟨fun h3 => ⟨fun h4 => ⟨if_pos ⟨h1, h2, h3, h4⟩, fun _ => hs⟩, fun h4 => ⟨if_neg (fun c => by omega), fun _ => hs⟩⟩, fun h3 => ⟨if_neg (fun c => by omega), fun _ => hs⟩⟩, fun h2 => ⟨if_neg (fun c => by omega), fun _ => hs⟩⟩, fun h1 => ⟨if_neg (fun c => by omega), fun _ => hs⟩⟩
  · obtain ⟨c0, c1, c2, c3⟩ := cnt_at f
    obtain ⟨i0, i1, i2, i3⟩ := cnt_at (invS f)
    rw [c0, c1, c2, c3, i0, i1, i2, i3]
    have s := cA_sum f 16
    have q0 := cA_bd f 0 16
    have q1 := cA_bd f 1 16
    have q2 := cA_bd f 2 16
    have q3 := cA_bd f 3 16
    have w : W (W (W (cA f 0 16 + cA f 1 16) + cA f 2 16) + cA f 3 16) = 1024 := by
      rw [W_id (n := cA f 0 16 + cA f 1 16) (by omega) (by omega), W_id (n := cA f 0 16 + cA f 1 16 + cA f 2 16) (by omega) (by omega), W_id (by omega) (by omega)]; omega
    exact ⟨fun _ => ⟨fun _ => ⟨fun _ => ⟨fun _ => w, cnt_inv f rfl⟩, cnt_inv f rfl⟩, cnt_inv f rfl⟩, cnt_inv f rfl⟩
end Go.Proofs.Do
