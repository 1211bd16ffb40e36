import Derived.Test.YtjmjndfdociiiaaDoI
namespace Go.Proofs.Do
set_option linter.unusedVariables false
set_option linter.unusedSimpArgs false
open Go Go.Sx Go.Proofs
set_option maxRecDepth 100000
set_option maxHeartbeats 8000000
-- SAME: sm
-- ABBR: (∀ (i : Nat), i < (16 : Nat) → true = true) ==> t16
-- ABBR: IntKind.i64.wrap ==> W
-- ROWS: rowL (codI IntKind.u64) (16 : Nat) fun j => [SV.int IntKind.u64 ( ==> .getD j (0 : Int) ==> rr
-- ABBR: [(0 : Int), (0 : Int), (0 : Int), (0 : Int), (0 : Int), (0 : Int), (0 : Int), (0 : Int), (0 : Int), (0 : Int), (0 : Int), (0 : Int), (0 : Int), (0 : Int), (0 : Int), (0 : Int)] ==> z16
def upB (c : Int) : Int := if 97 ≤ c ∧ c ≤ 122 then c - 32 else c
def byI (s : List UInt8) (j : Nat) : Int := ((s.getD j 0).toNat : Int)
def U11 (s : List UInt8) (i : Int) (l : List Int) : Prop := 0 ≤ i ∧ i ≤ s.length ∧ l = (List.range s.length).map fun (j : Nat) => if (j : Int) < i then upB (byI s j) else byI s j
attribute [irreducible] upB byI U11
def A11 (s : List UInt8) : List Ann := [⟨.unit, .list [.int .i64 (.tm 10), .arrL (codI .u8) s.length 2 0], fun _ (x : X2) => U11 s x.1 x.2, fun _ (x : X2) => ((s.length : Int) - x.1).toNat⟩,
  ⟨.unit, .int .i64 (.tm 11), fun _ (y : Int) => 0 ≤ y ∧ y ≤ 16, fun _ (y : Int) => (16 - y).toNat⟩,
  ⟨.int .i64 (.tm 11), .int .i64 (.tm 12), fun (y x : Int) => 0 ≤ x ∧ x ≤ 64, fun (y x : Int) => (64 - x).toNat⟩]
noncomputable def vc11 (s : List UInt8) (k : Int) (d : Dot) : Prop := cva T16 Try.f11 (A11 s) [.str s, .int .u8 k, encD d] (.bool true)
theorem vc11_eq (s : List UInt8) (k : Int) (d : Dot) : (True ∧ True ∧ (decide (↑s.length > (10 : Int)) = true → (True ∧ True) ∧ True ∧ True ∧ true = true ∧ True) ∧ (decide (↑s.length > (10 : Int)) = false → W (↑s.length
    + (1 : Int)) ≠ (0 : Int) ∧ True ∧ (t16 ∧ t16 ∧ True) ∧ True ∧ True ∧ True ∧ True ∧ ((((∀ (i : Nat), i < (16 : Nat) → true = true ∧ True) ∧ ∀ (i : Nat), i < (16 :
    Nat) → true = true ∧ True) ∧ True ∧ True ∧ True ∧ True) ∧ okF { low := z16, high := z16 : Fr }) ∧ t16 ∧ t16 ∧ True ∧ ((0 : Int) ≤ (0 : Int) ∧ (0 : Int) ≤ (W k).tmod
    (W (↑s.length + (1 : Int))) ∧ (W k).tmod (W (↑s.length + (1 : Int))) ≤ ↑s.length) ∧ (t16 ∧ t16 ∧ True) ∧ True ∧ True ∧ True ∧ True ∧ ((((∀ (i : Nat), i < (16 : Nat)
    → true = true ∧ True) ∧ ∀ (i : Nat), i < (16 : Nat) → true = true ∧ True) ∧ True ∧ True ∧ True ∧ True) ∧ okF { low := z16, high := z16 : Fr }) ∧ ((0 : Int) ≤ (W
    k).tmod (W (↑s.length + (1 : Int))) ∧ (W k).tmod (W (↑s.length + (1 : Int))) ≤ ↑s.length ∧ LE.le (α := Int) ↑s.length ↑s.length) ∧ (t16 ∧ t16 ∧ True) ∧ True ∧ True
    ∧ True ∧ True ∧ ((((∀ (i : Nat), i < (16 : Nat) → true = true ∧ True) ∧ ∀ (i : Nat), i < (16 : Nat) → true = true ∧ True) ∧ True ∧ True ∧ True ∧ True) ∧ okF { low := rr (textS { low := z16, high := z16 : Fr } (2 : Int) (3 : Int) (List.drop (0 : Nat) (List.take ((W k).tmod (W (↑s.length + (1 : Int)))).toNat s)) (3 : Int)).low, high := rr (textS { low := z16, high := z16 : Fr } (2 : Int) (3 : Int) (List.drop (0 : Nat) (List.take ((W k).tmod (W (↑s.length + (1 : Int)))).toNat s)) (3 : Int)).high : Fr })
    ∧ ((t16 ∧ t16 ∧ True) ∧ t16 ∧ t16 ∧ True) ∧ IsT true ∧ ((!eqSegs [Seg.a (16 : Nat) (1 : Nat) fun j => [SV.int IntKind.u64 ((textS { low := rr (textS { low := z16, high := z16 : Fr } (2 : Int) (3 : Int) (List.drop (0 : Nat) (List.take ((W k).tmod (W (↑s.length + (1 : Int)))).toNat s)) (3 : Int)).low, high := rr (textS { low := z16, high := z16 : Fr } (2 : Int) (3 : Int) (List.drop (0 : Nat) (List.take ((W k).tmod (W (↑s.length + (1 : Int)))).toNat s)) (3 : Int)).high : Fr }
    (W ((2 : Int) + W ((6 : Int) * (W k).tmod (W (↑s.length + (1 : Int)))))) (3 : Int) (List.drop ((W k).tmod (W (↑s.length + (1 : Int)))).toNat (List.take (Int.toNat
    ↑s.length) s)) (3 : Int)).low.getD j (0 : Int))], Seg.a (16 : Nat) (1 : Nat) fun j => [SV.int IntKind.u64 ((textS { low := rr (textS { low := z16, high := z16 : Fr } (2 : Int) (3 : Int) (List.drop (0 : Nat) (List.take ((W k).tmod (W (↑s.length + (1 : Int)))).toNat s)) (3 : Int)).low, high := rr (textS { low := z16, high := z16 : Fr } (2 : Int) (3 : Int) (List.drop (0 : Nat) (List.take ((W k).tmod (W (↑s.length + (1 : Int)))).toNat s)) (3 : Int)).high : Fr }
    (W ((2 : Int) + W ((6 : Int) * (W k).tmod (W (↑s.length + (1 : Int)))))) (3 : Int) (List.drop ((W k).tmod (W (↑s.length + (1 : Int)))).toNat (List.take (Int.toNat
    ↑s.length) s)) (3 : Int)).high.getD j (0 : Int))]] [Seg.a (16 : Nat) ((0 : Nat) + (1 : Nat)) fun j => [SV.int IntKind.u64 ((textS { low := z16, high := z16 : Fr }
    (2 : Int) (3 : Int) s (3 : Int)).low.getD j (0 : Int))], Seg.a (16 : Nat) ((0 : Nat) + (1 : Nat)) fun j => [SV.int IntKind.u64 ((textS { low := z16, high := z16 : Fr }
    (2 : Int) (3 : Int) s (3 : Int)).high.getD j (0 : Int))]]) = true → True ∧ True ∧ true = false ∧ True) ∧ ((!eqSegs [Seg.a (16 : Nat) (1 : Nat) fun j => [SV.int IntKind.u64
    ((textS { low := rr (textS { low := z16, high := z16 : Fr } (2 : Int) (3 : Int) (List.drop (0 : Nat) (List.take ((W k).tmod (W (↑s.length + (1 : Int)))).toNat s)) (3 : Int)).low, high := rr (textS { low := z16, high := z16 : Fr } (2 : Int) (3 : Int) (List.drop (0 : Nat) (List.take ((W k).tmod (W (↑s.length + (1 : Int)))).toNat s)) (3 : Int)).high : Fr }
    (W ((2 : Int) + W ((6 : Int) * (W k).tmod (W (↑s.length + (1 : Int)))))) (3 : Int) (List.drop ((W k).tmod (W (↑s.length + (1 : Int)))).toNat (List.take (Int.toNat
    ↑s.length) s)) (3 : Int)).low.getD j (0 : Int))], Seg.a (16 : Nat) (1 : Nat) fun j => [SV.int IntKind.u64 ((textS { low := rr (textS { low := z16, high := z16 : Fr } (2 : Int) (3 : Int) (List.drop (0 : Nat) (List.take ((W k).tmod (W (↑s.length + (1 : Int)))).toNat s)) (3 : Int)).low, high := rr (textS { low := z16, high := z16 : Fr } (2 : Int) (3 : Int) (List.drop (0 : Nat) (List.take ((W k).tmod (W (↑s.length + (1 : Int)))).toNat s)) (3 : Int)).high : Fr }
    (W ((2 : Int) + W ((6 : Int) * (W k).tmod (W (↑s.length + (1 : Int)))))) (3 : Int) (List.drop ((W k).tmod (W (↑s.length + (1 : Int)))).toNat (List.take (Int.toNat
    ↑s.length) s)) (3 : Int)).high.getD j (0 : Int))]] [Seg.a (16 : Nat) ((0 : Nat) + (1 : Nat)) fun j => [SV.int IntKind.u64 ((textS { low := z16, high := z16 : Fr }
    (2 : Int) (3 : Int) s (3 : Int)).low.getD j (0 : Int))], Seg.a (16 : Nat) ((0 : Nat) + (1 : Nat)) fun j => [SV.int IntKind.u64 ((textS { low := z16, high := z16 : Fr }
    (2 : Int) (3 : Int) s (3 : Int)).high.getD j (0 : Int))]]) = false → True ∧ True ∧ (U11 s (0 : Int) (rowL (codI IntKind.u8) s.length (byteSV s)) ∧ (s = s ∧ k = k
    ∧ (d.x = d.x ∧ d.y = d.y ∧ d.level = d.level ∧ True) ∧ True ∧ True ∧ True ∧ True ∧ sm ((W k).tmod (W (↑s.length + (1 : Int)))) ∧ True ∧ (sm ((0 : Nat)) ∧ s.length
    = s.length) ∧ sm ((0 : Int)) ∧ True ∧ True ∧ True ∧ True ∧ s = s ∧ Eq (α := Int) ↑s.length ↑s.length ∧ True ∧ True ∧ k = k ∧ W k = W k ∧ s = s ∧ Eq (α := Int) ↑s.length
    ↑s.length ∧ sm (W (↑s.length + (1 : Int))) ∧ sm ((W k).tmod (W (↑s.length + (1 : Int)))) ∧ ((sm ((16 : Nat)) ∧ sm ((1 : Nat)) ∧ ∀ (i : Nat), i < (16 : Nat) → sm
    ((0 : Int)) ∧ True) ∧ (sm ((16 : Nat)) ∧ sm ((1 : Nat)) ∧ ∀ (i : Nat), i < (16 : Nat) → sm ((0 : Int)) ∧ True) ∧ True) ∧ s = s ∧ ((sm ((16 : Nat)) ∧ sm ((1 : Nat))
    ∧ ∀ (i : Nat), i < (16 : Nat) → sm ((textS { low := z16, high := z16 : Fr } (2 : Int) (3 : Int) s (3 : Int)).low.getD i (0 : Int)) ∧ True) ∧ (sm ((16 : Nat)) ∧ sm
    ((1 : Nat)) ∧ ∀ (i : Nat), i < (16 : Nat) → sm ((textS { low := z16, high := z16 : Fr } (2 : Int) (3 : Int) s (3 : Int)).high.getD i (0 : Int)) ∧ True) ∧ True) ∧
    ((sm ((16 : Nat)) ∧ sm ((1 : Nat)) ∧ ∀ (i : Nat), i < (16 : Nat) → sm ((0 : Int)) ∧ True) ∧ (sm ((16 : Nat)) ∧ sm ((1 : Nat)) ∧ ∀ (i : Nat), i < (16 : Nat) → sm
    ((0 : Int)) ∧ True) ∧ True) ∧ s = s ∧ sm ((W k).tmod (W (↑s.length + (1 : Int)))) ∧ sm (List.drop (0 : Nat) (List.take ((W k).tmod (W (↑s.length + (1 : Int)))).toNat
    s)) ∧ ((sm ((16 : Nat)) ∧ sm ((1 : Nat)) ∧ ∀ (i : Nat), i < (16 : Nat) → sm ((textS { low := z16, high := z16 : Fr } (2 : Int) (3 : Int) (List.drop (0 : Nat) (List.take
    ((W k).tmod (W (↑s.length + (1 : Int)))).toNat s)) (3 : Int)).low.getD i (0 : Int)) ∧ True) ∧ (sm ((16 : Nat)) ∧ sm ((1 : Nat)) ∧ ∀ (i : Nat), i < (16 : Nat) → sm
    ((textS { low := z16, high := z16 : Fr } (2 : Int) (3 : Int) (List.drop (0 : Nat) (List.take ((W k).tmod (W (↑s.length + (1 : Int)))).toNat s)) (3 : Int)).high.getD
    i (0 : Int)) ∧ True) ∧ True) ∧ sm ((W k).tmod (W (↑s.length + (1 : Int)))) ∧ sm (W ((6 : Int) * (W k).tmod (W (↑s.length + (1 : Int))))) ∧ sm (W ((2 : Int) + W ((6
    : Int) * (W k).tmod (W (↑s.length + (1 : Int)))))) ∧ s = s ∧ sm ((W k).tmod (W (↑s.length + (1 : Int)))) ∧ sm (List.drop ((W k).tmod (W (↑s.length + (1 : Int)))).toNat
    (List.take (Int.toNat ↑s.length) s)) ∧ ((sm ((16 : Nat)) ∧ sm ((1 : Nat)) ∧ ∀ (i : Nat), i < (16 : Nat) → sm ((textS { low := rr (textS { low := z16, high := z16 : Fr } (2 : Int) (3 : Int) (List.drop (0 : Nat) (List.take ((W k).tmod (W (↑s.length + (1 : Int)))).toNat s)) (3 : Int)).low, high := rr (textS { low := z16, high := z16 : Fr } (2 : Int) (3 : Int) (List.drop (0 : Nat) (List.take ((W k).tmod (W (↑s.length + (1 : Int)))).toNat s)) (3 : Int)).high : Fr }
    (W ((2 : Int) + W ((6 : Int) * (W k).tmod (W (↑s.length + (1 : Int)))))) (3 : Int) (List.drop ((W k).tmod (W (↑s.length + (1 : Int)))).toNat (List.take (Int.toNat
    ↑s.length) s)) (3 : Int)).low.getD i (0 : Int)) ∧ True) ∧ (sm ((16 : Nat)) ∧ sm ((1 : Nat)) ∧ ∀ (i : Nat), i < (16 : Nat) → sm ((textS { low := rr (textS { low := z16, high := z16 : Fr } (2 : Int) (3 : Int) (List.drop (0 : Nat) (List.take ((W k).tmod (W (↑s.length + (1 : Int)))).toNat s)) (3 : Int)).low, high := rr (textS { low := z16, high := z16 : Fr } (2 : Int) (3 : Int) (List.drop (0 : Nat) (List.take ((W k).tmod (W (↑s.length + (1 : Int)))).toNat s)) (3 : Int)).high : Fr }
    (W ((2 : Int) + W ((6 : Int) * (W k).tmod (W (↑s.length + (1 : Int)))))) (3 : Int) (List.drop ((W k).tmod (W (↑s.length + (1 : Int)))).toNat (List.take (Int.toNat
    ↑s.length) s)) (3 : Int)).high.getD i (0 : Int)) ∧ True) ∧ True) ∧ ((sm ((16 : Nat)) ∧ sm ((0 : Nat) + (1 : Nat)) ∧ ∀ (i : Nat), i < (16 : Nat) → sm ((textS { low := z16, high := z16 : Fr }
    (2 : Int) (3 : Int) s (3 : Int)).low.getD i (0 : Int)) ∧ True) ∧ (sm ((16 : Nat)) ∧ sm ((0 : Nat) + (1 : Nat)) ∧ ∀ (i : Nat), i < (16 : Nat) → sm ((textS { low := z16, high := z16 : Fr }
    (2 : Int) (3 : Int) s (3 : Int)).high.getD i (0 : Int)) ∧ True) ∧ True) ∧ True ∧ s = s ∧ (sm ((0 : Nat)) ∧ s.length = s.length) ∧ True ∧ True ∧ True ∧ True ∧ True
    ∧ True ∧ True ∧ True ∧ True ∧ True ∧ True ∧ True ∧ True ∧ True ∧ True ∧ True ∧ True ∧ True ∧ True ∧ True ∧ True ∧ True ∧ True ∧ True ∧ True ∧ True ∧ True ∧ True
    ∧ True ∧ True ∧ True ∧ True ∧ True ∧ True ∧ True ∧ True ∧ True ∧ True ∧ True ∧ True ∧ True ∧ True ∧ True ∧ True ∧ True ∧ True ∧ True ∧ True ∧ True ∧ True ∧ True
    ∧ True ∧ True ∧ True ∧ True ∧ True ∧ True ∧ True ∧ True ∧ True ∧ True ∧ True ∧ True ∧ True ∧ True ∧ True ∧ True ∧ True ∧ True ∧ True ∧ True ∧ True ∧ True ∧ True
    ∧ True ∧ True ∧ True ∧ True ∧ True ∧ True ∧ True ∧ True ∧ True ∧ True ∧ True ∧ True ∧ True) ∧ ((if false = true then [] else List.map Seg.shape [Seg.s (SV.int IntKind.i64
    d.x), Seg.s (SV.int IntKind.i64 d.y), Seg.s (SV.int IntKind.i64 d.level)]) = if false = true then [] else List.map Seg.shape [Seg.s (SV.int IntKind.i64 d.x), Seg.s
    (SV.int IntKind.i64 d.y), Seg.s (SV.int IntKind.i64 d.level)]) ∧ (d.x = d.x ∧ d.y = d.y ∧ d.level = d.level ∧ True) ∧ ((if false = true then [] else List.map Seg.shape
    ([Seg.a (16 : Nat) (1 : Nat) fun x => [SV.int IntKind.u64 (0 : Int)]] ++ ([Seg.a (16 : Nat) (1 : Nat) fun x => [SV.int IntKind.u64 (0 : Int)]] ++ []))) = if false
    = true then [] else List.map Seg.shape ([Seg.a (16 : Nat) (1 : Nat) fun x => [SV.int IntKind.u64 (0 : Int)]] ++ ([Seg.a (16 : Nat) (1 : Nat) fun x => [SV.int IntKind.u64
    (0 : Int)]] ++ []))) ∧ ((sm ((16 : Nat)) ∧ sm ((1 : Nat)) ∧ ∀ (i : Nat), i < (16 : Nat) → sm ((textS { low := z16, high := z16 : Fr } (2 : Int) (3 : Int) s (3 :
    Int)).low.getD i (0 : Int)) ∧ True) ∧ (sm ((16 : Nat)) ∧ sm ((1 : Nat)) ∧ ∀ (i : Nat), i < (16 : Nat) → sm ((textS { low := z16, high := z16 : Fr } (2 : Int) (3
    : Int) s (3 : Int)).high.getD i (0 : Int)) ∧ True) ∧ True) ∧ ((if true = true then [] else List.map Seg.shape [Seg.a s.length (1 : Nat) (byteSV s)]) = if true =
    true then [] else List.map Seg.shape [Seg.a s.length (1 : Nat) (byteSV s)]) ∧ ((s.length = s.length ∧ (1 : Nat) = (codI IntKind.u8).n ∧ ∀ (i : Nat), i < s.length
    → ↑(s.getD i (0 : UInt8)).toNat = (rowL (codI IntKind.u8) s.length (byteSV s)).getD i (codI IntKind.u8).dft ∧ True) ∧ True) ∧ True) ∧ ∀ (n : Int) (l : List Int),
    U11 s n l → True ∧ (decide (n < ↑s.length) = true → ((0 : Int) ≤ n ∧ n < ↑s.length) ∧ (0 : Nat) + n.toNat < s.length ∧ (decide (l.getD ((0 : Nat) + n.toNat) (codI
    IntKind.u8).dft ≥ (97 : Int)) = true → ((0 : Int) ≤ n ∧ n < ↑s.length) ∧ (0 : Nat) + n.toNat < s.length ∧ True ∧ (decide (l.getD ((0 : Nat) + n.toNat) (codI IntKind.u8).dft
    ≤ (122 : Int)) = true → ((0 : Int) ≤ n ∧ n < ↑s.length) ∧ (0 : Nat) + n.toNat < s.length ∧ ((0 : Int) ≤ n ∧ n < ↑s.length) ∧ (0 : Nat) + n.toNat < s.length ∧ True
    ∧ True ∧ U11 s (W (n + (1 : Int))) (rowL (codI IntKind.u8) s.length fun i' => mergeL (decide (i' = (0 : Nat) + n.toNat)) (setL ((codI IntKind.u8).enc (l.getD ((0
    : Nat) + n.toNat) (codI IntKind.u8).dft)) (0 : Nat) [SV.int IntKind.u8 (IntKind.u8.wrap (IntKind.u8.wrap (l.getD ((0 : Nat) + n.toNat) (codI IntKind.u8).dft - (97
    : Int)) + (65 : Int)))]) ((codI IntKind.u8).enc (l.getD i' (codI IntKind.u8).dft))) ∧ (↑s.length - W (n + (1 : Int))).toNat < (↑s.length - n).toNat ∧ (s = s ∧ k
    = k ∧ (d.x = d.x ∧ d.y = d.y ∧ d.level = d.level ∧ True) ∧ True ∧ True ∧ True ∧ True ∧ sm ((W k).tmod (W (↑s.length + (1 : Int)))) ∧ True ∧ (sm ((0 : Nat)) ∧ s.length
    = s.length) ∧ sm (W (n + (1 : Int))) ∧ True ∧ True ∧ True ∧ True ∧ s = s ∧ Eq (α := Int) ↑s.length ↑s.length ∧ True ∧ True ∧ k = k ∧ W k = W k ∧ s = s ∧ Eq (α :=
    Int) ↑s.length ↑s.length ∧ sm (W (↑s.length + (1 : Int))) ∧ sm ((W k).tmod (W (↑s.length + (1 : Int)))) ∧ ((sm ((16 : Nat)) ∧ sm ((1 : Nat)) ∧ ∀ (i : Nat), i < (16
    : Nat) → sm ((0 : Int)) ∧ True) ∧ (sm ((16 : Nat)) ∧ sm ((1 : Nat)) ∧ ∀ (i : Nat), i < (16 : Nat) → sm ((0 : Int)) ∧ True) ∧ True) ∧ s = s ∧ ((sm ((16 : Nat)) ∧
    sm ((1 : Nat)) ∧ ∀ (i : Nat), i < (16 : Nat) → sm ((textS { low := z16, high := z16 : Fr } (2 : Int) (3 : Int) s (3 : Int)).low.getD i (0 : Int)) ∧ True) ∧ (sm ((16
    : Nat)) ∧ sm ((1 : Nat)) ∧ ∀ (i : Nat), i < (16 : Nat) → sm ((textS { low := z16, high := z16 : Fr } (2 : Int) (3 : Int) s (3 : Int)).high.getD i (0 : Int)) ∧ True)
    ∧ True) ∧ ((sm ((16 : Nat)) ∧ sm ((1 : Nat)) ∧ ∀ (i : Nat), i < (16 : Nat) → sm ((0 : Int)) ∧ True) ∧ (sm ((16 : Nat)) ∧ sm ((1 : Nat)) ∧ ∀ (i : Nat), i < (16 :
    Nat) → sm ((0 : Int)) ∧ True) ∧ True) ∧ s = s ∧ sm ((W k).tmod (W (↑s.length + (1 : Int)))) ∧ sm (List.drop (0 : Nat) (List.take ((W k).tmod (W (↑s.length + (1 :
    Int)))).toNat s)) ∧ ((sm ((16 : Nat)) ∧ sm ((1 : Nat)) ∧ ∀ (i : Nat), i < (16 : Nat) → sm ((textS { low := z16, high := z16 : Fr } (2 : Int) (3 : Int) (List.drop
    (0 : Nat) (List.take ((W k).tmod (W (↑s.length + (1 : Int)))).toNat s)) (3 : Int)).low.getD i (0 : Int)) ∧ True) ∧ (sm ((16 : Nat)) ∧ sm ((1 : Nat)) ∧ ∀ (i : Nat),
    i < (16 : Nat) → sm ((textS { low := z16, high := z16 : Fr } (2 : Int) (3 : Int) (List.drop (0 : Nat) (List.take ((W k).tmod (W (↑s.length + (1 : Int)))).toNat s))
    (3 : Int)).high.getD i (0 : Int)) ∧ True) ∧ True) ∧ sm ((W k).tmod (W (↑s.length + (1 : Int)))) ∧ sm (W ((6 : Int) * (W k).tmod (W (↑s.length + (1 : Int))))) ∧ sm
    (W ((2 : Int) + W ((6 : Int) * (W k).tmod (W (↑s.length + (1 : Int)))))) ∧ s = s ∧ sm ((W k).tmod (W (↑s.length + (1 : Int)))) ∧ sm (List.drop ((W k).tmod (W (↑s.length
    + (1 : Int)))).toNat (List.take (Int.toNat ↑s.length) s)) ∧ ((sm ((16 : Nat)) ∧ sm ((1 : Nat)) ∧ ∀ (i : Nat), i < (16 : Nat) → sm ((textS { low := rr (textS { low := z16, high := z16 : Fr } (2 : Int) (3 : Int) (List.drop (0 : Nat) (List.take ((W k).tmod (W (↑s.length + (1 : Int)))).toNat s)) (3 : Int)).low, high := rr (textS { low := z16, high := z16 : Fr } (2 : Int) (3 : Int) (List.drop (0 : Nat) (List.take ((W k).tmod (W (↑s.length + (1 : Int)))).toNat s)) (3 : Int)).high : Fr }
    (W ((2 : Int) + W ((6 : Int) * (W k).tmod (W (↑s.length + (1 : Int)))))) (3 : Int) (List.drop ((W k).tmod (W (↑s.length + (1 : Int)))).toNat (List.take (Int.toNat
    ↑s.length) s)) (3 : Int)).low.getD i (0 : Int)) ∧ True) ∧ (sm ((16 : Nat)) ∧ sm ((1 : Nat)) ∧ ∀ (i : Nat), i < (16 : Nat) → sm ((textS { low := rr (textS { low := z16, high := z16 : Fr } (2 : Int) (3 : Int) (List.drop (0 : Nat) (List.take ((W k).tmod (W (↑s.length + (1 : Int)))).toNat s)) (3 : Int)).low, high := rr (textS { low := z16, high := z16 : Fr } (2 : Int) (3 : Int) (List.drop (0 : Nat) (List.take ((W k).tmod (W (↑s.length + (1 : Int)))).toNat s)) (3 : Int)).high : Fr }
    (W ((2 : Int) + W ((6 : Int) * (W k).tmod (W (↑s.length + (1 : Int)))))) (3 : Int) (List.drop ((W k).tmod (W (↑s.length + (1 : Int)))).toNat (List.take (Int.toNat
    ↑s.length) s)) (3 : Int)).high.getD i (0 : Int)) ∧ True) ∧ True) ∧ ((sm ((16 : Nat)) ∧ sm ((0 : Nat) + (1 : Nat)) ∧ ∀ (i : Nat), i < (16 : Nat) → sm ((textS { low := z16, high := z16 : Fr }
    (2 : Int) (3 : Int) s (3 : Int)).low.getD i (0 : Int)) ∧ True) ∧ (sm ((16 : Nat)) ∧ sm ((0 : Nat) + (1 : Nat)) ∧ ∀ (i : Nat), i < (16 : Nat) → sm ((textS { low := z16, high := z16 : Fr }
    (2 : Int) (3 : Int) s (3 : Int)).high.getD i (0 : Int)) ∧ True) ∧ True) ∧ True ∧ s = s ∧ (sm ((0 : Nat)) ∧ s.length = s.length) ∧ True ∧ True ∧ True ∧ True ∧ True
    ∧ True ∧ True ∧ True ∧ True ∧ True ∧ True ∧ True ∧ True ∧ True ∧ True ∧ True ∧ True ∧ True ∧ True ∧ True ∧ True ∧ True ∧ True ∧ True ∧ True ∧ True ∧ True ∧ True
    ∧ True ∧ True ∧ True ∧ True ∧ True ∧ True ∧ True ∧ True ∧ True ∧ True ∧ True ∧ True ∧ True ∧ True ∧ True ∧ True ∧ True ∧ True ∧ True ∧ True ∧ True ∧ True ∧ True
    ∧ True ∧ True ∧ True ∧ True ∧ True ∧ True ∧ True ∧ True ∧ True ∧ True ∧ True ∧ True ∧ True ∧ True ∧ True ∧ True ∧ True ∧ True ∧ True ∧ True ∧ True ∧ True ∧ True
    ∧ True ∧ True ∧ True ∧ True ∧ True ∧ True ∧ True ∧ True ∧ True ∧ True ∧ True ∧ True ∧ True) ∧ ((if false = true then [] else List.map Seg.shape [Seg.s (SV.int IntKind.i64
    d.x), Seg.s (SV.int IntKind.i64 d.y), Seg.s (SV.int IntKind.i64 d.level)]) = if false = true then [] else List.map Seg.shape [Seg.s (SV.int IntKind.i64 d.x), Seg.s
    (SV.int IntKind.i64 d.y), Seg.s (SV.int IntKind.i64 d.level)]) ∧ (d.x = d.x ∧ d.y = d.y ∧ d.level = d.level ∧ True) ∧ ((if false = true then [] else List.map Seg.shape
    ([Seg.a (16 : Nat) (1 : Nat) fun x => [SV.int IntKind.u64 (0 : Int)]] ++ ([Seg.a (16 : Nat) (1 : Nat) fun x => [SV.int IntKind.u64 (0 : Int)]] ++ []))) = if false
    = true then [] else List.map Seg.shape ([Seg.a (16 : Nat) (1 : Nat) fun x => [SV.int IntKind.u64 (0 : Int)]] ++ ([Seg.a (16 : Nat) (1 : Nat) fun x => [SV.int IntKind.u64
    (0 : Int)]] ++ []))) ∧ ((sm ((16 : Nat)) ∧ sm ((1 : Nat)) ∧ ∀ (i : Nat), i < (16 : Nat) → sm ((textS { low := z16, high := z16 : Fr } (2 : Int) (3 : Int) s (3 :
    Int)).low.getD i (0 : Int)) ∧ True) ∧ (sm ((16 : Nat)) ∧ sm ((1 : Nat)) ∧ ∀ (i : Nat), i < (16 : Nat) → sm ((textS { low := z16, high := z16 : Fr } (2 : Int) (3
    : Int) s (3 : Int)).high.getD i (0 : Int)) ∧ True) ∧ True) ∧ ((if true = true then [] else List.map Seg.shape [Seg.a s.length (1 : Nat) (byteSV s)]) = if true =
    true then [] else List.map Seg.shape [Seg.a s.length (1 : Nat) (byteSV s)]) ∧ ((s.length = s.length ∧ (0 : Nat) + (1 : Nat) = (codI IntKind.u8).n ∧ ∀ (i : Nat),
    i < s.length → (if decide (i = (0 : Nat) + n.toNat) = true then IntKind.u8.wrap (IntKind.u8.wrap (l.getD ((0 : Nat) + n.toNat) (codI IntKind.u8).dft - (97 : Int))
    + (65 : Int)) else l.getD i (codI IntKind.u8).dft) = (rowL (codI IntKind.u8) s.length fun i' => mergeL (decide (i' = (0 : Nat) + n.toNat)) (setL ((codI IntKind.u8).enc
    (l.getD ((0 : Nat) + n.toNat) (codI IntKind.u8).dft)) (0 : Nat) [SV.int IntKind.u8 (IntKind.u8.wrap (IntKind.u8.wrap (l.getD ((0 : Nat) + n.toNat) (codI IntKind.u8).dft
    - (97 : Int)) + (65 : Int)))]) ((codI IntKind.u8).enc (l.getD i' (codI IntKind.u8).dft))).getD i (codI IntKind.u8).dft ∧ True) ∧ True) ∧ True) ∧ (decide (l.getD
    ((0 : Nat) + n.toNat) (codI IntKind.u8).dft ≤ (122 : Int)) = false → True ∧ U11 s (W (n + (1 : Int))) (rowL (codI IntKind.u8) s.length fun j => (codI IntKind.u8).enc
    (l.getD j (codI IntKind.u8).dft)) ∧ (↑s.length - W (n + (1 : Int))).toNat < (↑s.length - n).toNat ∧ (s = s ∧ k = k ∧ (d.x = d.x ∧ d.y = d.y ∧ d.level = d.level ∧
    True) ∧ True ∧ True ∧ True ∧ True ∧ sm ((W k).tmod (W (↑s.length + (1 : Int)))) ∧ True ∧ (sm ((0 : Nat)) ∧ s.length = s.length) ∧ sm (W (n + (1 : Int))) ∧ True ∧
    True ∧ True ∧ True ∧ s = s ∧ Eq (α := Int) ↑s.length ↑s.length ∧ True ∧ True ∧ k = k ∧ W k = W k ∧ s = s ∧ Eq (α := Int) ↑s.length ↑s.length ∧ sm (W (↑s.length +
    (1 : Int))) ∧ sm ((W k).tmod (W (↑s.length + (1 : Int)))) ∧ ((sm ((16 : Nat)) ∧ sm ((1 : Nat)) ∧ ∀ (i : Nat), i < (16 : Nat) → sm ((0 : Int)) ∧ True) ∧ (sm ((16
    : Nat)) ∧ sm ((1 : Nat)) ∧ ∀ (i : Nat), i < (16 : Nat) → sm ((0 : Int)) ∧ True) ∧ True) ∧ s = s ∧ ((sm ((16 : Nat)) ∧ sm ((1 : Nat)) ∧ ∀ (i : Nat), i < (16 : Nat)
    → sm ((textS { low := z16, high := z16 : Fr } (2 : Int) (3 : Int) s (3 : Int)).low.getD i (0 : Int)) ∧ True) ∧ (sm ((16 : Nat)) ∧ sm ((1 : Nat)) ∧ ∀ (i : Nat), i
    < (16 : Nat) → sm ((textS { low := z16, high := z16 : Fr } (2 : Int) (3 : Int) s (3 : Int)).high.getD i (0 : Int)) ∧ True) ∧ True) ∧ ((sm ((16 : Nat)) ∧ sm ((1 :
    Nat)) ∧ ∀ (i : Nat), i < (16 : Nat) → sm ((0 : Int)) ∧ True) ∧ (sm ((16 : Nat)) ∧ sm ((1 : Nat)) ∧ ∀ (i : Nat), i < (16 : Nat) → sm ((0 : Int)) ∧ True) ∧ True) ∧
    s = s ∧ sm ((W k).tmod (W (↑s.length + (1 : Int)))) ∧ sm (List.drop (0 : Nat) (List.take ((W k).tmod (W (↑s.length + (1 : Int)))).toNat s)) ∧ ((sm ((16 : Nat)) ∧
    sm ((1 : Nat)) ∧ ∀ (i : Nat), i < (16 : Nat) → sm ((textS { low := z16, high := z16 : Fr } (2 : Int) (3 : Int) (List.drop (0 : Nat) (List.take ((W k).tmod (W (↑s.length
    + (1 : Int)))).toNat s)) (3 : Int)).low.getD i (0 : Int)) ∧ True) ∧ (sm ((16 : Nat)) ∧ sm ((1 : Nat)) ∧ ∀ (i : Nat), i < (16 : Nat) → sm ((textS { low := z16, high := z16 : Fr }
    (2 : Int) (3 : Int) (List.drop (0 : Nat) (List.take ((W k).tmod (W (↑s.length + (1 : Int)))).toNat s)) (3 : Int)).high.getD i (0 : Int)) ∧ True) ∧ True) ∧ sm ((W
    k).tmod (W (↑s.length + (1 : Int)))) ∧ sm (W ((6 : Int) * (W k).tmod (W (↑s.length + (1 : Int))))) ∧ sm (W ((2 : Int) + W ((6 : Int) * (W k).tmod (W (↑s.length +
    (1 : Int)))))) ∧ s = s ∧ sm ((W k).tmod (W (↑s.length + (1 : Int)))) ∧ sm (List.drop ((W k).tmod (W (↑s.length + (1 : Int)))).toNat (List.take (Int.toNat ↑s.length)
    s)) ∧ ((sm ((16 : Nat)) ∧ sm ((1 : Nat)) ∧ ∀ (i : Nat), i < (16 : Nat) → sm ((textS { low := rr (textS { low := z16, high := z16 : Fr } (2 : Int) (3 : Int) (List.drop (0 : Nat) (List.take ((W k).tmod (W (↑s.length + (1 : Int)))).toNat s)) (3 : Int)).low, high := rr (textS { low := z16, high := z16 : Fr } (2 : Int) (3 : Int) (List.drop (0 : Nat) (List.take ((W k).tmod (W (↑s.length + (1 : Int)))).toNat s)) (3 : Int)).high : Fr }
    (W ((2 : Int) + W ((6 : Int) * (W k).tmod (W (↑s.length + (1 : Int)))))) (3 : Int) (List.drop ((W k).tmod (W (↑s.length + (1 : Int)))).toNat (List.take (Int.toNat
    ↑s.length) s)) (3 : Int)).low.getD i (0 : Int)) ∧ True) ∧ (sm ((16 : Nat)) ∧ sm ((1 : Nat)) ∧ ∀ (i : Nat), i < (16 : Nat) → sm ((textS { low := rr (textS { low := z16, high := z16 : Fr } (2 : Int) (3 : Int) (List.drop (0 : Nat) (List.take ((W k).tmod (W (↑s.length + (1 : Int)))).toNat s)) (3 : Int)).low, high := rr (textS { low := z16, high := z16 : Fr } (2 : Int) (3 : Int) (List.drop (0 : Nat) (List.take ((W k).tmod (W (↑s.length + (1 : Int)))).toNat s)) (3 : Int)).high : Fr }
    (W ((2 : Int) + W ((6 : Int) * (W k).tmod (W (↑s.length + (1 : Int)))))) (3 : Int) (List.drop ((W k).tmod (W (↑s.length + (1 : Int)))).toNat (List.take (Int.toNat
    ↑s.length) s)) (3 : Int)).high.getD i (0 : Int)) ∧ True) ∧ True) ∧ ((sm ((16 : Nat)) ∧ sm ((0 : Nat) + (1 : Nat)) ∧ ∀ (i : Nat), i < (16 : Nat) → sm ((textS { low := z16, high := z16 : Fr }
    (2 : Int) (3 : Int) s (3 : Int)).low.getD i (0 : Int)) ∧ True) ∧ (sm ((16 : Nat)) ∧ sm ((0 : Nat) + (1 : Nat)) ∧ ∀ (i : Nat), i < (16 : Nat) → sm ((textS { low := z16, high := z16 : Fr }
    (2 : Int) (3 : Int) s (3 : Int)).high.getD i (0 : Int)) ∧ True) ∧ True) ∧ True ∧ s = s ∧ (sm ((0 : Nat)) ∧ s.length = s.length) ∧ True ∧ True ∧ True ∧ True ∧ True
    ∧ True ∧ True ∧ True ∧ True ∧ True ∧ True ∧ True ∧ True ∧ True ∧ True ∧ True ∧ True ∧ True ∧ True ∧ True ∧ True ∧ True ∧ True ∧ True ∧ True ∧ True ∧ True ∧ True
    ∧ True ∧ True ∧ True ∧ True ∧ True ∧ True ∧ True ∧ True ∧ True ∧ True ∧ True ∧ True ∧ True ∧ True ∧ True ∧ True ∧ True ∧ True ∧ True ∧ True ∧ True ∧ True ∧ True
    ∧ True ∧ True ∧ True ∧ True ∧ True ∧ True ∧ True ∧ True ∧ True ∧ True ∧ True ∧ True ∧ True ∧ True ∧ True ∧ True ∧ True ∧ True ∧ True ∧ True ∧ True ∧ True ∧ True
    ∧ True ∧ True ∧ True ∧ True ∧ True ∧ True ∧ True ∧ True ∧ True ∧ True ∧ True ∧ True ∧ True) ∧ ((if false = true then [] else List.map Seg.shape [Seg.s (SV.int IntKind.i64
    d.x), Seg.s (SV.int IntKind.i64 d.y), Seg.s (SV.int IntKind.i64 d.level)]) = if false = true then [] else List.map Seg.shape [Seg.s (SV.int IntKind.i64 d.x), Seg.s
    (SV.int IntKind.i64 d.y), Seg.s (SV.int IntKind.i64 d.level)]) ∧ (d.x = d.x ∧ d.y = d.y ∧ d.level = d.level ∧ True) ∧ ((if false = true then [] else List.map Seg.shape
    ([Seg.a (16 : Nat) (1 : Nat) fun x => [SV.int IntKind.u64 (0 : Int)]] ++ ([Seg.a (16 : Nat) (1 : Nat) fun x => [SV.int IntKind.u64 (0 : Int)]] ++ []))) = if false
    = true then [] else List.map Seg.shape ([Seg.a (16 : Nat) (1 : Nat) fun x => [SV.int IntKind.u64 (0 : Int)]] ++ ([Seg.a (16 : Nat) (1 : Nat) fun x => [SV.int IntKind.u64
    (0 : Int)]] ++ []))) ∧ ((sm ((16 : Nat)) ∧ sm ((1 : Nat)) ∧ ∀ (i : Nat), i < (16 : Nat) → sm ((textS { low := z16, high := z16 : Fr } (2 : Int) (3 : Int) s (3 :
    Int)).low.getD i (0 : Int)) ∧ True) ∧ (sm ((16 : Nat)) ∧ sm ((1 : Nat)) ∧ ∀ (i : Nat), i < (16 : Nat) → sm ((textS { low := z16, high := z16 : Fr } (2 : Int) (3
    : Int) s (3 : Int)).high.getD i (0 : Int)) ∧ True) ∧ True) ∧ ((if true = true then [] else List.map Seg.shape [Seg.a s.length (1 : Nat) (byteSV s)]) = if true =
    true then [] else List.map Seg.shape [Seg.a s.length (1 : Nat) (byteSV s)]) ∧ ((s.length = s.length ∧ sm ((codI IntKind.u8).n) ∧ ∀ (i : Nat), i < s.length → l.getD
    i (codI IntKind.u8).dft = (rowL (codI IntKind.u8) s.length fun j => (codI IntKind.u8).enc (l.getD j (codI IntKind.u8).dft)).getD i (codI IntKind.u8).dft ∧ True)
    ∧ True) ∧ True)) ∧ (decide (l.getD ((0 : Nat) + n.toNat) (codI IntKind.u8).dft ≥ (97 : Int)) = false → True ∧ True ∧ U11 s (W (n + (1 : Int))) (rowL (codI IntKind.u8)
    s.length fun j => (codI IntKind.u8).enc (l.getD j (codI IntKind.u8).dft)) ∧ (↑s.length - W (n + (1 : Int))).toNat < (↑s.length - n).toNat ∧ (s = s ∧ k = k ∧ (d.x
    = d.x ∧ d.y = d.y ∧ d.level = d.level ∧ True) ∧ True ∧ True ∧ True ∧ True ∧ sm ((W k).tmod (W (↑s.length + (1 : Int)))) ∧ True ∧ (sm ((0 : Nat)) ∧ s.length = s.length)
    ∧ sm (W (n + (1 : Int))) ∧ True ∧ True ∧ True ∧ True ∧ s = s ∧ Eq (α := Int) ↑s.length ↑s.length ∧ True ∧ True ∧ k = k ∧ W k = W k ∧ s = s ∧ Eq (α := Int) ↑s.length
    ↑s.length ∧ sm (W (↑s.length + (1 : Int))) ∧ sm ((W k).tmod (W (↑s.length + (1 : Int)))) ∧ ((sm ((16 : Nat)) ∧ sm ((1 : Nat)) ∧ ∀ (i : Nat), i < (16 : Nat) → sm
    ((0 : Int)) ∧ True) ∧ (sm ((16 : Nat)) ∧ sm ((1 : Nat)) ∧ ∀ (i : Nat), i < (16 : Nat) → sm ((0 : Int)) ∧ True) ∧ True) ∧ s = s ∧ ((sm ((16 : Nat)) ∧ sm ((1 : Nat))
    ∧ ∀ (i : Nat), i < (16 : Nat) → sm ((textS { low := z16, high := z16 : Fr } (2 : Int) (3 : Int) s (3 : Int)).low.getD i (0 : Int)) ∧ True) ∧ (sm ((16 : Nat)) ∧ sm
    ((1 : Nat)) ∧ ∀ (i : Nat), i < (16 : Nat) → sm ((textS { low := z16, high := z16 : Fr } (2 : Int) (3 : Int) s (3 : Int)).high.getD i (0 : Int)) ∧ True) ∧ True) ∧
    ((sm ((16 : Nat)) ∧ sm ((1 : Nat)) ∧ ∀ (i : Nat), i < (16 : Nat) → sm ((0 : Int)) ∧ True) ∧ (sm ((16 : Nat)) ∧ sm ((1 : Nat)) ∧ ∀ (i : Nat), i < (16 : Nat) → sm
    ((0 : Int)) ∧ True) ∧ True) ∧ s = s ∧ sm ((W k).tmod (W (↑s.length + (1 : Int)))) ∧ sm (List.drop (0 : Nat) (List.take ((W k).tmod (W (↑s.length + (1 : Int)))).toNat
    s)) ∧ ((sm ((16 : Nat)) ∧ sm ((1 : Nat)) ∧ ∀ (i : Nat), i < (16 : Nat) → sm ((textS { low := z16, high := z16 : Fr } (2 : Int) (3 : Int) (List.drop (0 : Nat) (List.take
    ((W k).tmod (W (↑s.length + (1 : Int)))).toNat s)) (3 : Int)).low.getD i (0 : Int)) ∧ True) ∧ (sm ((16 : Nat)) ∧ sm ((1 : Nat)) ∧ ∀ (i : Nat), i < (16 : Nat) → sm
    ((textS { low := z16, high := z16 : Fr } (2 : Int) (3 : Int) (List.drop (0 : Nat) (List.take ((W k).tmod (W (↑s.length + (1 : Int)))).toNat s)) (3 : Int)).high.getD
    i (0 : Int)) ∧ True) ∧ True) ∧ sm ((W k).tmod (W (↑s.length + (1 : Int)))) ∧ sm (W ((6 : Int) * (W k).tmod (W (↑s.length + (1 : Int))))) ∧ sm (W ((2 : Int) + W ((6
    : Int) * (W k).tmod (W (↑s.length + (1 : Int)))))) ∧ s = s ∧ sm ((W k).tmod (W (↑s.length + (1 : Int)))) ∧ sm (List.drop ((W k).tmod (W (↑s.length + (1 : Int)))).toNat
    (List.take (Int.toNat ↑s.length) s)) ∧ ((sm ((16 : Nat)) ∧ sm ((1 : Nat)) ∧ ∀ (i : Nat), i < (16 : Nat) → sm ((textS { low := rr (textS { low := z16, high := z16 : Fr } (2 : Int) (3 : Int) (List.drop (0 : Nat) (List.take ((W k).tmod (W (↑s.length + (1 : Int)))).toNat s)) (3 : Int)).low, high := rr (textS { low := z16, high := z16 : Fr } (2 : Int) (3 : Int) (List.drop (0 : Nat) (List.take ((W k).tmod (W (↑s.length + (1 : Int)))).toNat s)) (3 : Int)).high : Fr }
    (W ((2 : Int) + W ((6 : Int) * (W k).tmod (W (↑s.length + (1 : Int)))))) (3 : Int) (List.drop ((W k).tmod (W (↑s.length + (1 : Int)))).toNat (List.take (Int.toNat
    ↑s.length) s)) (3 : Int)).low.getD i (0 : Int)) ∧ True) ∧ (sm ((16 : Nat)) ∧ sm ((1 : Nat)) ∧ ∀ (i : Nat), i < (16 : Nat) → sm ((textS { low := rr (textS { low := z16, high := z16 : Fr } (2 : Int) (3 : Int) (List.drop (0 : Nat) (List.take ((W k).tmod (W (↑s.length + (1 : Int)))).toNat s)) (3 : Int)).low, high := rr (textS { low := z16, high := z16 : Fr } (2 : Int) (3 : Int) (List.drop (0 : Nat) (List.take ((W k).tmod (W (↑s.length + (1 : Int)))).toNat s)) (3 : Int)).high : Fr }
    (W ((2 : Int) + W ((6 : Int) * (W k).tmod (W (↑s.length + (1 : Int)))))) (3 : Int) (List.drop ((W k).tmod (W (↑s.length + (1 : Int)))).toNat (List.take (Int.toNat
    ↑s.length) s)) (3 : Int)).high.getD i (0 : Int)) ∧ True) ∧ True) ∧ ((sm ((16 : Nat)) ∧ sm ((0 : Nat) + (1 : Nat)) ∧ ∀ (i : Nat), i < (16 : Nat) → sm ((textS { low := z16, high := z16 : Fr }
    (2 : Int) (3 : Int) s (3 : Int)).low.getD i (0 : Int)) ∧ True) ∧ (sm ((16 : Nat)) ∧ sm ((0 : Nat) + (1 : Nat)) ∧ ∀ (i : Nat), i < (16 : Nat) → sm ((textS { low := z16, high := z16 : Fr }
    (2 : Int) (3 : Int) s (3 : Int)).high.getD i (0 : Int)) ∧ True) ∧ True) ∧ True ∧ s = s ∧ (sm ((0 : Nat)) ∧ s.length = s.length) ∧ True ∧ True ∧ True ∧ True ∧ True
    ∧ True ∧ True ∧ True ∧ True ∧ True ∧ True ∧ True ∧ True ∧ True ∧ True ∧ True ∧ True ∧ True ∧ True ∧ True ∧ True ∧ True ∧ True ∧ True ∧ True ∧ True ∧ True ∧ True
    ∧ True ∧ True ∧ True ∧ True ∧ True ∧ True ∧ True ∧ True ∧ True ∧ True ∧ True ∧ True ∧ True ∧ True ∧ True ∧ True ∧ True ∧ True ∧ True ∧ True ∧ True ∧ True ∧ True
    ∧ True ∧ True ∧ True ∧ True ∧ True ∧ True ∧ True ∧ True ∧ True ∧ True ∧ True ∧ True ∧ True ∧ True ∧ True ∧ True ∧ True ∧ True ∧ True ∧ True ∧ True ∧ True ∧ True
    ∧ True ∧ True ∧ True ∧ True ∧ True ∧ True ∧ True ∧ True ∧ True ∧ True ∧ True ∧ True ∧ True) ∧ ((if false = true then [] else List.map Seg.shape [Seg.s (SV.int IntKind.i64
    d.x), Seg.s (SV.int IntKind.i64 d.y), Seg.s (SV.int IntKind.i64 d.level)]) = if false = true then [] else List.map Seg.shape [Seg.s (SV.int IntKind.i64 d.x), Seg.s
    (SV.int IntKind.i64 d.y), Seg.s (SV.int IntKind.i64 d.level)]) ∧ (d.x = d.x ∧ d.y = d.y ∧ d.level = d.level ∧ True) ∧ ((if false = true then [] else List.map Seg.shape
    ([Seg.a (16 : Nat) (1 : Nat) fun x => [SV.int IntKind.u64 (0 : Int)]] ++ ([Seg.a (16 : Nat) (1 : Nat) fun x => [SV.int IntKind.u64 (0 : Int)]] ++ []))) = if false
    = true then [] else List.map Seg.shape ([Seg.a (16 : Nat) (1 : Nat) fun x => [SV.int IntKind.u64 (0 : Int)]] ++ ([Seg.a (16 : Nat) (1 : Nat) fun x => [SV.int IntKind.u64
    (0 : Int)]] ++ []))) ∧ ((sm ((16 : Nat)) ∧ sm ((1 : Nat)) ∧ ∀ (i : Nat), i < (16 : Nat) → sm ((textS { low := z16, high := z16 : Fr } (2 : Int) (3 : Int) s (3 :
    Int)).low.getD i (0 : Int)) ∧ True) ∧ (sm ((16 : Nat)) ∧ sm ((1 : Nat)) ∧ ∀ (i : Nat), i < (16 : Nat) → sm ((textS { low := z16, high := z16 : Fr } (2 : Int) (3
    : Int) s (3 : Int)).high.getD i (0 : Int)) ∧ True) ∧ True) ∧ ((if true = true then [] else List.map Seg.shape [Seg.a s.length (1 : Nat) (byteSV s)]) = if true =
    true then [] else List.map Seg.shape [Seg.a s.length (1 : Nat) (byteSV s)]) ∧ ((s.length = s.length ∧ sm ((codI IntKind.u8).n) ∧ ∀ (i : Nat), i < s.length → l.getD
    i (codI IntKind.u8).dft = (rowL (codI IntKind.u8) s.length fun j => (codI IntKind.u8).enc (l.getD j (codI IntKind.u8).dft)).getD i (codI IntKind.u8).dft ∧ True)
    ∧ True) ∧ True)) ∧ (decide (n < ↑s.length) = false → (0 : Nat) + s.length ≤ s.length ∧ (∀ (j : Nat), j < s.length → isByte ((fun (j : Nat) => (codI IntKind.u8).enc
    (l.getD j (codI IntKind.u8).dft)) ((0 : Nat) + j)) = true) ∧ (t16 ∧ t16 ∧ True) ∧ True ∧ True ∧ True ∧ True ∧ ((((∀ (i : Nat), i < (16 : Nat) → true = true ∧ True)
    ∧ ∀ (i : Nat), i < (16 : Nat) → true = true ∧ True) ∧ True ∧ True ∧ True ∧ True) ∧ okF { low := z16, high := z16 : Fr }) ∧ ((t16 ∧ t16 ∧ True) ∧ t16 ∧ t16 ∧ True)
    ∧ IsT true ∧ ((!eqSegs [Seg.a (16 : Nat) (1 : Nat) fun j => [SV.int IntKind.u64 ((textS { low := z16, high := z16 : Fr } (2 : Int) (3 : Int) (bytesOf s.length fun
    i => (codI IntKind.u8).enc (l.getD ((0 : Nat) + i) (codI IntKind.u8).dft)) (3 : Int)).low.getD j (0 : Int))], Seg.a (16 : Nat) (1 : Nat) fun j => [SV.int IntKind.u64
    ((textS { low := z16, high := z16 : Fr } (2 : Int) (3 : Int) (bytesOf s.length fun i => (codI IntKind.u8).enc (l.getD ((0 : Nat) + i) (codI IntKind.u8).dft)) (3
    : Int)).high.getD j (0 : Int))]] [Seg.a (16 : Nat) ((0 : Nat) + (1 : Nat)) fun j => [SV.int IntKind.u64 ((textS { low := z16, high := z16 : Fr } (2 : Int) (3 : Int)
    s (3 : Int)).low.getD j (0 : Int))], Seg.a (16 : Nat) ((0 : Nat) + (1 : Nat)) fun j => [SV.int IntKind.u64 ((textS { low := z16, high := z16 : Fr } (2 : Int) (3
    : Int) s (3 : Int)).high.getD j (0 : Int))]]) = true → True ∧ True ∧ true = false ∧ True) ∧ ((!eqSegs [Seg.a (16 : Nat) (1 : Nat) fun j => [SV.int IntKind.u64 ((textS
    { low := z16, high := z16 : Fr } (2 : Int) (3 : Int) (bytesOf s.length fun i => (codI IntKind.u8).enc (l.getD ((0 : Nat) + i) (codI IntKind.u8).dft)) (3 : Int)).low.getD
    j (0 : Int))], Seg.a (16 : Nat) (1 : Nat) fun j => [SV.int IntKind.u64 ((textS { low := z16, high := z16 : Fr } (2 : Int) (3 : Int) (bytesOf s.length fun i => (codI
    IntKind.u8).enc (l.getD ((0 : Nat) + i) (codI IntKind.u8).dft)) (3 : Int)).high.getD j (0 : Int))]] [Seg.a (16 : Nat) ((0 : Nat) + (1 : Nat)) fun j => [SV.int IntKind.u64
    ((textS { low := z16, high := z16 : Fr } (2 : Int) (3 : Int) s (3 : Int)).low.getD j (0 : Int))], Seg.a (16 : Nat) ((0 : Nat) + (1 : Nat)) fun j => [SV.int IntKind.u64
    ((textS { low := z16, high := z16 : Fr } (2 : Int) (3 : Int) s (3 : Int)).high.getD j (0 : Int))]]) = false → True ∧ (((0 : Int) ≤ (0 : Int) ∧ (0 : Int) ≤ (16 :
    Int)) ∧ (s = s ∧ k = k ∧ (d.x = d.x ∧ d.y = d.y ∧ d.level = d.level ∧ True) ∧ True ∧ True ∧ True ∧ True ∧ sm ((W k).tmod (W (↑s.length + (1 : Int)))) ∧ True ∧ (sm
    ((0 : Nat)) ∧ s.length = s.length) ∧ n = n ∧ sm ((0 : Int)) ∧ True ∧ True ∧ True ∧ s = s ∧ Eq (α := Int) ↑s.length ↑s.length ∧ True ∧ True ∧ k = k ∧ W k = W k ∧
    s = s ∧ Eq (α := Int) ↑s.length ↑s.length ∧ sm (W (↑s.length + (1 : Int))) ∧ sm ((W k).tmod (W (↑s.length + (1 : Int)))) ∧ ((sm ((16 : Nat)) ∧ sm ((1 : Nat)) ∧ ∀
    (i : Nat), i < (16 : Nat) → sm ((0 : Int)) ∧ True) ∧ (sm ((16 : Nat)) ∧ sm ((1 : Nat)) ∧ ∀ (i : Nat), i < (16 : Nat) → sm ((0 : Int)) ∧ True) ∧ True) ∧ s = s ∧ ((sm
    ((16 : Nat)) ∧ sm ((1 : Nat)) ∧ ∀ (i : Nat), i < (16 : Nat) → sm ((textS { low := z16, high := z16 : Fr } (2 : Int) (3 : Int) s (3 : Int)).low.getD i (0 : Int))
    ∧ True) ∧ (sm ((16 : Nat)) ∧ sm ((1 : Nat)) ∧ ∀ (i : Nat), i < (16 : Nat) → sm ((textS { low := z16, high := z16 : Fr } (2 : Int) (3 : Int) s (3 : Int)).high.getD
    i (0 : Int)) ∧ True) ∧ True) ∧ ((sm ((16 : Nat)) ∧ sm ((1 : Nat)) ∧ ∀ (i : Nat), i < (16 : Nat) → sm ((0 : Int)) ∧ True) ∧ (sm ((16 : Nat)) ∧ sm ((1 : Nat)) ∧ ∀
    (i : Nat), i < (16 : Nat) → sm ((0 : Int)) ∧ True) ∧ True) ∧ s = s ∧ sm ((W k).tmod (W (↑s.length + (1 : Int)))) ∧ sm (List.drop (0 : Nat) (List.take ((W k).tmod
    (W (↑s.length + (1 : Int)))).toNat s)) ∧ ((sm ((16 : Nat)) ∧ sm ((1 : Nat)) ∧ ∀ (i : Nat), i < (16 : Nat) → sm ((textS { low := z16, high := z16 : Fr } (2 : Int)
    (3 : Int) (List.drop (0 : Nat) (List.take ((W k).tmod (W (↑s.length + (1 : Int)))).toNat s)) (3 : Int)).low.getD i (0 : Int)) ∧ True) ∧ (sm ((16 : Nat)) ∧ sm ((1
    : Nat)) ∧ ∀ (i : Nat), i < (16 : Nat) → sm ((textS { low := z16, high := z16 : Fr } (2 : Int) (3 : Int) (List.drop (0 : Nat) (List.take ((W k).tmod (W (↑s.length
    + (1 : Int)))).toNat s)) (3 : Int)).high.getD i (0 : Int)) ∧ True) ∧ True) ∧ sm ((W k).tmod (W (↑s.length + (1 : Int)))) ∧ sm (W ((6 : Int) * (W k).tmod (W (↑s.length
    + (1 : Int))))) ∧ sm (W ((2 : Int) + W ((6 : Int) * (W k).tmod (W (↑s.length + (1 : Int)))))) ∧ s = s ∧ sm ((W k).tmod (W (↑s.length + (1 : Int)))) ∧ sm (List.drop
    ((W k).tmod (W (↑s.length + (1 : Int)))).toNat (List.take (Int.toNat ↑s.length) s)) ∧ ((sm ((16 : Nat)) ∧ sm ((1 : Nat)) ∧ ∀ (i : Nat), i < (16 : Nat) → sm ((textS
    { low := rr (textS { low := z16, high := z16 : Fr } (2 : Int) (3 : Int) (List.drop (0 : Nat) (List.take ((W k).tmod (W (↑s.length + (1 : Int)))).toNat s)) (3 : Int)).low, high := rr (textS { low := z16, high := z16 : Fr } (2 : Int) (3 : Int) (List.drop (0 : Nat) (List.take ((W k).tmod (W (↑s.length + (1 : Int)))).toNat s)) (3 : Int)).high : Fr }
    (W ((2 : Int) + W ((6 : Int) * (W k).tmod (W (↑s.length + (1 : Int)))))) (3 : Int) (List.drop ((W k).tmod (W (↑s.length + (1 : Int)))).toNat (List.take (Int.toNat
    ↑s.length) s)) (3 : Int)).low.getD i (0 : Int)) ∧ True) ∧ (sm ((16 : Nat)) ∧ sm ((1 : Nat)) ∧ ∀ (i : Nat), i < (16 : Nat) → sm ((textS { low := rr (textS { low := z16, high := z16 : Fr } (2 : Int) (3 : Int) (List.drop (0 : Nat) (List.take ((W k).tmod (W (↑s.length + (1 : Int)))).toNat s)) (3 : Int)).low, high := rr (textS { low := z16, high := z16 : Fr } (2 : Int) (3 : Int) (List.drop (0 : Nat) (List.take ((W k).tmod (W (↑s.length + (1 : Int)))).toNat s)) (3 : Int)).high : Fr }
    (W ((2 : Int) + W ((6 : Int) * (W k).tmod (W (↑s.length + (1 : Int)))))) (3 : Int) (List.drop ((W k).tmod (W (↑s.length + (1 : Int)))).toNat (List.take (Int.toNat
    ↑s.length) s)) (3 : Int)).high.getD i (0 : Int)) ∧ True) ∧ True) ∧ ((sm ((16 : Nat)) ∧ sm ((0 : Nat) + (1 : Nat)) ∧ ∀ (i : Nat), i < (16 : Nat) → sm ((textS { low := z16, high := z16 : Fr }
    (2 : Int) (3 : Int) s (3 : Int)).low.getD i (0 : Int)) ∧ True) ∧ (sm ((16 : Nat)) ∧ sm ((0 : Nat) + (1 : Nat)) ∧ ∀ (i : Nat), i < (16 : Nat) → sm ((textS { low := z16, high := z16 : Fr }
    (2 : Int) (3 : Int) s (3 : Int)).high.getD i (0 : Int)) ∧ True) ∧ True) ∧ True ∧ s = s ∧ (sm ((0 : Nat)) ∧ s.length = s.length) ∧ n = n ∧ (sm ((0 : Nat)) ∧ s.length
    = s.length) ∧ Eq (α := Int) ↑s.length ↑s.length ∧ True ∧ True ∧ True ∧ True ∧ True ∧ True ∧ True ∧ True ∧ True ∧ True ∧ True ∧ True ∧ True ∧ True ∧ True ∧ True ∧
    True ∧ True ∧ True ∧ True ∧ True ∧ True ∧ True ∧ True ∧ ((sm ((16 : Nat)) ∧ sm ((1 : Nat)) ∧ ∀ (i : Nat), i < (16 : Nat) → sm ((0 : Int)) ∧ True) ∧ (sm ((16 : Nat))
    ∧ sm ((1 : Nat)) ∧ ∀ (i : Nat), i < (16 : Nat) → sm ((0 : Int)) ∧ True) ∧ True) ∧ (sm ((0 : Nat)) ∧ s.length = s.length) ∧ (sm (bytesOf s.length fun i => (codI IntKind.u8).enc
    (l.getD ((0 : Nat) + i) (codI IntKind.u8).dft))) ∧ ((sm ((16 : Nat)) ∧ sm ((1 : Nat)) ∧ ∀ (i : Nat), i < (16 : Nat) → sm ((textS { low := z16, high := z16 : Fr }
    (2 : Int) (3 : Int) (bytesOf s.length fun i => (codI IntKind.u8).enc (l.getD ((0 : Nat) + i) (codI IntKind.u8).dft)) (3 : Int)).low.getD i (0 : Int)) ∧ True) ∧ (sm
    ((16 : Nat)) ∧ sm ((1 : Nat)) ∧ ∀ (i : Nat), i < (16 : Nat) → sm ((textS { low := z16, high := z16 : Fr } (2 : Int) (3 : Int) (bytesOf s.length fun i => (codI IntKind.u8).enc
    (l.getD ((0 : Nat) + i) (codI IntKind.u8).dft)) (3 : Int)).high.getD i (0 : Int)) ∧ True) ∧ True) ∧ ((sm ((16 : Nat)) ∧ sm ((0 : Nat) + (1 : Nat)) ∧ ∀ (i : Nat),
    i < (16 : Nat) → sm ((textS { low := z16, high := z16 : Fr } (2 : Int) (3 : Int) s (3 : Int)).low.getD i (0 : Int)) ∧ True) ∧ (sm ((16 : Nat)) ∧ sm ((0 : Nat) +
    (1 : Nat)) ∧ ∀ (i : Nat), i < (16 : Nat) → sm ((textS { low := z16, high := z16 : Fr } (2 : Int) (3 : Int) s (3 : Int)).high.getD i (0 : Int)) ∧ True) ∧ True) ∧
    True ∧ True ∧ True ∧ True ∧ True ∧ True ∧ True ∧ True ∧ True ∧ True ∧ True ∧ True ∧ True ∧ True ∧ True ∧ True ∧ True ∧ True ∧ True ∧ True ∧ True ∧ True ∧ True ∧
    True ∧ True ∧ True ∧ True ∧ True ∧ True ∧ True ∧ True ∧ True ∧ True ∧ True ∧ True ∧ True ∧ True ∧ True ∧ True ∧ True ∧ True ∧ True ∧ True ∧ True ∧ True ∧ True ∧
    True ∧ True ∧ True ∧ True ∧ True ∧ True ∧ True ∧ True ∧ True) ∧ ((if false = true then [] else List.map Seg.shape [Seg.s (SV.int IntKind.i64 d.x), Seg.s (SV.int
    IntKind.i64 d.y), Seg.s (SV.int IntKind.i64 d.level)]) = if false = true then [] else List.map Seg.shape [Seg.s (SV.int IntKind.i64 d.x), Seg.s (SV.int IntKind.i64
    d.y), Seg.s (SV.int IntKind.i64 d.level)]) ∧ (d.x = d.x ∧ d.y = d.y ∧ d.level = d.level ∧ True) ∧ ((if false = true then [] else List.map Seg.shape ([Seg.a (16 :
    Nat) (1 : Nat) fun x => [SV.int IntKind.u64 (0 : Int)]] ++ ([Seg.a (16 : Nat) (1 : Nat) fun x => [SV.int IntKind.u64 (0 : Int)]] ++ []))) = if false = true then
    [] else List.map Seg.shape ([Seg.a (16 : Nat) (1 : Nat) fun x => [SV.int IntKind.u64 (0 : Int)]] ++ ([Seg.a (16 : Nat) (1 : Nat) fun x => [SV.int IntKind.u64 (0
    : Int)]] ++ []))) ∧ ((sm ((16 : Nat)) ∧ sm ((1 : Nat)) ∧ ∀ (i : Nat), i < (16 : Nat) → sm ((textS { low := z16, high := z16 : Fr } (2 : Int) (3 : Int) s (3 : Int)).low.getD
    i (0 : Int)) ∧ True) ∧ (sm ((16 : Nat)) ∧ sm ((1 : Nat)) ∧ ∀ (i : Nat), i < (16 : Nat) → sm ((textS { low := z16, high := z16 : Fr } (2 : Int) (3 : Int) s (3 : Int)).high.getD
    i (0 : Int)) ∧ True) ∧ True) ∧ ((if true = true then [] else List.map Seg.shape [Seg.a s.length (1 : Nat) (byteSV s)]) = if true = true then [] else List.map Seg.shape
    [Seg.a s.length (1 : Nat) (byteSV s)]) ∧ ((s.length = s.length ∧ sm ((codI IntKind.u8).n) ∧ ∀ (i : Nat), i < s.length → sm (l.getD i (codI IntKind.u8).dft) ∧ True)
    ∧ True) ∧ True) ∧ ∀ (n_1 : Int), (0 : Int) ≤ n_1 ∧ n_1 ≤ (16 : Int) → True ∧ (decide (n_1 < (16 : Int)) = true → True ∧ (((0 : Int) ≤ (0 : Int) ∧ (0 : Int) ≤ (64
    : Int)) ∧ (s = s ∧ k = k ∧ (d.x = d.x ∧ d.y = d.y ∧ d.level = d.level ∧ True) ∧ True ∧ True ∧ True ∧ True ∧ sm ((W k).tmod (W (↑s.length + (1 : Int)))) ∧ True ∧
    (sm ((0 : Nat)) ∧ s.length = s.length) ∧ n = n ∧ n_1 = n_1 ∧ sm ((0 : Int)) ∧ True ∧ True ∧ s = s ∧ Eq (α := Int) ↑s.length ↑s.length ∧ True ∧ True ∧ k = k ∧ W k
    = W k ∧ s = s ∧ Eq (α := Int) ↑s.length ↑s.length ∧ sm (W (↑s.length + (1 : Int))) ∧ sm ((W k).tmod (W (↑s.length + (1 : Int)))) ∧ ((sm ((16 : Nat)) ∧ sm ((1 : Nat))
    ∧ ∀ (i : Nat), i < (16 : Nat) → sm ((0 : Int)) ∧ True) ∧ (sm ((16 : Nat)) ∧ sm ((1 : Nat)) ∧ ∀ (i : Nat), i < (16 : Nat) → sm ((0 : Int)) ∧ True) ∧ True) ∧ s = s
    ∧ ((sm ((16 : Nat)) ∧ sm ((1 : Nat)) ∧ ∀ (i : Nat), i < (16 : Nat) → sm ((textS { low := z16, high := z16 : Fr } (2 : Int) (3 : Int) s (3 : Int)).low.getD i (0 :
    Int)) ∧ True) ∧ (sm ((16 : Nat)) ∧ sm ((1 : Nat)) ∧ ∀ (i : Nat), i < (16 : Nat) → sm ((textS { low := z16, high := z16 : Fr } (2 : Int) (3 : Int) s (3 : Int)).high.getD
    i (0 : Int)) ∧ True) ∧ True) ∧ ((sm ((16 : Nat)) ∧ sm ((1 : Nat)) ∧ ∀ (i : Nat), i < (16 : Nat) → sm ((0 : Int)) ∧ True) ∧ (sm ((16 : Nat)) ∧ sm ((1 : Nat)) ∧ ∀
    (i : Nat), i < (16 : Nat) → sm ((0 : Int)) ∧ True) ∧ True) ∧ s = s ∧ sm ((W k).tmod (W (↑s.length + (1 : Int)))) ∧ sm (List.drop (0 : Nat) (List.take ((W k).tmod
    (W (↑s.length + (1 : Int)))).toNat s)) ∧ ((sm ((16 : Nat)) ∧ sm ((1 : Nat)) ∧ ∀ (i : Nat), i < (16 : Nat) → sm ((textS { low := z16, high := z16 : Fr } (2 : Int)
    (3 : Int) (List.drop (0 : Nat) (List.take ((W k).tmod (W (↑s.length + (1 : Int)))).toNat s)) (3 : Int)).low.getD i (0 : Int)) ∧ True) ∧ (sm ((16 : Nat)) ∧ sm ((1
    : Nat)) ∧ ∀ (i : Nat), i < (16 : Nat) → sm ((textS { low := z16, high := z16 : Fr } (2 : Int) (3 : Int) (List.drop (0 : Nat) (List.take ((W k).tmod (W (↑s.length
    + (1 : Int)))).toNat s)) (3 : Int)).high.getD i (0 : Int)) ∧ True) ∧ True) ∧ sm ((W k).tmod (W (↑s.length + (1 : Int)))) ∧ sm (W ((6 : Int) * (W k).tmod (W (↑s.length
    + (1 : Int))))) ∧ sm (W ((2 : Int) + W ((6 : Int) * (W k).tmod (W (↑s.length + (1 : Int)))))) ∧ s = s ∧ sm ((W k).tmod (W (↑s.length + (1 : Int)))) ∧ sm (List.drop
    ((W k).tmod (W (↑s.length + (1 : Int)))).toNat (List.take (Int.toNat ↑s.length) s)) ∧ ((sm ((16 : Nat)) ∧ sm ((1 : Nat)) ∧ ∀ (i : Nat), i < (16 : Nat) → sm ((textS
    { low := rr (textS { low := z16, high := z16 : Fr } (2 : Int) (3 : Int) (List.drop (0 : Nat) (List.take ((W k).tmod (W (↑s.length + (1 : Int)))).toNat s)) (3 : Int)).low, high := rr (textS { low := z16, high := z16 : Fr } (2 : Int) (3 : Int) (List.drop (0 : Nat) (List.take ((W k).tmod (W (↑s.length + (1 : Int)))).toNat s)) (3 : Int)).high : Fr }
    (W ((2 : Int) + W ((6 : Int) * (W k).tmod (W (↑s.length + (1 : Int)))))) (3 : Int) (List.drop ((W k).tmod (W (↑s.length + (1 : Int)))).toNat (List.take (Int.toNat
    ↑s.length) s)) (3 : Int)).low.getD i (0 : Int)) ∧ True) ∧ (sm ((16 : Nat)) ∧ sm ((1 : Nat)) ∧ ∀ (i : Nat), i < (16 : Nat) → sm ((textS { low := rr (textS { low := z16, high := z16 : Fr } (2 : Int) (3 : Int) (List.drop (0 : Nat) (List.take ((W k).tmod (W (↑s.length + (1 : Int)))).toNat s)) (3 : Int)).low, high := rr (textS { low := z16, high := z16 : Fr } (2 : Int) (3 : Int) (List.drop (0 : Nat) (List.take ((W k).tmod (W (↑s.length + (1 : Int)))).toNat s)) (3 : Int)).high : Fr }
    (W ((2 : Int) + W ((6 : Int) * (W k).tmod (W (↑s.length + (1 : Int)))))) (3 : Int) (List.drop ((W k).tmod (W (↑s.length + (1 : Int)))).toNat (List.take (Int.toNat
    ↑s.length) s)) (3 : Int)).high.getD i (0 : Int)) ∧ True) ∧ True) ∧ ((sm ((16 : Nat)) ∧ sm ((0 : Nat) + (1 : Nat)) ∧ ∀ (i : Nat), i < (16 : Nat) → sm ((textS { low := z16, high := z16 : Fr }
    (2 : Int) (3 : Int) s (3 : Int)).low.getD i (0 : Int)) ∧ True) ∧ (sm ((16 : Nat)) ∧ sm ((0 : Nat) + (1 : Nat)) ∧ ∀ (i : Nat), i < (16 : Nat) → sm ((textS { low := z16, high := z16 : Fr }
    (2 : Int) (3 : Int) s (3 : Int)).high.getD i (0 : Int)) ∧ True) ∧ True) ∧ True ∧ s = s ∧ (sm ((0 : Nat)) ∧ s.length = s.length) ∧ n = n ∧ (sm ((0 : Nat)) ∧ s.length
    = s.length) ∧ Eq (α := Int) ↑s.length ↑s.length ∧ True ∧ True ∧ True ∧ True ∧ True ∧ True ∧ True ∧ True ∧ True ∧ True ∧ True ∧ True ∧ True ∧ True ∧ True ∧ True ∧
    True ∧ True ∧ True ∧ True ∧ True ∧ True ∧ True ∧ True ∧ ((sm ((16 : Nat)) ∧ sm ((1 : Nat)) ∧ ∀ (i : Nat), i < (16 : Nat) → sm ((0 : Int)) ∧ True) ∧ (sm ((16 : Nat))
    ∧ sm ((1 : Nat)) ∧ ∀ (i : Nat), i < (16 : Nat) → sm ((0 : Int)) ∧ True) ∧ True) ∧ (sm ((0 : Nat)) ∧ s.length = s.length) ∧ (sm (bytesOf s.length fun i => (codI IntKind.u8).enc
    (l.getD ((0 : Nat) + i) (codI IntKind.u8).dft))) ∧ ((sm ((16 : Nat)) ∧ sm ((1 : Nat)) ∧ ∀ (i : Nat), i < (16 : Nat) → sm ((textS { low := z16, high := z16 : Fr }
    (2 : Int) (3 : Int) (bytesOf s.length fun i => (codI IntKind.u8).enc (l.getD ((0 : Nat) + i) (codI IntKind.u8).dft)) (3 : Int)).low.getD i (0 : Int)) ∧ True) ∧ (sm
    ((16 : Nat)) ∧ sm ((1 : Nat)) ∧ ∀ (i : Nat), i < (16 : Nat) → sm ((textS { low := z16, high := z16 : Fr } (2 : Int) (3 : Int) (bytesOf s.length fun i => (codI IntKind.u8).enc
    (l.getD ((0 : Nat) + i) (codI IntKind.u8).dft)) (3 : Int)).high.getD i (0 : Int)) ∧ True) ∧ True) ∧ ((sm ((16 : Nat)) ∧ sm ((0 : Nat) + (1 : Nat)) ∧ ∀ (i : Nat),
    i < (16 : Nat) → sm ((textS { low := z16, high := z16 : Fr } (2 : Int) (3 : Int) s (3 : Int)).low.getD i (0 : Int)) ∧ True) ∧ (sm ((16 : Nat)) ∧ sm ((0 : Nat) +
    (1 : Nat)) ∧ ∀ (i : Nat), i < (16 : Nat) → sm ((textS { low := z16, high := z16 : Fr } (2 : Int) (3 : Int) s (3 : Int)).high.getD i (0 : Int)) ∧ True) ∧ True) ∧
    True ∧ n_1 = n_1 ∧ True ∧ True ∧ True ∧ True ∧ True ∧ True ∧ True ∧ True ∧ True ∧ True ∧ True ∧ True ∧ True ∧ True ∧ True ∧ True ∧ True ∧ True ∧ True ∧ True ∧ True
    ∧ True ∧ True ∧ True ∧ True ∧ True ∧ True ∧ True ∧ True ∧ True ∧ True ∧ True ∧ True ∧ True ∧ True ∧ True ∧ True ∧ True ∧ True ∧ True ∧ True ∧ True ∧ True ∧ True
    ∧ True ∧ True ∧ True ∧ True ∧ True ∧ True ∧ True ∧ True ∧ True) ∧ ((if false = true then [] else List.map Seg.shape [Seg.s (SV.int IntKind.i64 d.x), Seg.s (SV.int
    IntKind.i64 d.y), Seg.s (SV.int IntKind.i64 d.level)]) = if false = true then [] else List.map Seg.shape [Seg.s (SV.int IntKind.i64 d.x), Seg.s (SV.int IntKind.i64
    d.y), Seg.s (SV.int IntKind.i64 d.level)]) ∧ (d.x = d.x ∧ d.y = d.y ∧ d.level = d.level ∧ True) ∧ ((if false = true then [] else List.map Seg.shape ([Seg.a (16 :
    Nat) (1 : Nat) fun x => [SV.int IntKind.u64 (0 : Int)]] ++ ([Seg.a (16 : Nat) (1 : Nat) fun x => [SV.int IntKind.u64 (0 : Int)]] ++ []))) = if false = true then
    [] else List.map Seg.shape ([Seg.a (16 : Nat) (1 : Nat) fun x => [SV.int IntKind.u64 (0 : Int)]] ++ ([Seg.a (16 : Nat) (1 : Nat) fun x => [SV.int IntKind.u64 (0
    : Int)]] ++ []))) ∧ ((sm ((16 : Nat)) ∧ sm ((1 : Nat)) ∧ ∀ (i : Nat), i < (16 : Nat) → sm ((textS { low := z16, high := z16 : Fr } (2 : Int) (3 : Int) s (3 : Int)).low.getD
    i (0 : Int)) ∧ True) ∧ (sm ((16 : Nat)) ∧ sm ((1 : Nat)) ∧ ∀ (i : Nat), i < (16 : Nat) → sm ((textS { low := z16, high := z16 : Fr } (2 : Int) (3 : Int) s (3 : Int)).high.getD
    i (0 : Int)) ∧ True) ∧ True) ∧ ((if true = true then [] else List.map Seg.shape [Seg.a s.length (1 : Nat) (byteSV s)]) = if true = true then [] else List.map Seg.shape
    [Seg.a s.length (1 : Nat) (byteSV s)]) ∧ ((s.length = s.length ∧ sm ((codI IntKind.u8).n) ∧ ∀ (i : Nat), i < s.length → sm (l.getD i (codI IntKind.u8).dft) ∧ True)
    ∧ True) ∧ True) ∧ ∀ (n_2 : Int), (0 : Int) ≤ n_2 ∧ n_2 ≤ (64 : Int) → True ∧ (decide (n_2 < (64 : Int)) = true → (t16 ∧ t16 ∧ True) ∧ True ∧ True ∧ ((((∀ (i : Nat),
    i < (16 : Nat) → true = true ∧ True) ∧ ∀ (i : Nat), i < (16 : Nat) → true = true ∧ True) ∧ True ∧ True) ∧ okF { low := rr (textS { low := z16, high := z16 : Fr } (2 : Int) (3 : Int) s (3 : Int)).low, high := rr (textS { low := z16, high := z16 : Fr } (2 : Int) (3 : Int) s (3 : Int)).high : Fr })
    ∧ (decide (getS { low := rr (textS { low := z16, high := z16 : Fr } (2 : Int) (3 : Int) s (3 : Int)).low, high := rr (textS { low := z16, high := z16 : Fr } (2 : Int) (3 : Int) s (3 : Int)).high : Fr }
    n_2 n_1 > (0 : Int)) = true → (decide (n_2 < (2 : Int)) = true → True ∧ True ∧ True ∧ true = false ∧ True) ∧ (decide (n_2 < (2 : Int)) = false → True ∧ (True ∧ s.length
    ≤ (1000000 : Nat)) ∧ (decide (n_2 ≥ W ((2 : Int) + widthS s)) = true → True ∧ True ∧ True ∧ true = false ∧ True) ∧ (decide (n_2 ≥ W ((2 : Int) + widthS s)) = false
    → (decide (n_1 < (3 : Int)) = true → True ∧ True ∧ True ∧ true = false ∧ True) ∧ (decide (n_1 < (3 : Int)) = false → True ∧ (decide (n_1 ≥ (10 : Int)) = true → True
    ∧ True ∧ true = false ∧ True) ∧ (decide (n_1 ≥ (10 : Int)) = false → True ∧ ((0 : Int) ≤ W (n_2 + (1 : Int)) ∧ W (n_2 + (1 : Int)) ≤ (64 : Int)) ∧ ((64 : Int) -
    W (n_2 + (1 : Int))).toNat < ((64 : Int) - n_2).toNat ∧ (s = s ∧ k = k ∧ (d.x = d.x ∧ d.y = d.y ∧ d.level = d.level ∧ True) ∧ True ∧ True ∧ True ∧ True ∧ sm ((W
    k).tmod (W (↑s.length + (1 : Int)))) ∧ True ∧ (sm ((0 : Nat)) ∧ s.length = s.length) ∧ n = n ∧ n_1 = n_1 ∧ sm (W (n_2 + (1 : Int))) ∧ True ∧ True ∧ s = s ∧ Eq (α
    := Int) ↑s.length ↑s.length ∧ True ∧ True ∧ k = k ∧ W k = W k ∧ s = s ∧ Eq (α := Int) ↑s.length ↑s.length ∧ sm (W (↑s.length + (1 : Int))) ∧ sm ((W k).tmod (W (↑s.length
    + (1 : Int)))) ∧ ((sm ((16 : Nat)) ∧ sm ((1 : Nat)) ∧ ∀ (i : Nat), i < (16 : Nat) → sm ((0 : Int)) ∧ True) ∧ (sm ((16 : Nat)) ∧ sm ((1 : Nat)) ∧ ∀ (i : Nat), i <
    (16 : Nat) → sm ((0 : Int)) ∧ True) ∧ True) ∧ s = s ∧ ((sm ((16 : Nat)) ∧ sm ((1 : Nat)) ∧ ∀ (i : Nat), i < (16 : Nat) → sm ((textS { low := z16, high := z16 : Fr }
    (2 : Int) (3 : Int) s (3 : Int)).low.getD i (0 : Int)) ∧ True) ∧ (sm ((16 : Nat)) ∧ sm ((1 : Nat)) ∧ ∀ (i : Nat), i < (16 : Nat) → sm ((textS { low := z16, high := z16 : Fr }
    (2 : Int) (3 : Int) s (3 : Int)).high.getD i (0 : Int)) ∧ True) ∧ True) ∧ ((sm ((16 : Nat)) ∧ sm ((1 : Nat)) ∧ ∀ (i : Nat), i < (16 : Nat) → sm ((0 : Int)) ∧ True)
    ∧ (sm ((16 : Nat)) ∧ sm ((1 : Nat)) ∧ ∀ (i : Nat), i < (16 : Nat) → sm ((0 : Int)) ∧ True) ∧ True) ∧ s = s ∧ sm ((W k).tmod (W (↑s.length + (1 : Int)))) ∧ sm (List.drop
    (0 : Nat) (List.take ((W k).tmod (W (↑s.length + (1 : Int)))).toNat s)) ∧ ((sm ((16 : Nat)) ∧ sm ((1 : Nat)) ∧ ∀ (i : Nat), i < (16 : Nat) → sm ((textS { low := z16, high := z16 : Fr }
    (2 : Int) (3 : Int) (List.drop (0 : Nat) (List.take ((W k).tmod (W (↑s.length + (1 : Int)))).toNat s)) (3 : Int)).low.getD i (0 : Int)) ∧ True) ∧ (sm ((16 : Nat))
    ∧ sm ((1 : Nat)) ∧ ∀ (i : Nat), i < (16 : Nat) → sm ((textS { low := z16, high := z16 : Fr } (2 : Int) (3 : Int) (List.drop (0 : Nat) (List.take ((W k).tmod (W (↑s.length
    + (1 : Int)))).toNat s)) (3 : Int)).high.getD i (0 : Int)) ∧ True) ∧ True) ∧ sm ((W k).tmod (W (↑s.length + (1 : Int)))) ∧ sm (W ((6 : Int) * (W k).tmod (W (↑s.length
    + (1 : Int))))) ∧ sm (W ((2 : Int) + W ((6 : Int) * (W k).tmod (W (↑s.length + (1 : Int)))))) ∧ s = s ∧ sm ((W k).tmod (W (↑s.length + (1 : Int)))) ∧ sm (List.drop
    ((W k).tmod (W (↑s.length + (1 : Int)))).toNat (List.take (Int.toNat ↑s.length) s)) ∧ ((sm ((16 : Nat)) ∧ sm ((1 : Nat)) ∧ ∀ (i : Nat), i < (16 : Nat) → sm ((textS
    { low := rr (textS { low := z16, high := z16 : Fr } (2 : Int) (3 : Int) (List.drop (0 : Nat) (List.take ((W k).tmod (W (↑s.length + (1 : Int)))).toNat s)) (3 : Int)).low, high := rr (textS { low := z16, high := z16 : Fr } (2 : Int) (3 : Int) (List.drop (0 : Nat) (List.take ((W k).tmod (W (↑s.length + (1 : Int)))).toNat s)) (3 : Int)).high : Fr }
    (W ((2 : Int) + W ((6 : Int) * (W k).tmod (W (↑s.length + (1 : Int)))))) (3 : Int) (List.drop ((W k).tmod (W (↑s.length + (1 : Int)))).toNat (List.take (Int.toNat
    ↑s.length) s)) (3 : Int)).low.getD i (0 : Int)) ∧ True) ∧ (sm ((16 : Nat)) ∧ sm ((1 : Nat)) ∧ ∀ (i : Nat), i < (16 : Nat) → sm ((textS { low := rr (textS { low := z16, high := z16 : Fr } (2 : Int) (3 : Int) (List.drop (0 : Nat) (List.take ((W k).tmod (W (↑s.length + (1 : Int)))).toNat s)) (3 : Int)).low, high := rr (textS { low := z16, high := z16 : Fr } (2 : Int) (3 : Int) (List.drop (0 : Nat) (List.take ((W k).tmod (W (↑s.length + (1 : Int)))).toNat s)) (3 : Int)).high : Fr }
    (W ((2 : Int) + W ((6 : Int) * (W k).tmod (W (↑s.length + (1 : Int)))))) (3 : Int) (List.drop ((W k).tmod (W (↑s.length + (1 : Int)))).toNat (List.take (Int.toNat
    ↑s.length) s)) (3 : Int)).high.getD i (0 : Int)) ∧ True) ∧ True) ∧ ((sm ((16 : Nat)) ∧ sm ((0 : Nat) + (1 : Nat)) ∧ ∀ (i : Nat), i < (16 : Nat) → sm ((textS { low := z16, high := z16 : Fr }
    (2 : Int) (3 : Int) s (3 : Int)).low.getD i (0 : Int)) ∧ True) ∧ (sm ((16 : Nat)) ∧ sm ((0 : Nat) + (1 : Nat)) ∧ ∀ (i : Nat), i < (16 : Nat) → sm ((textS { low := z16, high := z16 : Fr }
    (2 : Int) (3 : Int) s (3 : Int)).high.getD i (0 : Int)) ∧ True) ∧ True) ∧ True ∧ s = s ∧ (sm ((0 : Nat)) ∧ s.length = s.length) ∧ n = n ∧ (sm ((0 : Nat)) ∧ s.length
    = s.length) ∧ Eq (α := Int) ↑s.length ↑s.length ∧ True ∧ True ∧ True ∧ True ∧ True ∧ True ∧ True ∧ True ∧ True ∧ True ∧ True ∧ True ∧ True ∧ True ∧ True ∧ True ∧
    True ∧ True ∧ True ∧ True ∧ True ∧ True ∧ True ∧ True ∧ ((sm ((16 : Nat)) ∧ sm ((1 : Nat)) ∧ ∀ (i : Nat), i < (16 : Nat) → sm ((0 : Int)) ∧ True) ∧ (sm ((16 : Nat))
    ∧ sm ((1 : Nat)) ∧ ∀ (i : Nat), i < (16 : Nat) → sm ((0 : Int)) ∧ True) ∧ True) ∧ (sm ((0 : Nat)) ∧ s.length = s.length) ∧ (sm (bytesOf s.length fun i => (codI IntKind.u8).enc
    (l.getD ((0 : Nat) + i) (codI IntKind.u8).dft))) ∧ ((sm ((16 : Nat)) ∧ sm ((1 : Nat)) ∧ ∀ (i : Nat), i < (16 : Nat) → sm ((textS { low := z16, high := z16 : Fr }
    (2 : Int) (3 : Int) (bytesOf s.length fun i => (codI IntKind.u8).enc (l.getD ((0 : Nat) + i) (codI IntKind.u8).dft)) (3 : Int)).low.getD i (0 : Int)) ∧ True) ∧ (sm
    ((16 : Nat)) ∧ sm ((1 : Nat)) ∧ ∀ (i : Nat), i < (16 : Nat) → sm ((textS { low := z16, high := z16 : Fr } (2 : Int) (3 : Int) (bytesOf s.length fun i => (codI IntKind.u8).enc
    (l.getD ((0 : Nat) + i) (codI IntKind.u8).dft)) (3 : Int)).high.getD i (0 : Int)) ∧ True) ∧ True) ∧ ((sm ((16 : Nat)) ∧ sm ((0 : Nat) + (1 : Nat)) ∧ ∀ (i : Nat),
    i < (16 : Nat) → sm ((textS { low := z16, high := z16 : Fr } (2 : Int) (3 : Int) s (3 : Int)).low.getD i (0 : Int)) ∧ True) ∧ (sm ((16 : Nat)) ∧ sm ((0 : Nat) +
    (1 : Nat)) ∧ ∀ (i : Nat), i < (16 : Nat) → sm ((textS { low := z16, high := z16 : Fr } (2 : Int) (3 : Int) s (3 : Int)).high.getD i (0 : Int)) ∧ True) ∧ True) ∧
    True ∧ n_1 = n_1 ∧ True ∧ True ∧ True ∧ True ∧ True ∧ True ∧ True ∧ True ∧ True ∧ True ∧ True ∧ True ∧ True ∧ True ∧ True ∧ True ∧ True ∧ True ∧ True ∧ True ∧ True
    ∧ True ∧ True ∧ True ∧ True ∧ True ∧ True ∧ True ∧ True ∧ True ∧ True ∧ True ∧ True ∧ True ∧ True ∧ True ∧ True ∧ True ∧ True ∧ True ∧ True ∧ True ∧ True ∧ True
    ∧ True ∧ True ∧ True ∧ True ∧ True ∧ True ∧ True ∧ True ∧ True) ∧ ((if false = true then [] else List.map Seg.shape [Seg.s (SV.int IntKind.i64 d.x), Seg.s (SV.int
    IntKind.i64 d.y), Seg.s (SV.int IntKind.i64 d.level)]) = if false = true then [] else List.map Seg.shape [Seg.s (SV.int IntKind.i64 d.x), Seg.s (SV.int IntKind.i64
    d.y), Seg.s (SV.int IntKind.i64 d.level)]) ∧ (d.x = d.x ∧ d.y = d.y ∧ d.level = d.level ∧ True) ∧ ((if false = true then [] else List.map Seg.shape ([Seg.a (16 :
    Nat) (1 : Nat) fun x => [SV.int IntKind.u64 (0 : Int)]] ++ ([Seg.a (16 : Nat) (1 : Nat) fun x => [SV.int IntKind.u64 (0 : Int)]] ++ []))) = if false = true then
    [] else List.map Seg.shape ([Seg.a (16 : Nat) (1 : Nat) fun x => [SV.int IntKind.u64 (0 : Int)]] ++ ([Seg.a (16 : Nat) (1 : Nat) fun x => [SV.int IntKind.u64 (0
    : Int)]] ++ []))) ∧ ((sm ((16 : Nat)) ∧ sm ((1 : Nat)) ∧ ∀ (i : Nat), i < (16 : Nat) → sm ((textS { low := z16, high := z16 : Fr } (2 : Int) (3 : Int) s (3 : Int)).low.getD
    i (0 : Int)) ∧ True) ∧ (sm ((16 : Nat)) ∧ sm ((1 : Nat)) ∧ ∀ (i : Nat), i < (16 : Nat) → sm ((textS { low := z16, high := z16 : Fr } (2 : Int) (3 : Int) s (3 : Int)).high.getD
    i (0 : Int)) ∧ True) ∧ True) ∧ ((if true = true then [] else List.map Seg.shape [Seg.a s.length (1 : Nat) (byteSV s)]) = if true = true then [] else List.map Seg.shape
    [Seg.a s.length (1 : Nat) (byteSV s)]) ∧ ((s.length = s.length ∧ sm ((codI IntKind.u8).n) ∧ ∀ (i : Nat), i < s.length → sm (l.getD i (codI IntKind.u8).dft) ∧ True)
    ∧ True) ∧ True))))) ∧ (decide (getS { low := rr (textS { low := z16, high := z16 : Fr } (2 : Int) (3 : Int) s (3 : Int)).low, high := rr (textS { low := z16, high := z16 : Fr } (2 : Int) (3 : Int) s (3 : Int)).high : Fr }
    n_2 n_1 > (0 : Int)) = false → True ∧ True ∧ ((0 : Int) ≤ W (n_2 + (1 : Int)) ∧ W (n_2 + (1 : Int)) ≤ (64 : Int)) ∧ ((64 : Int) - W (n_2 + (1 : Int))).toNat < ((64
    : Int) - n_2).toNat ∧ (s = s ∧ k = k ∧ (d.x = d.x ∧ d.y = d.y ∧ d.level = d.level ∧ True) ∧ True ∧ True ∧ True ∧ True ∧ sm ((W k).tmod (W (↑s.length + (1 : Int))))
    ∧ True ∧ (sm ((0 : Nat)) ∧ s.length = s.length) ∧ n = n ∧ n_1 = n_1 ∧ sm (W (n_2 + (1 : Int))) ∧ True ∧ True ∧ s = s ∧ Eq (α := Int) ↑s.length ↑s.length ∧ True ∧
    True ∧ k = k ∧ W k = W k ∧ s = s ∧ Eq (α := Int) ↑s.length ↑s.length ∧ sm (W (↑s.length + (1 : Int))) ∧ sm ((W k).tmod (W (↑s.length + (1 : Int)))) ∧ ((sm ((16 :
    Nat)) ∧ sm ((1 : Nat)) ∧ ∀ (i : Nat), i < (16 : Nat) → sm ((0 : Int)) ∧ True) ∧ (sm ((16 : Nat)) ∧ sm ((1 : Nat)) ∧ ∀ (i : Nat), i < (16 : Nat) → sm ((0 : Int))
    ∧ True) ∧ True) ∧ s = s ∧ ((sm ((16 : Nat)) ∧ sm ((1 : Nat)) ∧ ∀ (i : Nat), i < (16 : Nat) → sm ((textS { low := z16, high := z16 : Fr } (2 : Int) (3 : Int) s (3
    : Int)).low.getD i (0 : Int)) ∧ True) ∧ (sm ((16 : Nat)) ∧ sm ((1 : Nat)) ∧ ∀ (i : Nat), i < (16 : Nat) → sm ((textS { low := z16, high := z16 : Fr } (2 : Int) (3
    : Int) s (3 : Int)).high.getD i (0 : Int)) ∧ True) ∧ True) ∧ ((sm ((16 : Nat)) ∧ sm ((1 : Nat)) ∧ ∀ (i : Nat), i < (16 : Nat) → sm ((0 : Int)) ∧ True) ∧ (sm ((16
    : Nat)) ∧ sm ((1 : Nat)) ∧ ∀ (i : Nat), i < (16 : Nat) → sm ((0 : Int)) ∧ True) ∧ True) ∧ s = s ∧ sm ((W k).tmod (W (↑s.length + (1 : Int)))) ∧ sm (List.drop (0
    : Nat) (List.take ((W k).tmod (W (↑s.length + (1 : Int)))).toNat s)) ∧ ((sm ((16 : Nat)) ∧ sm ((1 : Nat)) ∧ ∀ (i : Nat), i < (16 : Nat) → sm ((textS { low := z16, high := z16 : Fr }
    (2 : Int) (3 : Int) (List.drop (0 : Nat) (List.take ((W k).tmod (W (↑s.length + (1 : Int)))).toNat s)) (3 : Int)).low.getD i (0 : Int)) ∧ True) ∧ (sm ((16 : Nat))
    ∧ sm ((1 : Nat)) ∧ ∀ (i : Nat), i < (16 : Nat) → sm ((textS { low := z16, high := z16 : Fr } (2 : Int) (3 : Int) (List.drop (0 : Nat) (List.take ((W k).tmod (W (↑s.length
    + (1 : Int)))).toNat s)) (3 : Int)).high.getD i (0 : Int)) ∧ True) ∧ True) ∧ sm ((W k).tmod (W (↑s.length + (1 : Int)))) ∧ sm (W ((6 : Int) * (W k).tmod (W (↑s.length
    + (1 : Int))))) ∧ sm (W ((2 : Int) + W ((6 : Int) * (W k).tmod (W (↑s.length + (1 : Int)))))) ∧ s = s ∧ sm ((W k).tmod (W (↑s.length + (1 : Int)))) ∧ sm (List.drop
    ((W k).tmod (W (↑s.length + (1 : Int)))).toNat (List.take (Int.toNat ↑s.length) s)) ∧ ((sm ((16 : Nat)) ∧ sm ((1 : Nat)) ∧ ∀ (i : Nat), i < (16 : Nat) → sm ((textS
    { low := rr (textS { low := z16, high := z16 : Fr } (2 : Int) (3 : Int) (List.drop (0 : Nat) (List.take ((W k).tmod (W (↑s.length + (1 : Int)))).toNat s)) (3 : Int)).low, high := rr (textS { low := z16, high := z16 : Fr } (2 : Int) (3 : Int) (List.drop (0 : Nat) (List.take ((W k).tmod (W (↑s.length + (1 : Int)))).toNat s)) (3 : Int)).high : Fr }
    (W ((2 : Int) + W ((6 : Int) * (W k).tmod (W (↑s.length + (1 : Int)))))) (3 : Int) (List.drop ((W k).tmod (W (↑s.length + (1 : Int)))).toNat (List.take (Int.toNat
    ↑s.length) s)) (3 : Int)).low.getD i (0 : Int)) ∧ True) ∧ (sm ((16 : Nat)) ∧ sm ((1 : Nat)) ∧ ∀ (i : Nat), i < (16 : Nat) → sm ((textS { low := rr (textS { low := z16, high := z16 : Fr } (2 : Int) (3 : Int) (List.drop (0 : Nat) (List.take ((W k).tmod (W (↑s.length + (1 : Int)))).toNat s)) (3 : Int)).low, high := rr (textS { low := z16, high := z16 : Fr } (2 : Int) (3 : Int) (List.drop (0 : Nat) (List.take ((W k).tmod (W (↑s.length + (1 : Int)))).toNat s)) (3 : Int)).high : Fr }
    (W ((2 : Int) + W ((6 : Int) * (W k).tmod (W (↑s.length + (1 : Int)))))) (3 : Int) (List.drop ((W k).tmod (W (↑s.length + (1 : Int)))).toNat (List.take (Int.toNat
    ↑s.length) s)) (3 : Int)).high.getD i (0 : Int)) ∧ True) ∧ True) ∧ ((sm ((16 : Nat)) ∧ sm ((0 : Nat) + (1 : Nat)) ∧ ∀ (i : Nat), i < (16 : Nat) → sm ((textS { low := z16, high := z16 : Fr }
    (2 : Int) (3 : Int) s (3 : Int)).low.getD i (0 : Int)) ∧ True) ∧ (sm ((16 : Nat)) ∧ sm ((0 : Nat) + (1 : Nat)) ∧ ∀ (i : Nat), i < (16 : Nat) → sm ((textS { low := z16, high := z16 : Fr }
    (2 : Int) (3 : Int) s (3 : Int)).high.getD i (0 : Int)) ∧ True) ∧ True) ∧ True ∧ s = s ∧ (sm ((0 : Nat)) ∧ s.length = s.length) ∧ n = n ∧ (sm ((0 : Nat)) ∧ s.length
    = s.length) ∧ Eq (α := Int) ↑s.length ↑s.length ∧ True ∧ True ∧ True ∧ True ∧ True ∧ True ∧ True ∧ True ∧ True ∧ True ∧ True ∧ True ∧ True ∧ True ∧ True ∧ True ∧
    True ∧ True ∧ True ∧ True ∧ True ∧ True ∧ True ∧ True ∧ ((sm ((16 : Nat)) ∧ sm ((1 : Nat)) ∧ ∀ (i : Nat), i < (16 : Nat) → sm ((0 : Int)) ∧ True) ∧ (sm ((16 : Nat))
    ∧ sm ((1 : Nat)) ∧ ∀ (i : Nat), i < (16 : Nat) → sm ((0 : Int)) ∧ True) ∧ True) ∧ (sm ((0 : Nat)) ∧ s.length = s.length) ∧ (sm (bytesOf s.length fun i => (codI IntKind.u8).enc
    (l.getD ((0 : Nat) + i) (codI IntKind.u8).dft))) ∧ ((sm ((16 : Nat)) ∧ sm ((1 : Nat)) ∧ ∀ (i : Nat), i < (16 : Nat) → sm ((textS { low := z16, high := z16 : Fr }
    (2 : Int) (3 : Int) (bytesOf s.length fun i => (codI IntKind.u8).enc (l.getD ((0 : Nat) + i) (codI IntKind.u8).dft)) (3 : Int)).low.getD i (0 : Int)) ∧ True) ∧ (sm
    ((16 : Nat)) ∧ sm ((1 : Nat)) ∧ ∀ (i : Nat), i < (16 : Nat) → sm ((textS { low := z16, high := z16 : Fr } (2 : Int) (3 : Int) (bytesOf s.length fun i => (codI IntKind.u8).enc
    (l.getD ((0 : Nat) + i) (codI IntKind.u8).dft)) (3 : Int)).high.getD i (0 : Int)) ∧ True) ∧ True) ∧ ((sm ((16 : Nat)) ∧ sm ((0 : Nat) + (1 : Nat)) ∧ ∀ (i : Nat),
    i < (16 : Nat) → sm ((textS { low := z16, high := z16 : Fr } (2 : Int) (3 : Int) s (3 : Int)).low.getD i (0 : Int)) ∧ True) ∧ (sm ((16 : Nat)) ∧ sm ((0 : Nat) +
    (1 : Nat)) ∧ ∀ (i : Nat), i < (16 : Nat) → sm ((textS { low := z16, high := z16 : Fr } (2 : Int) (3 : Int) s (3 : Int)).high.getD i (0 : Int)) ∧ True) ∧ True) ∧
    True ∧ n_1 = n_1 ∧ True ∧ True ∧ True ∧ True ∧ True ∧ True ∧ True ∧ True ∧ True ∧ True ∧ True ∧ True ∧ True ∧ True ∧ True ∧ True ∧ True ∧ True ∧ True ∧ True ∧ True
    ∧ True ∧ True ∧ True ∧ True ∧ True ∧ True ∧ True ∧ True ∧ True ∧ True ∧ True ∧ True ∧ True ∧ True ∧ True ∧ True ∧ True ∧ True ∧ True ∧ True ∧ True ∧ True ∧ True
    ∧ True ∧ True ∧ True ∧ True ∧ True ∧ True ∧ True ∧ True ∧ True) ∧ ((if false = true then [] else List.map Seg.shape [Seg.s (SV.int IntKind.i64 d.x), Seg.s (SV.int
    IntKind.i64 d.y), Seg.s (SV.int IntKind.i64 d.level)]) = if false = true then [] else List.map Seg.shape [Seg.s (SV.int IntKind.i64 d.x), Seg.s (SV.int IntKind.i64
    d.y), Seg.s (SV.int IntKind.i64 d.level)]) ∧ (d.x = d.x ∧ d.y = d.y ∧ d.level = d.level ∧ True) ∧ ((if false = true then [] else List.map Seg.shape ([Seg.a (16 :
    Nat) (1 : Nat) fun x => [SV.int IntKind.u64 (0 : Int)]] ++ ([Seg.a (16 : Nat) (1 : Nat) fun x => [SV.int IntKind.u64 (0 : Int)]] ++ []))) = if false = true then
    [] else List.map Seg.shape ([Seg.a (16 : Nat) (1 : Nat) fun x => [SV.int IntKind.u64 (0 : Int)]] ++ ([Seg.a (16 : Nat) (1 : Nat) fun x => [SV.int IntKind.u64 (0
    : Int)]] ++ []))) ∧ ((sm ((16 : Nat)) ∧ sm ((1 : Nat)) ∧ ∀ (i : Nat), i < (16 : Nat) → sm ((textS { low := z16, high := z16 : Fr } (2 : Int) (3 : Int) s (3 : Int)).low.getD
    i (0 : Int)) ∧ True) ∧ (sm ((16 : Nat)) ∧ sm ((1 : Nat)) ∧ ∀ (i : Nat), i < (16 : Nat) → sm ((textS { low := z16, high := z16 : Fr } (2 : Int) (3 : Int) s (3 : Int)).high.getD
    i (0 : Int)) ∧ True) ∧ True) ∧ ((if true = true then [] else List.map Seg.shape [Seg.a s.length (1 : Nat) (byteSV s)]) = if true = true then [] else List.map Seg.shape
    [Seg.a s.length (1 : Nat) (byteSV s)]) ∧ ((s.length = s.length ∧ sm ((codI IntKind.u8).n) ∧ ∀ (i : Nat), i < s.length → sm (l.getD i (codI IntKind.u8).dft) ∧ True)
    ∧ True) ∧ True)) ∧ (decide (n_2 < (64 : Int)) = false → True ∧ ((0 : Int) ≤ W (n_1 + (1 : Int)) ∧ W (n_1 + (1 : Int)) ≤ (16 : Int)) ∧ ((16 : Int) - W (n_1 + (1 :
    Int))).toNat < ((16 : Int) - n_1).toNat ∧ (s = s ∧ k = k ∧ (d.x = d.x ∧ d.y = d.y ∧ d.level = d.level ∧ True) ∧ True ∧ True ∧ True ∧ True ∧ sm ((W k).tmod (W (↑s.length
    + (1 : Int)))) ∧ True ∧ (sm ((0 : Nat)) ∧ s.length = s.length) ∧ n = n ∧ sm (W (n_1 + (1 : Int))) ∧ True ∧ True ∧ True ∧ s = s ∧ Eq (α := Int) ↑s.length ↑s.length
    ∧ True ∧ True ∧ k = k ∧ W k = W k ∧ s = s ∧ Eq (α := Int) ↑s.length ↑s.length ∧ sm (W (↑s.length + (1 : Int))) ∧ sm ((W k).tmod (W (↑s.length + (1 : Int)))) ∧ ((sm
    ((16 : Nat)) ∧ sm ((1 : Nat)) ∧ ∀ (i : Nat), i < (16 : Nat) → sm ((0 : Int)) ∧ True) ∧ (sm ((16 : Nat)) ∧ sm ((1 : Nat)) ∧ ∀ (i : Nat), i < (16 : Nat) → sm ((0 :
    Int)) ∧ True) ∧ True) ∧ s = s ∧ ((sm ((16 : Nat)) ∧ sm ((1 : Nat)) ∧ ∀ (i : Nat), i < (16 : Nat) → sm ((textS { low := z16, high := z16 : Fr } (2 : Int) (3 : Int)
    s (3 : Int)).low.getD i (0 : Int)) ∧ True) ∧ (sm ((16 : Nat)) ∧ sm ((1 : Nat)) ∧ ∀ (i : Nat), i < (16 : Nat) → sm ((textS { low := z16, high := z16 : Fr } (2 : Int)
    (3 : Int) s (3 : Int)).high.getD i (0 : Int)) ∧ True) ∧ True) ∧ ((sm ((16 : Nat)) ∧ sm ((1 : Nat)) ∧ ∀ (i : Nat), i < (16 : Nat) → sm ((0 : Int)) ∧ True) ∧ (sm ((16
    : Nat)) ∧ sm ((1 : Nat)) ∧ ∀ (i : Nat), i < (16 : Nat) → sm ((0 : Int)) ∧ True) ∧ True) ∧ s = s ∧ sm ((W k).tmod (W (↑s.length + (1 : Int)))) ∧ sm (List.drop (0
    : Nat) (List.take ((W k).tmod (W (↑s.length + (1 : Int)))).toNat s)) ∧ ((sm ((16 : Nat)) ∧ sm ((1 : Nat)) ∧ ∀ (i : Nat), i < (16 : Nat) → sm ((textS { low := z16, high := z16 : Fr }
    (2 : Int) (3 : Int) (List.drop (0 : Nat) (List.take ((W k).tmod (W (↑s.length + (1 : Int)))).toNat s)) (3 : Int)).low.getD i (0 : Int)) ∧ True) ∧ (sm ((16 : Nat))
    ∧ sm ((1 : Nat)) ∧ ∀ (i : Nat), i < (16 : Nat) → sm ((textS { low := z16, high := z16 : Fr } (2 : Int) (3 : Int) (List.drop (0 : Nat) (List.take ((W k).tmod (W (↑s.length
    + (1 : Int)))).toNat s)) (3 : Int)).high.getD i (0 : Int)) ∧ True) ∧ True) ∧ sm ((W k).tmod (W (↑s.length + (1 : Int)))) ∧ sm (W ((6 : Int) * (W k).tmod (W (↑s.length
    + (1 : Int))))) ∧ sm (W ((2 : Int) + W ((6 : Int) * (W k).tmod (W (↑s.length + (1 : Int)))))) ∧ s = s ∧ sm ((W k).tmod (W (↑s.length + (1 : Int)))) ∧ sm (List.drop
    ((W k).tmod (W (↑s.length + (1 : Int)))).toNat (List.take (Int.toNat ↑s.length) s)) ∧ ((sm ((16 : Nat)) ∧ sm ((1 : Nat)) ∧ ∀ (i : Nat), i < (16 : Nat) → sm ((textS
    { low := rr (textS { low := z16, high := z16 : Fr } (2 : Int) (3 : Int) (List.drop (0 : Nat) (List.take ((W k).tmod (W (↑s.length + (1 : Int)))).toNat s)) (3 : Int)).low, high := rr (textS { low := z16, high := z16 : Fr } (2 : Int) (3 : Int) (List.drop (0 : Nat) (List.take ((W k).tmod (W (↑s.length + (1 : Int)))).toNat s)) (3 : Int)).high : Fr }
    (W ((2 : Int) + W ((6 : Int) * (W k).tmod (W (↑s.length + (1 : Int)))))) (3 : Int) (List.drop ((W k).tmod (W (↑s.length + (1 : Int)))).toNat (List.take (Int.toNat
    ↑s.length) s)) (3 : Int)).low.getD i (0 : Int)) ∧ True) ∧ (sm ((16 : Nat)) ∧ sm ((1 : Nat)) ∧ ∀ (i : Nat), i < (16 : Nat) → sm ((textS { low := rr (textS { low := z16, high := z16 : Fr } (2 : Int) (3 : Int) (List.drop (0 : Nat) (List.take ((W k).tmod (W (↑s.length + (1 : Int)))).toNat s)) (3 : Int)).low, high := rr (textS { low := z16, high := z16 : Fr } (2 : Int) (3 : Int) (List.drop (0 : Nat) (List.take ((W k).tmod (W (↑s.length + (1 : Int)))).toNat s)) (3 : Int)).high : Fr }
    (W ((2 : Int) + W ((6 : Int) * (W k).tmod (W (↑s.length + (1 : Int)))))) (3 : Int) (List.drop ((W k).tmod (W (↑s.length + (1 : Int)))).toNat (List.take (Int.toNat
    ↑s.length) s)) (3 : Int)).high.getD i (0 : Int)) ∧ True) ∧ True) ∧ ((sm ((16 : Nat)) ∧ sm ((0 : Nat) + (1 : Nat)) ∧ ∀ (i : Nat), i < (16 : Nat) → sm ((textS { low := z16, high := z16 : Fr }
    (2 : Int) (3 : Int) s (3 : Int)).low.getD i (0 : Int)) ∧ True) ∧ (sm ((16 : Nat)) ∧ sm ((0 : Nat) + (1 : Nat)) ∧ ∀ (i : Nat), i < (16 : Nat) → sm ((textS { low := z16, high := z16 : Fr }
    (2 : Int) (3 : Int) s (3 : Int)).high.getD i (0 : Int)) ∧ True) ∧ True) ∧ True ∧ s = s ∧ (sm ((0 : Nat)) ∧ s.length = s.length) ∧ n = n ∧ (sm ((0 : Nat)) ∧ s.length
    = s.length) ∧ Eq (α := Int) ↑s.length ↑s.length ∧ True ∧ True ∧ True ∧ True ∧ True ∧ True ∧ True ∧ True ∧ True ∧ True ∧ True ∧ True ∧ True ∧ True ∧ True ∧ True ∧
    True ∧ True ∧ True ∧ True ∧ True ∧ True ∧ True ∧ True ∧ ((sm ((16 : Nat)) ∧ sm ((1 : Nat)) ∧ ∀ (i : Nat), i < (16 : Nat) → sm ((0 : Int)) ∧ True) ∧ (sm ((16 : Nat))
    ∧ sm ((1 : Nat)) ∧ ∀ (i : Nat), i < (16 : Nat) → sm ((0 : Int)) ∧ True) ∧ True) ∧ (sm ((0 : Nat)) ∧ s.length = s.length) ∧ (sm (bytesOf s.length fun i => (codI IntKind.u8).enc
    (l.getD ((0 : Nat) + i) (codI IntKind.u8).dft))) ∧ ((sm ((16 : Nat)) ∧ sm ((1 : Nat)) ∧ ∀ (i : Nat), i < (16 : Nat) → sm ((textS { low := z16, high := z16 : Fr }
    (2 : Int) (3 : Int) (bytesOf s.length fun i => (codI IntKind.u8).enc (l.getD ((0 : Nat) + i) (codI IntKind.u8).dft)) (3 : Int)).low.getD i (0 : Int)) ∧ True) ∧ (sm
    ((16 : Nat)) ∧ sm ((1 : Nat)) ∧ ∀ (i : Nat), i < (16 : Nat) → sm ((textS { low := z16, high := z16 : Fr } (2 : Int) (3 : Int) (bytesOf s.length fun i => (codI IntKind.u8).enc
    (l.getD ((0 : Nat) + i) (codI IntKind.u8).dft)) (3 : Int)).high.getD i (0 : Int)) ∧ True) ∧ True) ∧ ((sm ((16 : Nat)) ∧ sm ((0 : Nat) + (1 : Nat)) ∧ ∀ (i : Nat),
    i < (16 : Nat) → sm ((textS { low := z16, high := z16 : Fr } (2 : Int) (3 : Int) s (3 : Int)).low.getD i (0 : Int)) ∧ True) ∧ (sm ((16 : Nat)) ∧ sm ((0 : Nat) +
    (1 : Nat)) ∧ ∀ (i : Nat), i < (16 : Nat) → sm ((textS { low := z16, high := z16 : Fr } (2 : Int) (3 : Int) s (3 : Int)).high.getD i (0 : Int)) ∧ True) ∧ True) ∧
    True ∧ True ∧ True ∧ True ∧ True ∧ True ∧ True ∧ True ∧ True ∧ True ∧ True ∧ True ∧ True ∧ True ∧ True ∧ True ∧ True ∧ True ∧ True ∧ True ∧ True ∧ True ∧ True ∧
    True ∧ True ∧ True ∧ True ∧ True ∧ True ∧ True ∧ True ∧ True ∧ True ∧ True ∧ True ∧ True ∧ True ∧ True ∧ True ∧ True ∧ True ∧ True ∧ True ∧ True ∧ True ∧ True ∧
    True ∧ True ∧ True ∧ True ∧ True ∧ True ∧ True ∧ True ∧ True) ∧ ((if false = true then [] else List.map Seg.shape [Seg.s (SV.int IntKind.i64 d.x), Seg.s (SV.int
    IntKind.i64 d.y), Seg.s (SV.int IntKind.i64 d.level)]) = if false = true then [] else List.map Seg.shape [Seg.s (SV.int IntKind.i64 d.x), Seg.s (SV.int IntKind.i64
    d.y), Seg.s (SV.int IntKind.i64 d.level)]) ∧ (d.x = d.x ∧ d.y = d.y ∧ d.level = d.level ∧ True) ∧ ((if false = true then [] else List.map Seg.shape ([Seg.a (16 :
    Nat) (1 : Nat) fun x => [SV.int IntKind.u64 (0 : Int)]] ++ ([Seg.a (16 : Nat) (1 : Nat) fun x => [SV.int IntKind.u64 (0 : Int)]] ++ []))) = if false = true then
    [] else List.map Seg.shape ([Seg.a (16 : Nat) (1 : Nat) fun x => [SV.int IntKind.u64 (0 : Int)]] ++ ([Seg.a (16 : Nat) (1 : Nat) fun x => [SV.int IntKind.u64 (0
    : Int)]] ++ []))) ∧ ((sm ((16 : Nat)) ∧ sm ((1 : Nat)) ∧ ∀ (i : Nat), i < (16 : Nat) → sm ((textS { low := z16, high := z16 : Fr } (2 : Int) (3 : Int) s (3 : Int)).low.getD
    i (0 : Int)) ∧ True) ∧ (sm ((16 : Nat)) ∧ sm ((1 : Nat)) ∧ ∀ (i : Nat), i < (16 : Nat) → sm ((textS { low := z16, high := z16 : Fr } (2 : Int) (3 : Int) s (3 : Int)).high.getD
    i (0 : Int)) ∧ True) ∧ True) ∧ ((if true = true then [] else List.map Seg.shape [Seg.a s.length (1 : Nat) (byteSV s)]) = if true = true then [] else List.map Seg.shape
    [Seg.a s.length (1 : Nat) (byteSV s)]) ∧ ((s.length = s.length ∧ sm ((codI IntKind.u8).n) ∧ ∀ (i : Nat), i < s.length → sm (l.getD i (codI IntKind.u8).dft) ∧ True)
    ∧ True) ∧ True)) ∧ (decide (n_1 < (16 : Int)) = false → (2 : Int) ≠ (0 : Int) ∧ (4 : Int) ≠ (0 : Int) ∧ IsT true ∧ (t16 ∧ t16 ∧ True) ∧ True ∧ True ∧ True ∧ True
    ∧ ((((∀ (i : Nat), i < (16 : Nat) → true = true ∧ True) ∧ ∀ (i : Nat), i < (16 : Nat) → true = true ∧ True) ∧ True ∧ True ∧ True ∧ True) ∧ okF { low := z16, high := z16 : Fr })
    ∧ (t16 ∧ t16 ∧ True) ∧ True ∧ True ∧ ((((∀ (i : Nat), i < (16 : Nat) → true = true ∧ True) ∧ ∀ (i : Nat), i < (16 : Nat) → true = true ∧ True) ∧ True ∧ True) ∧ okF
    { low := rr (textS { low := z16, high := z16 : Fr } (2 : Int) (3 : Int) s (3 : Int)).low, high := rr (textS { low := z16, high := z16 : Fr } (2 : Int) (3 : Int) s (3 : Int)).high : Fr })
    ∧ ((t16 ∧ t16 ∧ True) ∧ t16 ∧ t16 ∧ True) ∧ (eqSegs [Seg.a (16 : Nat) (1 : Nat) fun j => [SV.int IntKind.u64 ((textS { low := z16, high := z16 : Fr } (W ((2 : Int)
    + d.x.tmod (2 : Int))) (W ((3 : Int) + d.y.tmod (4 : Int))) s (3 : Int)).low.getD j (0 : Int))], Seg.a (16 : Nat) (1 : Nat) fun j => [SV.int IntKind.u64 ((textS
    { low := z16, high := z16 : Fr } (W ((2 : Int) + d.x.tmod (2 : Int))) (W ((3 : Int) + d.y.tmod (4 : Int))) s (3 : Int)).high.getD j (0 : Int))]] [Seg.a (16 : Nat)
    (1 : Nat) fun j => [SV.int IntKind.u64 ((shiftS { low := rr (textS { low := z16, high := z16 : Fr } (2 : Int) (3 : Int) s (3 : Int)).low, high := rr (textS { low := z16, high := z16 : Fr } (2 : Int) (3 : Int) s (3 : Int)).high : Fr }
    (d.x.tmod (2 : Int)) (d.y.tmod (4 : Int))).low.getD j (0 : Int))], Seg.a (16 : Nat) (1 : Nat) fun j => [SV.int IntKind.u64 ((shiftS { low := rr (textS { low := z16, high := z16 : Fr } (2 : Int) (3 : Int) s (3 : Int)).low, high := rr (textS { low := z16, high := z16 : Fr } (2 : Int) (3 : Int) s (3 : Int)).high : Fr }
    (d.x.tmod (2 : Int)) (d.y.tmod (4 : Int))).high.getD j (0 : Int))]] = true → (True ∧ True) ∧ IsT true ∧ True ∧ true = true ∧ True) ∧ (eqSegs [Seg.a (16 : Nat) (1
    : Nat) fun j => [SV.int IntKind.u64 ((textS { low := z16, high := z16 : Fr } (W ((2 : Int) + d.x.tmod (2 : Int))) (W ((3 : Int) + d.y.tmod (4 : Int))) s (3 : Int)).low.getD
    j (0 : Int))], Seg.a (16 : Nat) (1 : Nat) fun j => [SV.int IntKind.u64 ((textS { low := z16, high := z16 : Fr } (W ((2 : Int) + d.x.tmod (2 : Int))) (W ((3 : Int)
    + d.y.tmod (4 : Int))) s (3 : Int)).high.getD j (0 : Int))]] [Seg.a (16 : Nat) (1 : Nat) fun j => [SV.int IntKind.u64 ((shiftS { low := rr (textS { low := z16, high := z16 : Fr } (2 : Int) (3 : Int) s (3 : Int)).low, high := rr (textS { low := z16, high := z16 : Fr } (2 : Int) (3 : Int) s (3 : Int)).high : Fr }
    (d.x.tmod (2 : Int)) (d.y.tmod (4 : Int))).low.getD j (0 : Int))], Seg.a (16 : Nat) (1 : Nat) fun j => [SV.int IntKind.u64 ((shiftS { low := rr (textS { low := z16, high := z16 : Fr } (2 : Int) (3 : Int) s (3 : Int)).low, high := rr (textS { low := z16, high := z16 : Fr } (2 : Int) (3 : Int) s (3 : Int)).high : Fr }
    (d.x.tmod (2 : Int)) (d.y.tmod (4 : Int))).high.getD j (0 : Int))]] = false → IsT true ∧ True ∧ true = false ∧ True))))))) = vc11 s k d := by kernel_rfl
theorem lv_text {f : Fr} {x y n : Int} {s : List UInt8} (h0 : ¬ (20000 < s.length ∨ x < -1048576 ∨ 1048576 < x ∨ y < -1048576 ∨ 1048576 < y)) {b a : Nat} (hb : b < 16) (ha : a < 64) :
    lv (textS f x y s n) b a = if inkS s ((a : Int) - x) ((b : Int) - y) = true then lvS n else lv f b a := by
  have e : textS f x y s n = mkL (textP (fun _ _ => true) f x y s n) := by simp only [textS, if_neg h0]
  rw [e, lv_mkL hb ha (text_lev b a)]
  simp only [textP, Bool.and_true]
theorem lvS_3 : lvS 3 = 3 := by simp only [lvS]; rfl
theorem lit_ch {c c' u v : Int} (h : chS c = chS c') : litS c u v = litS c' u v := by simp only [litS, glS, h]
theorem ink_def (s : List UInt8) (u v : Int) : inkS s u v = (decide (0 ≤ v ∧ v < 7 ∧ 0 ≤ u ∧ u < 6 * s.length ∧ u % 6 < 5) && litS ((s.getD (u / 6).toNat 0).toNat : Int) (u % 6) v) := by simp only [inkS]
theorem ink_split {s : List UInt8} {k : Nat} (hk : k ≤ s.length) (u v : Int) : inkS s u v = (inkS (s.take k) u v || inkS (s.drop k) (u - 6 * k) v) := by
  rw [ink_def, ink_def, ink_def, List.length_take, List.length_drop, Nat.min_eq_left hk]
  by_cases h : u < 6 * k
  · rw [decide_eq_false (p := 0 ≤ v ∧ v < 7 ∧ 0 ≤ u - 6 * k ∧ _) (by omega), Bool.false_and, Bool.or_false]
    by_cases h0 : 0 ≤ u
    · have e : (s.take k).getD (u / 6).toNat 0 = s.getD (u / 6).toNat 0 := by
        simp only [List.getD_eq_getElem?_getD, List.getElem?_take, if_pos (show (u / 6).toNat < k by omega)]
      rw [e]
      congr 1
      exact decide_eq_decide.2 (by omega)
    · rw [decide_eq_false (by omega), decide_eq_false (by omega)]; rfl
  · rw [decide_eq_false (p := 0 ≤ v ∧ v < 7 ∧ 0 ≤ u ∧ u < 6 * ((k : Nat) : Int) ∧ _) (by omega), Bool.false_and, Bool.false_or]
    have e : (s.drop k).getD ((u - 6 * k) / 6).toNat 0 = s.getD (u / 6).toNat 0 := by
      simp only [List.getD_eq_getElem?_getD, List.getElem?_drop]
      rw [show k + ((u - 6 * k) / 6).toNat = (u / 6).toNat by omega]
    have e2 : (u - 6 * k) % 6 = u % 6 := by omega
    rw [e, e2]
    congr 1
    exact decide_eq_decide.2 (by omega)
theorem ink_bd {s : List UInt8} {u v : Int} (h : inkS s u v = true) (hs : s.length ≤ 10) : 0 ≤ v ∧ v < 7 ∧ 0 ≤ u ∧ u < 60 ∧ u < 6 * s.length - 1 := by
  have := ink_facts h; omega
theorem text_split {s : List UInt8} {k : Nat} (hk : k ≤ s.length) (hs : s.length ≤ 10) : textS (textS zeroF 2 3 (s.take k) 3) (2 + 6 * k) 3 (s.drop k) 3 = textS zeroF 2 3 s 3 := by
  refine lv_ext (ok_text (ok_text zeroF_ok _ _ _ _) _ _ _ _) (ok_text zeroF_ok _ _ _ _) fun b a hb ha => ?_
  rw [lv_text (by rw [List.length_drop]; omega) hb ha, lv_text (by rw [List.length_take]; omega) hb ha, lv_text (by omega) hb ha, ink_split hk, show (a : Int) - (2 + 6 * k) = a - 2 - 6 * k by omega]
  cases inkS (s.take k) (a - 2) (b - 3) <;> cases inkS (s.drop k) (a - 2 - 6 * k) (b - 3) <;> rfl
theorem byI_bd (s : List UInt8) (j : Nat) : 0 ≤ byI s j ∧ byI s j < 256 := by
  simp only [byI]; exact ⟨by omega, byte_bd _⟩
theorem up_bd {c : Int} (h : 0 ≤ c ∧ c < 256) : 0 ≤ upB c ∧ upB c < 256 := by simp only [upB]; split <;> omega
theorem ch_up (c : Int) : chS (upB c) = chS c := by
  simp only [upB]
  by_cases h : 97 ≤ c ∧ c ≤ 122
  · rw [if_pos h]
    simp only [chS, if_pos h]
    rw [if_neg (show ¬ (97 ≤ c - 32 ∧ c - 32 ≤ 122) by omega)]
  · rw [if_neg h]
theorem text_up {s t : List UInt8} (hs : s.length ≤ 10) (hl : t.length = s.length) (h : ∀ j, j < s.length → ((t.getD j 0).toNat : Int) = upB (byI s j)) : textS zeroF 2 3 t 3 = textS zeroF 2 3 s 3 := by
  have e : ∀ u v, inkS t u v = inkS s u v := fun u v => by
    rw [ink_def, ink_def, hl]
    by_cases c : 0 ≤ v ∧ v < 7 ∧ 0 ≤ u ∧ u < 6 * s.length ∧ u % 6 < 5
    · rw [h (u / 6).toNat (by omega)]
      congr 1
      exact lit_ch (by rw [ch_up]; simp only [byI])
    · rw [decide_eq_false c]; rfl
  refine lv_ext (ok_text zeroF_ok _ _ _ _) (ok_text zeroF_ok _ _ _ _) fun b a hb ha => ?_
  rw [lv_text (by omega) hb ha, lv_text (by omega) hb ha, e]
theorem text_move {s : List UInt8} (hs : s.length ≤ 10) {dx dy : Int} (x0 : -2 < dx) (x1 : dx < 2) (y0 : -4 < dy) (y1 : dy < 4) : textS zeroF (2 + dx) (3 + dy) s 3 = shiftS (textS zeroF 2 3 s 3) dx dy := by
  refine lv_ext (ok_text zeroF_ok _ _ _ _) (ok_shift _ _ _) fun b a hb ha => ?_
  rw [lv_text (by omega) hb ha, lv_shift hb ha, lv_zero]
  have e1 : (a : Int) - (2 + dx) = a - dx - 2 := by omega
  have e2 : (b : Int) - (3 + dy) = b - dy - 3 := by omega
  rw [e1, e2]
  by_cases h : 0 ≤ (a : Int) - dx ∧ (a : Int) - dx < 64 ∧ 0 ≤ (b : Int) - dy ∧ (b : Int) - dy < 16
  · rw [getS_in h.1 h.2.1 h.2.2.1 h.2.2.2, lv_text (by omega) (by omega) (by omega), lv_zero, Int.toNat_of_nonneg h.1, Int.toNat_of_nonneg h.2.2.1]
  · rw [getS_out h, if_neg fun c => h ?_]
    have := ink_bd c hs
    omega
theorem set8n {l : List Int} {m i : Nat} {v : Int} (h : l.length = m) : rowL (codI IntKind.u8) m (fun i' => mergeL (decide (i' = i)) [SV.int IntKind.u8 v] [SV.int IntKind.u8 (l.getD i' 0)]) = l.set i v := setI h.symm
theorem self8 {l : List Int} {m : Nat} (h : l.length = m) : rowL (codI IntKind.u8) m (fun j => [SV.int IntKind.u8 (l.getD j 0)]) = l := by rw [← h]; exact selfI
theorem row_by (s : List UInt8) : rowL (codI IntKind.u8) s.length (byteSV s) = (List.range s.length).map (byI s) := by
  simp only [rowL]
  refine List.map_congr_left fun j _ => ?_
  simp only [byI]; rfl
theorem u8_of {c : Int} (h : 0 ≤ c ∧ c < 256) : ((UInt8.ofNat c.toNat).toNat : Int) = c := by
  rw [UInt8.toNat_ofNat']; omega
theorem v11 (s : List UInt8) (k : Int) (d : Dot) (k0 : 0 ≤ k) (k1 : k < 256) : vc11 s k d := by
  rw [← vc11_eq]
  simp (maxDischargeDepth := 9) [-List.getD_eq_getElem?_getD, W_def, rr_def, fr_eta, zero_mk, rrF, eqF_def, eqFr_iff, ok_text, zeroF_ok, ok_shift]
  intro hs
  have hs' : s.length ≤ 10 := by omega
  have w1 : W ((s.length : Int) + 1) = s.length + 1 := W_id (by omega) (by omega)
  have w2 : W k = k := W_id (by omega) (by omega)
  have m0 := Int.emod_nonneg k (show (s.length : Int) + 1 ≠ 0 by omega)
  have m1 := Int.emod_lt_of_pos k (show 0 < (s.length : Int) + 1 by omega)
  rw [w1, w2, Int.tmod_eq_emod_of_nonneg k0]
  generalize k % ((s.length : Int) + 1) = m at *
  rw [W_id (n := 6 * m) (by omega) (by omega), W_id (n := 2 + 6 * m) (by omega) (by omega)]
  have hsp : textS (textS zeroF 2 3 (List.take m.toNat s) 3) (2 + 6 * m) 3 (List.drop m.toNat s) 3 = textS zeroF 2 3 s 3 := by
    have := text_split (s := s) (k := m.toNat) (by omega) hs'
    rwa [Int.toNat_of_nonneg m0] at this
  refine ⟨by omega, ⟨m0, by omega⟩, hsp, fun _ => ⟨⟨?_, fun i hi => ?_⟩, fun i l hU => ⟨fun h1 => ?_, fun h1 => ?_⟩⟩⟩
  · rw [row_by]
    simp only [U11]
    refine ⟨by omega, by omega, List.map_congr_left fun j _ => ?_⟩
    rw [if_neg (by omega)]
  · rw [row_by, mapR_at hi]; simp only [byI]
  · have hU' := hU
    simp only [U11] at hU'
    obtain ⟨i0, i1, hl⟩ := hU'
    have len : l.length = s.length := by rw [hl]; simp
    have at_i : l.getD i.toNat 0 = byI s i.toNat := by rw [hl, mapR_at (by omega), if_neg (by omega)]
    have hW : W (i + 1) = i + 1 := W_id (by omega) (by omega)
    rw [set8n len, self8 len, at_i, hW]
    have bb := byI_bd s i.toNat
    have keep : ∀ c : Int, byI s i.toNat = upB (byI s i.toNat) → U11 s (i + 1) l := fun _ c => by
      simp only [U11]
      refine ⟨by omega, by omega, ?_⟩
      rw [hl]
      refine List.map_congr_left fun j hj => ?_
      by_cases e : (j : Int) < i
      · rw [if_pos e, if_pos (by omega)]
      · by_cases e2 : j = i.toNat
        · subst e2; rw [if_neg e, if_pos (by omega), ← c]
        · rw [if_neg e, if_neg (by omega)]
    refine ⟨⟨i0, h1⟩, by omega, fun h2 => ⟨⟨i0, h1⟩, by omega, fun h3 => ⟨⟨i0, h1⟩, by omega, ⟨i0, h1⟩, by omega, ?_, by omega, fun j hj => ?_⟩, fun h3 => ⟨keep 0 ?_, by omega, fun _ _ => rfl⟩⟩, fun h2 => ⟨keep 0 ?_, by omega, fun _ _ => rfl⟩⟩
    · have ev : IntKind.u8.wrap (IntKind.u8.wrap (byI s i.toNat - 97) + 65) = upB (byI s i.toNat) := by
        rw [wrap_u8 (n := byI s i.toNat - 97) (by omega) (by omega), wrap_u8 (by omega) (by omega)]
        simp only [upB]; rw [if_pos ⟨h2, h3⟩]; omega
      rw [ev]
      simp only [U11]
      refine ⟨by omega, by omega, ?_⟩
      rw [hl]
      refine mapR_set (by omega) (by rw [if_pos (by omega)]) fun j hj hne => ?_
      by_cases e : (j : Int) < i
      · rw [if_pos e, if_pos (by omega)]
      · rw [if_neg e, if_neg (by omega)]
    · rw [getD_set (by omega)]
    · simp only [upB]; rw [if_neg (by omega)]
    · simp only [upB]; rw [if_neg (by omega)]
  · have hU' := hU
    simp only [U11] at hU'
    obtain ⟨i0, i1, hl⟩ := hU'
    have at_j : ∀ j, j < s.length → l.getD j 0 = upB (byI s j) := fun j hj => by rw [hl, mapR_at hj, if_pos (by omega)]
    have ht : textS zeroF 2 3 (bytesOf s.length fun j => [SV.int IntKind.u8 (l.getD j 0)]) 3 = textS zeroF 2 3 s 3 := by
      refine text_up hs' (by simp [bytesOf]) fun j hj => ?_
      simp only [bytesOf]
      rw [mapR_at hj, at_j j hj]
      exact u8_of (up_bd (byI_bd s j))
    have lv3 : ∀ a b : Int, 0 ≤ a → a < 64 → 0 ≤ b → b < 16 → 0 < getS (textS zeroF 2 3 s 3) a b → inkS s (a - 2) (b - 3) = true := fun a b a0 a1 b0 b1 h => by
      rw [getS_in a0 a1 b0 b1, lv_text (by omega) (by omega) (by omega), Int.toNat_of_nonneg a0, Int.toNat_of_nonneg b0, lv_zero] at h
      by_cases c : inkS s (a - 2) (b - 3) = true
      · exact c
      · rw [if_neg c] at h; omega
    refine ⟨fun _ _ => rfl, ht, fun _ b b0 b1 => ⟨fun b2 a a0 a1 => ⟨fun a2 => ⟨fun h => ?_, fun _ => col_step a0 a2⟩, fun _ => row_step b0 b2⟩, fun _ => ?_⟩⟩
    · have ib := ink_bd (lv3 a b a0 a2 b0 b2 h) hs'
      have ew : widthS s = 6 * s.length - 1 := by simp only [widthS]; omega
      have hw : W (2 + widthS s) = 2 + widthS s := by rw [ew]; exact W_id (by omega) (by omega)
      rw [hw, ew]
      have cs := col_step a0 a2
      exact ⟨by omega, fun _ => ⟨by omega, by omega, fun _ => ⟨by omega, fun _ => ⟨by omega, fun _ => cs⟩⟩⟩⟩
    · have q1 := tmod_bd d.x (k := 2) (by omega)
      have q2 := tmod_bd d.y (k := 4) (by omega)
      rw [W_id (n := 2 + d.x.tmod 2) (by omega) (by omega), W_id (n := 3 + d.y.tmod 4) (by omega) (by omega)]
      exact text_move hs' (by omega) (by omega) (by omega) (by omega)
end Go.Proofs.Do
