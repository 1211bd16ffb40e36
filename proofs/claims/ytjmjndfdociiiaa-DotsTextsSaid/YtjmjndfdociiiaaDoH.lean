import Derived.Test.YtjmjndfdociiiaaDoG
namespace Go.Proofs.Do
set_option linter.unusedVariables false
set_option linter.unusedSimpArgs false
open Go Go.Sx Go.Proofs
set_option maxRecDepth 100000
-- SAME: sm
-- ABBR: (∀ (i : Nat), i < (16 : Nat) → true = true) ==> t16
-- ABBR: IntKind.i64.wrap ==> W
-- ROWS: rowL (codI IntKind.u64) (16 : Nat) fun j => [SV.int IntKind.u64 ( ==> .getD j (0 : Int) ==> rr
-- ABBR: [(0 : Int), (0 : Int), (0 : Int), (0 : Int), (0 : Int), (0 : Int), (0 : Int), (0 : Int), (0 : Int), (0 : Int), (0 : Int), (0 : Int), (0 : Int), (0 : Int), (0 : Int), (0 : Int), (0 : Int), (0 : Int), (0 : Int), (0 : Int), (0 : Int), (0 : Int), (0 : Int), (0 : Int), (0 : Int), (0 : Int), (0 : Int), (0 : Int), (0 : Int), (0 : Int), (0 : Int), (0 : Int), (0 : Int), (0 : Int), (0 : Int), (0 : Int), (0 : Int), (0 : Int), (0 : Int), (0 : Int), (0 : Int), (0 : Int), (0 : Int), (0 : Int), (0 : Int), (0 : Int), (0 : Int), (0 : Int), (0 : Int), (0 : Int), (0 : Int), (0 : Int), (0 : Int), (0 : Int), (0 : Int), (0 : Int), (0 : Int), (0 : Int), (0 : Int), (0 : Int), (0 : Int), (0 : Int), (0 : Int), (0 : Int)] ==> z64
def z64 : List Int := List.replicate 64 0
def dgt (f : Fr) (y x : Nat) : Int := 48 + lv f y x
def rowB (f : Fr) (y : Nat) : List UInt8 := (List.range 64).map fun x => UInt8.ofNat (dgt f y x).toNat
def rowsS (f : Fr) : List (List UInt8) := (List.range 16).map (rowB f)
def R25 (f : Fr) (y : Int) (l : List (List UInt8)) : Prop := 0 ≤ y ∧ y ≤ 16 ∧ l = (List.range 16).map fun (j : Nat) => if (j : Int) < y then rowB f j else []
def Q25 (f : Fr) (y x : Int) (l : List Int) : Prop := 0 ≤ y ∧ y < 16 ∧ 0 ≤ x ∧ x ≤ 64 ∧ l = (List.range 64).map fun (j : Nat) => if (j : Int) < x then dgt f y.toNat j else 0
def R26 (f : Fr) (y : Int) (l : List (List UInt8)) : Prop := 0 ≤ y ∧ y ≤ 16 ∧ l = (List.range y.toNat).map (rowB f)
def Q26 (f : Fr) (y x : Int) (l : List Int) : Prop := 0 ≤ y ∧ y < 16 ∧ 0 ≤ x ∧ x ≤ 64 ∧ l = (List.range x.toNat).map (dgt f y.toNat)
attribute [irreducible] dgt rowB rowsS R25 Q25 R26 Q26
abbrev XL := Int × List (List UInt8)
def A25 (f : Fr) : List Ann := [⟨.unit, .list [.int .i64 (.tm 10), .arrL codS 16 1 0], fun _ (x : XL) => R25 f x.1 x.2, fun _ (x : XL) => (16 - x.1).toNat⟩,
  ⟨.int .i64 (.tm 10), .list [.int .i64 (.tm 16), .arrL (codI .u8) 64 2 0], fun (y : Int) (x : X2) => Q25 f y x.1 x.2, fun _ (x : X2) => (64 - x.1).toNat⟩]
def A26 (f : Fr) : List Ann := [⟨.unit, .list [.int .i64 (.tm 4), .rowL codS 1 9 [.tm 3]], fun _ (x : XL) => R26 f x.1 x.2, fun _ (x : XL) => (16 - x.1).toNat⟩,
  ⟨.int .i64 (.tm 4), .list [.int .i64 (.tm 6), .rowL (codI .u8) 2 5 [.tm 5]], fun (y : Int) (x : X2) => Q26 f y x.1 x.2, fun _ (x : X2) => (64 - x.1).toNat⟩]
def cRows : Ctr := ctr sF.dec (fun a => okF a) (fun a => encR codS (rowsS a))
noncomputable def T25 : List (Nat × Ctr) := (25, cRows) :: T22
noncomputable def vc25 (f : Fr) : Prop := cva T22 Try.f25 (A25 f) [encF f] (encR codS (rowsS f))
noncomputable def T26 : List (Nat × Ctr) := (26, cRows) :: T25
noncomputable def vc26 (f : Fr) : Prop := cva T25 Try.f26 (A26 f) [encF f] (encR codS (rowsS f))
noncomputable def T16 : List (Nat × Ctr) := (16, ctr (Sig.nil).dec (fun _ => True) (fun _ => .bool true)) :: T26
noncomputable def vc16 (u : Unit) : Prop := cva T26 Try.f16 [] [] (.bool true)
theorem vc25_eq (f : Fr) : (True ∧ (sm ((16 : Int)) ∧ (0 : Int) ≤ (16 : Int) ∧ (16 : Int) ≤ (9223372036854775807 : Int) ∧ (16 : Int) * (16 : Int) ≤ (281474976710656 : Int)) ∧ True ∧ True ∧
    (R25 f (0 : Int) (rowL codS (16 : Nat) fun x => [SV.str []]) ∧ (((sm ((16 : Nat)) ∧ sm ((1 : Nat)) ∧ ∀ (i : Nat), i < (16 : Nat) → sm (f.low.getD i (0 : Int)) ∧
    True) ∧ (sm ((16 : Nat)) ∧ sm ((1 : Nat)) ∧ ∀ (i : Nat), i < (16 : Nat) → sm (f.high.getD i (0 : Int)) ∧ True) ∧ True) ∧ True ∧ True ∧ (sm ((0 : Nat)) ∧ sm ((16
    : Nat))) ∧ True ∧ True ∧ True ∧ (sm ((0 : Nat)) ∧ sm ((16 : Nat))) ∧ (sm ((0 : Nat)) ∧ sm ((16 : Nat))) ∧ sm ((16 : Int)) ∧ sm ((0 : Int)) ∧ True ∧ True ∧ True ∧
    True ∧ True ∧ True ∧ True ∧ True ∧ True ∧ True ∧ True ∧ True ∧ True ∧ True ∧ True ∧ True ∧ True ∧ True ∧ True ∧ True ∧ True ∧ True ∧ True ∧ True ∧ True ∧ True) ∧
    ((if false = true then [] else List.map Seg.shape [Seg.a (16 : Nat) (1 : Nat) fun j => [SV.int IntKind.u64 (f.low.getD j (0 : Int))], Seg.a (16 : Nat) (1 : Nat)
    fun j => [SV.int IntKind.u64 (f.high.getD j (0 : Int))]]) = if false = true then [] else List.map Seg.shape [Seg.a (16 : Nat) (1 : Nat) fun j => [SV.int IntKind.u64
    (f.low.getD j (0 : Int))], Seg.a (16 : Nat) (1 : Nat) fun j => [SV.int IntKind.u64 (f.high.getD j (0 : Int))]]) ∧ ((sm ((16 : Nat)) ∧ sm ((1 : Nat)) ∧ ∀ (i : Nat),
    i < (16 : Nat) → sm (f.low.getD i (0 : Int)) ∧ True) ∧ (sm ((16 : Nat)) ∧ sm ((1 : Nat)) ∧ ∀ (i : Nat), i < (16 : Nat) → sm (f.high.getD i (0 : Int)) ∧ True) ∧ True)
    ∧ ((if true = true then [] else List.map Seg.shape [Seg.a (16 : Nat) (1 : Nat) fun x => [SV.str []]]) = if true = true then [] else List.map Seg.shape [Seg.a (16
    : Nat) (1 : Nat) fun x => [SV.str []]]) ∧ ((sm ((16 : Nat)) ∧ (1 : Nat) = codS.n ∧ ∀ (i : Nat), i < (16 : Nat) → [] = (rowL codS (16 : Nat) fun x => [SV.str []]).getD
    i codS.dft ∧ True) ∧ True) ∧ True) ∧ ∀ (n : Int) (l : List (List UInt8)), R25 f n l → True ∧ (decide (n < (16 : Int)) = true → True ∧ (sm ((64 : Int)) ∧ (0 : Int)
    ≤ (64 : Int) ∧ (64 : Int) ≤ (9223372036854775807 : Int) ∧ (1 : Int) * (64 : Int) ≤ (281474976710656 : Int)) ∧ True ∧ True ∧ (Q25 f n (0 : Int) z64 ∧ (((sm ((16 :
    Nat)) ∧ sm ((1 : Nat)) ∧ ∀ (i : Nat), i < (16 : Nat) → sm (f.low.getD i (0 : Int)) ∧ True) ∧ (sm ((16 : Nat)) ∧ sm ((1 : Nat)) ∧ ∀ (i : Nat), i < (16 : Nat) → sm
    (f.high.getD i (0 : Int)) ∧ True) ∧ True) ∧ True ∧ True ∧ (sm ((0 : Nat)) ∧ sm ((16 : Nat))) ∧ n = n ∧ (sm ((0 : Nat)) ∧ sm ((64 : Nat))) ∧ True ∧ (sm ((0 : Nat))
    ∧ sm ((16 : Nat))) ∧ (sm ((0 : Nat)) ∧ sm ((16 : Nat))) ∧ sm ((16 : Int)) ∧ n = n ∧ True ∧ n = n ∧ (sm ((0 : Nat)) ∧ sm ((64 : Nat))) ∧ (sm ((0 : Nat)) ∧ sm ((64
    : Nat))) ∧ sm ((64 : Int)) ∧ sm ((0 : Int)) ∧ True ∧ True ∧ True ∧ True ∧ True ∧ True ∧ True ∧ True ∧ True ∧ True ∧ True ∧ True ∧ True ∧ True ∧ True ∧ True ∧ True
    ∧ True ∧ True ∧ True) ∧ ((if false = true then [] else List.map Seg.shape [Seg.a (16 : Nat) (1 : Nat) fun j => [SV.int IntKind.u64 (f.low.getD j (0 : Int))], Seg.a
    (16 : Nat) (1 : Nat) fun j => [SV.int IntKind.u64 (f.high.getD j (0 : Int))]]) = if false = true then [] else List.map Seg.shape [Seg.a (16 : Nat) (1 : Nat) fun
    j => [SV.int IntKind.u64 (f.low.getD j (0 : Int))], Seg.a (16 : Nat) (1 : Nat) fun j => [SV.int IntKind.u64 (f.high.getD j (0 : Int))]]) ∧ ((sm ((16 : Nat)) ∧ sm
    ((1 : Nat)) ∧ ∀ (i : Nat), i < (16 : Nat) → sm (f.low.getD i (0 : Int)) ∧ True) ∧ (sm ((16 : Nat)) ∧ sm ((1 : Nat)) ∧ ∀ (i : Nat), i < (16 : Nat) → sm (f.high.getD
    i (0 : Int)) ∧ True) ∧ True) ∧ ((if true = true then [] else List.map Seg.shape [Seg.a (16 : Nat) (1 : Nat) fun x => [SV.str []]]) = if true = true then [] else
    List.map Seg.shape [Seg.a (16 : Nat) (1 : Nat) fun x => [SV.str []]]) ∧ ((sm ((16 : Nat)) ∧ codS.n = codS.n ∧ ∀ (i : Nat), i < (16 : Nat) → sm (l.getD i codS.dft)
    ∧ True) ∧ True) ∧ ((if true = true then [] else List.map Seg.shape [Seg.a (64 : Nat) (1 : Nat) fun x => [SV.int IntKind.u8 (0 : Int)]]) = if true = true then []
    else List.map Seg.shape [Seg.a (64 : Nat) (1 : Nat) fun x => [SV.int IntKind.u8 (0 : Int)]]) ∧ ((sm ((64 : Nat)) ∧ (1 : Nat) = (codI IntKind.u8).n ∧ ∀ (i : Nat),
    i < (64 : Nat) → (0 : Int) = z64.getD i (codI IntKind.u8).dft ∧ True) ∧ True) ∧ True) ∧ ∀ (n_1 : Int) (l_1 : List Int), Q25 f n n_1 l_1 → True ∧ (decide (n_1 < (64
    : Int)) = true → True ∧ (t16 ∧ t16 ∧ True) ∧ True ∧ True ∧ ((((∀ (i : Nat), i < (16 : Nat) → true = true ∧ True) ∧ ∀ (i : Nat), i < (16 : Nat) → true = true ∧ True)
    ∧ True ∧ True) ∧ okF { low := rr f.low, high := rr f.high : Fr }) ∧ ((0 : Int) ≤ n_1 ∧ n_1 < (64 : Int)) ∧ (0 : Nat) + n_1.toNat < (64 : Nat) ∧ True ∧ True ∧ Q25
    f n (W (n_1 + (1 : Int))) (rowL (codI IntKind.u8) (64 : Nat) fun i' => mergeL (decide (i' = (0 : Nat) + n_1.toNat)) (setL ((codI IntKind.u8).enc (l_1.getD ((0 :
    Nat) + n_1.toNat) (codI IntKind.u8).dft)) (0 : Nat) [SV.int IntKind.u8 (IntKind.u8.wrap ((48 : Int) + IntKind.u8.wrap (getS { low := rr f.low, high := rr f.high : Fr }
    n_1 n)))]) ((codI IntKind.u8).enc (l_1.getD i' (codI IntKind.u8).dft))) ∧ ((64 : Int) - W (n_1 + (1 : Int))).toNat < ((64 : Int) - n_1).toNat ∧ (((sm ((16 : Nat))
    ∧ sm ((1 : Nat)) ∧ ∀ (i : Nat), i < (16 : Nat) → sm (f.low.getD i (0 : Int)) ∧ True) ∧ (sm ((16 : Nat)) ∧ sm ((1 : Nat)) ∧ ∀ (i : Nat), i < (16 : Nat) → sm (f.high.getD
    i (0 : Int)) ∧ True) ∧ True) ∧ True ∧ True ∧ (sm ((0 : Nat)) ∧ sm ((16 : Nat))) ∧ n = n ∧ (sm ((0 : Nat)) ∧ sm ((64 : Nat))) ∧ True ∧ (sm ((0 : Nat)) ∧ sm ((16 :
    Nat))) ∧ (sm ((0 : Nat)) ∧ sm ((16 : Nat))) ∧ sm ((16 : Int)) ∧ n = n ∧ True ∧ n = n ∧ (sm ((0 : Nat)) ∧ sm ((64 : Nat))) ∧ (sm ((0 : Nat)) ∧ sm ((64 : Nat))) ∧
    sm ((64 : Int)) ∧ sm (W (n_1 + (1 : Int))) ∧ True ∧ True ∧ True ∧ True ∧ True ∧ True ∧ True ∧ True ∧ True ∧ True ∧ True ∧ True ∧ True ∧ True ∧ True ∧ True ∧ True
    ∧ True ∧ True ∧ True) ∧ ((if false = true then [] else List.map Seg.shape [Seg.a (16 : Nat) (1 : Nat) fun j => [SV.int IntKind.u64 (f.low.getD j (0 : Int))], Seg.a
    (16 : Nat) (1 : Nat) fun j => [SV.int IntKind.u64 (f.high.getD j (0 : Int))]]) = if false = true then [] else List.map Seg.shape [Seg.a (16 : Nat) (1 : Nat) fun
    j => [SV.int IntKind.u64 (f.low.getD j (0 : Int))], Seg.a (16 : Nat) (1 : Nat) fun j => [SV.int IntKind.u64 (f.high.getD j (0 : Int))]]) ∧ ((sm ((16 : Nat)) ∧ sm
    ((1 : Nat)) ∧ ∀ (i : Nat), i < (16 : Nat) → sm (f.low.getD i (0 : Int)) ∧ True) ∧ (sm ((16 : Nat)) ∧ sm ((1 : Nat)) ∧ ∀ (i : Nat), i < (16 : Nat) → sm (f.high.getD
    i (0 : Int)) ∧ True) ∧ True) ∧ ((if true = true then [] else List.map Seg.shape [Seg.a (16 : Nat) (1 : Nat) fun x => [SV.str []]]) = if true = true then [] else
    List.map Seg.shape [Seg.a (16 : Nat) (1 : Nat) fun x => [SV.str []]]) ∧ ((sm ((16 : Nat)) ∧ codS.n = codS.n ∧ ∀ (i : Nat), i < (16 : Nat) → sm (l.getD i codS.dft)
    ∧ True) ∧ True) ∧ ((if true = true then [] else List.map Seg.shape [Seg.a (64 : Nat) (1 : Nat) fun x => [SV.int IntKind.u8 (0 : Int)]]) = if true = true then []
    else List.map Seg.shape [Seg.a (64 : Nat) (1 : Nat) fun x => [SV.int IntKind.u8 (0 : Int)]]) ∧ ((sm ((64 : Nat)) ∧ (0 : Nat) + (1 : Nat) = (codI IntKind.u8).n ∧
    ∀ (i : Nat), i < (64 : Nat) → (if decide (i = (0 : Nat) + n_1.toNat) = true then IntKind.u8.wrap ((48 : Int) + IntKind.u8.wrap (getS { low := rr f.low, high := rr f.high : Fr }
    n_1 n)) else l_1.getD i (codI IntKind.u8).dft) = (rowL (codI IntKind.u8) (64 : Nat) fun i' => mergeL (decide (i' = (0 : Nat) + n_1.toNat)) (setL ((codI IntKind.u8).enc
    (l_1.getD ((0 : Nat) + n_1.toNat) (codI IntKind.u8).dft)) (0 : Nat) [SV.int IntKind.u8 (IntKind.u8.wrap ((48 : Int) + IntKind.u8.wrap (getS { low := rr f.low, high := rr f.high : Fr }
    n_1 n)))]) ((codI IntKind.u8).enc (l_1.getD i' (codI IntKind.u8).dft))).getD i (codI IntKind.u8).dft ∧ True) ∧ True) ∧ True) ∧ (decide (n_1 < (64 : Int)) = false
    → (0 : Nat) + (64 : Nat) ≤ (64 : Nat) ∧ (∀ (j : Nat), j < (64 : Nat) → isByte ((fun (j : Nat) => (codI IntKind.u8).enc (l_1.getD j (codI IntKind.u8).dft)) ((0 :
    Nat) + j)) = true) ∧ ((0 : Int) ≤ n ∧ n < (16 : Int)) ∧ (0 : Nat) + n.toNat < (16 : Nat) ∧ True ∧ True ∧ R25 f (W (n + (1 : Int))) (rowL codS (16 : Nat) fun i' =>
    mergeL (decide (i' = (0 : Nat) + n.toNat)) (setL (codS.enc (l.getD ((0 : Nat) + n.toNat) codS.dft)) (0 : Nat) [SV.str (bytesOf (64 : Nat) fun i => (codI IntKind.u8).enc
    (l_1.getD ((0 : Nat) + i) (codI IntKind.u8).dft))]) (codS.enc (l.getD i' codS.dft))) ∧ ((16 : Int) - W (n + (1 : Int))).toNat < ((16 : Int) - n).toNat ∧ (((sm ((16
    : Nat)) ∧ sm ((1 : Nat)) ∧ ∀ (i : Nat), i < (16 : Nat) → sm (f.low.getD i (0 : Int)) ∧ True) ∧ (sm ((16 : Nat)) ∧ sm ((1 : Nat)) ∧ ∀ (i : Nat), i < (16 : Nat) →
    sm (f.high.getD i (0 : Int)) ∧ True) ∧ True) ∧ True ∧ True ∧ (sm ((0 : Nat)) ∧ sm ((16 : Nat))) ∧ True ∧ True ∧ True ∧ (sm ((0 : Nat)) ∧ sm ((16 : Nat))) ∧ (sm ((0
    : Nat)) ∧ sm ((16 : Nat))) ∧ sm ((16 : Int)) ∧ sm (W (n + (1 : Int))) ∧ True ∧ True ∧ True ∧ True ∧ True ∧ True ∧ True ∧ True ∧ True ∧ True ∧ True ∧ True ∧ True
    ∧ True ∧ True ∧ True ∧ True ∧ True ∧ True ∧ True ∧ True ∧ True ∧ True ∧ True ∧ True ∧ True) ∧ ((if false = true then [] else List.map Seg.shape [Seg.a (16 : Nat)
    (1 : Nat) fun j => [SV.int IntKind.u64 (f.low.getD j (0 : Int))], Seg.a (16 : Nat) (1 : Nat) fun j => [SV.int IntKind.u64 (f.high.getD j (0 : Int))]]) = if false
    = true then [] else List.map Seg.shape [Seg.a (16 : Nat) (1 : Nat) fun j => [SV.int IntKind.u64 (f.low.getD j (0 : Int))], Seg.a (16 : Nat) (1 : Nat) fun j => [SV.int
    IntKind.u64 (f.high.getD j (0 : Int))]]) ∧ ((sm ((16 : Nat)) ∧ sm ((1 : Nat)) ∧ ∀ (i : Nat), i < (16 : Nat) → sm (f.low.getD i (0 : Int)) ∧ True) ∧ (sm ((16 : Nat))
    ∧ sm ((1 : Nat)) ∧ ∀ (i : Nat), i < (16 : Nat) → sm (f.high.getD i (0 : Int)) ∧ True) ∧ True) ∧ ((if true = true then [] else List.map Seg.shape [Seg.a (16 : Nat)
    (1 : Nat) fun x => [SV.str []]]) = if true = true then [] else List.map Seg.shape [Seg.a (16 : Nat) (1 : Nat) fun x => [SV.str []]]) ∧ ((sm ((16 : Nat)) ∧ (0 : Nat)
    + (1 : Nat) = codS.n ∧ ∀ (i : Nat), i < (16 : Nat) → (if decide (i = (0 : Nat) + n.toNat) = true then bytesOf (64 : Nat) fun i => (codI IntKind.u8).enc (l_1.getD
    ((0 : Nat) + i) (codI IntKind.u8).dft) else l.getD i codS.dft) = (rowL codS (16 : Nat) fun i' => mergeL (decide (i' = (0 : Nat) + n.toNat)) (setL (codS.enc (l.getD
    ((0 : Nat) + n.toNat) codS.dft)) (0 : Nat) [SV.str (bytesOf (64 : Nat) fun i => (codI IntKind.u8).enc (l_1.getD ((0 : Nat) + i) (codI IntKind.u8).dft))]) (codS.enc
    (l.getD i' codS.dft))).getD i codS.dft ∧ True) ∧ True) ∧ True)) ∧ (decide (n < (16 : Int)) = false → True ∧ ((0 : Nat) + (16 : Nat) ≤ (16 : Nat) ∧ ∀ (i : Nat), i
    < (16 : Nat) → true = true) ∧ ((16 : Nat) = (rowsS f).length ∧ ∀ (i : Nat), i < (16 : Nat) → l.getD ((0 : Nat) + i) codS.dft = (rowsS f).getD i codS.dft ∧ True)
    ∧ True)) = vc25 f := by kernel_rfl
theorem vc26_eq (f : Fr) : (True ∧ True ∧ True ∧ (R26 f (0 : Int) [] ∧ (((sm ((16 : Nat)) ∧ sm ((1 : Nat)) ∧ ∀ (i : Nat), i < (16 : Nat) → sm (f.low.getD i (0 : Int)) ∧ True) ∧ (sm ((16 : Nat))
    ∧ sm ((1 : Nat)) ∧ ∀ (i : Nat), i < (16 : Nat) → sm (f.high.getD i (0 : Int)) ∧ True) ∧ True) ∧ True ∧ True ∧ (sm ((0 : Nat)) ∧ sm ((0 : Nat))) ∧ sm ((0 : Int))
    ∧ True ∧ True ∧ True ∧ True ∧ True ∧ True ∧ True ∧ True ∧ True ∧ True ∧ True ∧ True ∧ True ∧ True ∧ True ∧ True ∧ True ∧ True ∧ True ∧ True ∧ True ∧ True ∧ True
    ∧ True ∧ True ∧ True) ∧ ((if false = true then [] else List.map Seg.shape [Seg.a (16 : Nat) (1 : Nat) fun j => [SV.int IntKind.u64 (f.low.getD j (0 : Int))], Seg.a
    (16 : Nat) (1 : Nat) fun j => [SV.int IntKind.u64 (f.high.getD j (0 : Int))]]) = if false = true then [] else List.map Seg.shape [Seg.a (16 : Nat) (1 : Nat) fun
    j => [SV.int IntKind.u64 (f.low.getD j (0 : Int))], Seg.a (16 : Nat) (1 : Nat) fun j => [SV.int IntKind.u64 (f.high.getD j (0 : Int))]]) ∧ ((sm ((16 : Nat)) ∧ sm
    ((1 : Nat)) ∧ ∀ (i : Nat), i < (16 : Nat) → sm (f.low.getD i (0 : Int)) ∧ True) ∧ (sm ((16 : Nat)) ∧ sm ((1 : Nat)) ∧ ∀ (i : Nat), i < (16 : Nat) → sm (f.high.getD
    i (0 : Int)) ∧ True) ∧ True) ∧ sm ((0 : Nat)) ∧ codS.n = (1 : Nat) ∧ True) ∧ ∀ (n : Int) (l : List (List UInt8)), R26 f n l → True ∧ (decide (n < (16 : Int)) = true
    → True ∧ True ∧ (Q26 f n (0 : Int) [] ∧ (((sm ((16 : Nat)) ∧ sm ((1 : Nat)) ∧ ∀ (i : Nat), i < (16 : Nat) → sm (f.low.getD i (0 : Int)) ∧ True) ∧ (sm ((16 : Nat))
    ∧ sm ((1 : Nat)) ∧ ∀ (i : Nat), i < (16 : Nat) → sm (f.high.getD i (0 : Int)) ∧ True) ∧ True) ∧ True ∧ True ∧ (sm ((0 : Nat)) ∧ l.length = l.length) ∧ n = n ∧ (sm
    ((0 : Nat)) ∧ sm ((0 : Nat))) ∧ sm ((0 : Int)) ∧ n = n ∧ True ∧ True ∧ True ∧ True ∧ True ∧ True ∧ True ∧ True ∧ True ∧ True ∧ True ∧ True ∧ True ∧ True ∧ True ∧
    True ∧ True ∧ True ∧ True ∧ True ∧ True ∧ True ∧ True) ∧ ((if false = true then [] else List.map Seg.shape [Seg.a (16 : Nat) (1 : Nat) fun j => [SV.int IntKind.u64
    (f.low.getD j (0 : Int))], Seg.a (16 : Nat) (1 : Nat) fun j => [SV.int IntKind.u64 (f.high.getD j (0 : Int))]]) = if false = true then [] else List.map Seg.shape
    [Seg.a (16 : Nat) (1 : Nat) fun j => [SV.int IntKind.u64 (f.low.getD j (0 : Int))], Seg.a (16 : Nat) (1 : Nat) fun j => [SV.int IntKind.u64 (f.high.getD j (0 : Int))]])
    ∧ ((sm ((16 : Nat)) ∧ sm ((1 : Nat)) ∧ ∀ (i : Nat), i < (16 : Nat) → sm (f.low.getD i (0 : Int)) ∧ True) ∧ (sm ((16 : Nat)) ∧ sm ((1 : Nat)) ∧ ∀ (i : Nat), i < (16
    : Nat) → sm (f.high.getD i (0 : Int)) ∧ True) ∧ True) ∧ Eq (α := List (Option (Nat × Nat))) [] [] ∧ ((l.length = l.length ∧ codS.n = codS.n ∧ ∀ (i : Nat), i < l.length
    → sm (l.getD i codS.dft) ∧ True) ∧ True) ∧ sm ((0 : Nat)) ∧ (codI IntKind.u8).n = (1 : Nat) ∧ True) ∧ ∀ (n_1 : Int) (l_1 : List Int), Q26 f n n_1 l_1 → True ∧ (decide
    (n_1 < (64 : Int)) = true → (t16 ∧ t16 ∧ True) ∧ True ∧ True ∧ ((((∀ (i : Nat), i < (16 : Nat) → true = true ∧ True) ∧ ∀ (i : Nat), i < (16 : Nat) → true = true
    ∧ True) ∧ True ∧ True) ∧ okF { low := rr f.low, high := rr f.high : Fr }) ∧ (0 : Nat) + (1 : Nat) ≤ (1 : Nat) ∧ (∀ (j : Nat), j < (1 : Nat) → true = true) ∧ (sm
    ((0 : Nat)) ∧ sm (l_1.length) ∧ l_1.length + (1 : Nat) ≤ (140737488355328 : Nat) ∧ (l_1.length + (1 : Nat)) * (1 : Nat) ≤ (140737488355328 : Nat)) ∧ True ∧ True
    ∧ Q26 f n (W (n_1 + (1 : Int))) (rowL (codI IntKind.u8) (l_1.length + (1 : Nat)) fun j => mergeL (decide (j < l_1.length)) ((codI IntKind.u8).enc (l_1.getD j (codI
    IntKind.u8).dft)) ((if (1 : Nat) = (1 : Nat) then fun x => [SV.int IntKind.u8 (IntKind.u8.wrap (W ((48 : Int) + getS { low := rr f.low, high := rr f.high : Fr }
    n_1 n)))] else fun i' => mergeL (decide (i' = (0 : Nat))) [SV.int IntKind.u8 (IntKind.u8.wrap (W ((48 : Int) + getS { low := rr f.low, high := rr f.high : Fr } n_1
    n)))] [SV.int IntKind.u8 (0 : Int)]) ((0 : Nat) + (j - l_1.length)))) ∧ ((64 : Int) - W (n_1 + (1 : Int))).toNat < ((64 : Int) - n_1).toNat ∧ (((sm ((16 : Nat))
    ∧ sm ((1 : Nat)) ∧ ∀ (i : Nat), i < (16 : Nat) → sm (f.low.getD i (0 : Int)) ∧ True) ∧ (sm ((16 : Nat)) ∧ sm ((1 : Nat)) ∧ ∀ (i : Nat), i < (16 : Nat) → sm (f.high.getD
    i (0 : Int)) ∧ True) ∧ True) ∧ True ∧ True ∧ (sm ((0 : Nat)) ∧ l.length = l.length) ∧ n = n ∧ (sm ((0 : Nat)) ∧ l_1.length + (1 : Nat) = (rowL (codI IntKind.u8)
    (l_1.length + (1 : Nat)) fun j => mergeL (decide (j < l_1.length)) ((codI IntKind.u8).enc (l_1.getD j (codI IntKind.u8).dft)) ((if (1 : Nat) = (1 : Nat) then fun
    x => [SV.int IntKind.u8 (IntKind.u8.wrap (W ((48 : Int) + getS { low := rr f.low, high := rr f.high : Fr } n_1 n)))] else fun i' => mergeL (decide (i' = (0 : Nat)))
    [SV.int IntKind.u8 (IntKind.u8.wrap (W ((48 : Int) + getS { low := rr f.low, high := rr f.high : Fr } n_1 n)))] ((fun (x : List SV) => SV.int IntKind.u8 (0 : Int)
    :: x) [])) ((0 : Nat) + (j - l_1.length)))).length) ∧ sm (W (n_1 + (1 : Int))) ∧ n = n ∧ True ∧ True ∧ True ∧ True ∧ True ∧ True ∧ True ∧ True ∧ True ∧ True ∧ True
    ∧ True ∧ True ∧ True ∧ True ∧ True ∧ True ∧ True ∧ True ∧ True ∧ True ∧ True ∧ True) ∧ ((if false = true then [] else List.map Seg.shape [Seg.a (16 : Nat) (1 : Nat)
    fun j => [SV.int IntKind.u64 (f.low.getD j (0 : Int))], Seg.a (16 : Nat) (1 : Nat) fun j => [SV.int IntKind.u64 (f.high.getD j (0 : Int))]]) = if false = true then
    [] else List.map Seg.shape [Seg.a (16 : Nat) (1 : Nat) fun j => [SV.int IntKind.u64 (f.low.getD j (0 : Int))], Seg.a (16 : Nat) (1 : Nat) fun j => [SV.int IntKind.u64
    (f.high.getD j (0 : Int))]]) ∧ ((sm ((16 : Nat)) ∧ sm ((1 : Nat)) ∧ ∀ (i : Nat), i < (16 : Nat) → sm (f.low.getD i (0 : Int)) ∧ True) ∧ (sm ((16 : Nat)) ∧ sm ((1
    : Nat)) ∧ ∀ (i : Nat), i < (16 : Nat) → sm (f.high.getD i (0 : Int)) ∧ True) ∧ True) ∧ Eq (α := List (Option (Nat × Nat))) [] [] ∧ ((l.length = l.length ∧ codS.n
    = codS.n ∧ ∀ (i : Nat), i < l.length → sm (l.getD i codS.dft) ∧ True) ∧ True) ∧ Eq (α := List (Option (Nat × Nat))) [] [] ∧ ((l_1.length + (1 : Nat) = (rowL (codI
    IntKind.u8) (l_1.length + (1 : Nat)) fun j => mergeL (decide (j < l_1.length)) ((codI IntKind.u8).enc (l_1.getD j (codI IntKind.u8).dft)) ((if (1 : Nat) = (1 : Nat)
    then fun x => [SV.int IntKind.u8 (IntKind.u8.wrap (W ((48 : Int) + getS { low := rr f.low, high := rr f.high : Fr } n_1 n)))] else fun i' => mergeL (decide (i' =
    (0 : Nat))) [SV.int IntKind.u8 (IntKind.u8.wrap (W ((48 : Int) + getS { low := rr f.low, high := rr f.high : Fr } n_1 n)))] ((fun (x : List SV) => SV.int IntKind.u8
    (0 : Int) :: x) [])) ((0 : Nat) + (j - l_1.length)))).length ∧ (1 : Nat) = (codI IntKind.u8).n ∧ ∀ (i : Nat), i < l_1.length + (1 : Nat) → (if decide (i < l_1.length)
    = true then l_1.getD i (codI IntKind.u8).dft else IntKind.u8.wrap (W ((48 : Int) + getS { low := rr f.low, high := rr f.high : Fr } n_1 n))) = (rowL (codI IntKind.u8)
    (l_1.length + (1 : Nat)) fun j => mergeL (decide (j < l_1.length)) ((codI IntKind.u8).enc (l_1.getD j (codI IntKind.u8).dft)) ((if (1 : Nat) = (1 : Nat) then fun
    x => [SV.int IntKind.u8 (IntKind.u8.wrap (W ((48 : Int) + getS { low := rr f.low, high := rr f.high : Fr } n_1 n)))] else fun i' => mergeL (decide (i' = (0 : Nat)))
    [SV.int IntKind.u8 (IntKind.u8.wrap (W ((48 : Int) + getS { low := rr f.low, high := rr f.high : Fr } n_1 n)))] ((fun (x : List SV) => SV.int IntKind.u8 (0 : Int)
    :: x) [])) ((0 : Nat) + (j - l_1.length)))).getD i (codI IntKind.u8).dft ∧ True) ∧ True) ∧ True) ∧ (decide (n_1 < (64 : Int)) = false → (0 : Nat) + l_1.length ≤
    l_1.length ∧ (∀ (j : Nat), j < l_1.length → isByte ((fun (j : Nat) => (codI IntKind.u8).enc (l_1.getD j (codI IntKind.u8).dft)) ((0 : Nat) + j)) = true) ∧ (0 : Nat)
    + (1 : Nat) ≤ (1 : Nat) ∧ (∀ (j : Nat), j < (1 : Nat) → true = true) ∧ (sm ((0 : Nat)) ∧ l.length = l.length ∧ l.length + (1 : Nat) ≤ (140737488355328 : Nat) ∧ (l.length
    + (1 : Nat)) * (16 : Nat) ≤ (140737488355328 : Nat)) ∧ True ∧ True ∧ R26 f (W (n + (1 : Int))) (rowL codS (l.length + (1 : Nat)) fun j => mergeL (decide (j < l.length))
    (codS.enc (l.getD j codS.dft)) ((if (1 : Nat) = (1 : Nat) then fun x => [SV.str (bytesOf l_1.length fun i => (codI IntKind.u8).enc (l_1.getD ((0 : Nat) + i) (codI
    IntKind.u8).dft))] else fun i' => mergeL (decide (i' = (0 : Nat))) [SV.str (bytesOf l_1.length fun i => (codI IntKind.u8).enc (l_1.getD ((0 : Nat) + i) (codI IntKind.u8).dft))]
    [SV.str []]) ((0 : Nat) + (j - l.length)))) ∧ ((16 : Int) - W (n + (1 : Int))).toNat < ((16 : Int) - n).toNat ∧ (((sm ((16 : Nat)) ∧ sm ((1 : Nat)) ∧ ∀ (i : Nat),
    i < (16 : Nat) → sm (f.low.getD i (0 : Int)) ∧ True) ∧ (sm ((16 : Nat)) ∧ sm ((1 : Nat)) ∧ ∀ (i : Nat), i < (16 : Nat) → sm (f.high.getD i (0 : Int)) ∧ True) ∧ True)
    ∧ True ∧ True ∧ (sm ((0 : Nat)) ∧ l.length + (1 : Nat) = (rowL codS (l.length + (1 : Nat)) fun j => mergeL (decide (j < l.length)) (codS.enc (l.getD j codS.dft))
    ((if (1 : Nat) = (1 : Nat) then fun x => [SV.str (bytesOf l_1.length fun i => (codI IntKind.u8).enc (l_1.getD ((0 : Nat) + i) (codI IntKind.u8).dft))] else fun i'
    => mergeL (decide (i' = (0 : Nat))) [SV.str (bytesOf l_1.length fun i => (codI IntKind.u8).enc (l_1.getD ((0 : Nat) + i) (codI IntKind.u8).dft))] ((fun (x : List
    SV) => SV.str [] :: x) [])) ((0 : Nat) + (j - l.length)))).length) ∧ sm (W (n + (1 : Int))) ∧ True ∧ True ∧ True ∧ True ∧ True ∧ True ∧ True ∧ True ∧ True ∧ True
    ∧ True ∧ True ∧ True ∧ True ∧ True ∧ True ∧ True ∧ True ∧ True ∧ True ∧ True ∧ True ∧ True ∧ True ∧ True ∧ True) ∧ ((if false = true then [] else List.map Seg.shape
    [Seg.a (16 : Nat) (1 : Nat) fun j => [SV.int IntKind.u64 (f.low.getD j (0 : Int))], Seg.a (16 : Nat) (1 : Nat) fun j => [SV.int IntKind.u64 (f.high.getD j (0 : Int))]])
    = if false = true then [] else List.map Seg.shape [Seg.a (16 : Nat) (1 : Nat) fun j => [SV.int IntKind.u64 (f.low.getD j (0 : Int))], Seg.a (16 : Nat) (1 : Nat)
    fun j => [SV.int IntKind.u64 (f.high.getD j (0 : Int))]]) ∧ ((sm ((16 : Nat)) ∧ sm ((1 : Nat)) ∧ ∀ (i : Nat), i < (16 : Nat) → sm (f.low.getD i (0 : Int)) ∧ True)
    ∧ (sm ((16 : Nat)) ∧ sm ((1 : Nat)) ∧ ∀ (i : Nat), i < (16 : Nat) → sm (f.high.getD i (0 : Int)) ∧ True) ∧ True) ∧ Eq (α := List (Option (Nat × Nat))) [] [] ∧ ((l.length
    + (1 : Nat) = (rowL codS (l.length + (1 : Nat)) fun j => mergeL (decide (j < l.length)) (codS.enc (l.getD j codS.dft)) ((if (1 : Nat) = (1 : Nat) then fun x => [SV.str
    (bytesOf l_1.length fun i => (codI IntKind.u8).enc (l_1.getD ((0 : Nat) + i) (codI IntKind.u8).dft))] else fun i' => mergeL (decide (i' = (0 : Nat))) [SV.str (bytesOf
    l_1.length fun i => (codI IntKind.u8).enc (l_1.getD ((0 : Nat) + i) (codI IntKind.u8).dft))] ((fun (x : List SV) => SV.str [] :: x) [])) ((0 : Nat) + (j - l.length)))).length
    ∧ (1 : Nat) = codS.n ∧ ∀ (i : Nat), i < l.length + (1 : Nat) → (if decide (i < l.length) = true then l.getD i codS.dft else bytesOf l_1.length fun i => (codI IntKind.u8).enc
    (l_1.getD ((0 : Nat) + i) (codI IntKind.u8).dft)) = (rowL codS (l.length + (1 : Nat)) fun j => mergeL (decide (j < l.length)) (codS.enc (l.getD j codS.dft)) ((if
    (1 : Nat) = (1 : Nat) then fun x => [SV.str (bytesOf l_1.length fun i => (codI IntKind.u8).enc (l_1.getD ((0 : Nat) + i) (codI IntKind.u8).dft))] else fun i' =>
    mergeL (decide (i' = (0 : Nat))) [SV.str (bytesOf l_1.length fun i => (codI IntKind.u8).enc (l_1.getD ((0 : Nat) + i) (codI IntKind.u8).dft))] ((fun (x : List SV)
    => SV.str [] :: x) [])) ((0 : Nat) + (j - l.length)))).getD i codS.dft ∧ True) ∧ True) ∧ True)) ∧ (decide (n < (16 : Int)) = false → True ∧ ((0 : Nat) + l.length
    ≤ l.length ∧ ∀ (i : Nat), i < l.length → true = true) ∧ (l.length = (rowsS f).length ∧ ∀ (i : Nat), i < l.length → l.getD ((0 : Nat) + i) codS.dft = (rowsS f).getD
    i codS.dft ∧ True) ∧ True)) = vc26 f := by kernel_rfl
theorem vc16_eq (u : Unit) : (True ∧ (t16 ∧ t16 ∧ True) ∧ True ∧ True ∧ True ∧ True ∧ ((((∀ (i : Nat), i < (16 : Nat) → true = true ∧ True) ∧ ∀ (i : Nat), i < (16 : Nat) → true = true ∧ True)
    ∧ True ∧ True ∧ True ∧ True) ∧ okF { low := [(0 : Int), (0 : Int), (0 : Int), (0 : Int), (0 : Int), (0 : Int), (0 : Int), (0 : Int), (0 : Int), (0 : Int), (0 : Int), (0 : Int), (0 : Int), (0 : Int), (0 : Int), (0 : Int)], high := [(0 : Int), (0 : Int), (0 : Int), (0 : Int), (0 : Int), (0 : Int), (0 : Int), (0 : Int), (0 : Int), (0 : Int), (0 : Int), (0 : Int), (0 : Int), (0 : Int), (0 : Int), (0 : Int)] : Fr })
    ∧ t16 ∧ t16 ∧ True ∧ True ∧ (True ∧ True) ∧ True ∧ (t16 ∧ t16 ∧ True) ∧ (t16 ∧ t16 ∧ True) ∧ True ∧ True ∧ ((True ∧ ((∀ (i : Nat), i < (16 : Nat) → true = true ∧
    True) ∧ ∀ (i : Nat), i < (16 : Nat) → true = true ∧ True) ∧ ((∀ (i : Nat), i < (16 : Nat) → true = true ∧ True) ∧ ∀ (i : Nat), i < (16 : Nat) → true = true ∧ True)
    ∧ True ∧ True) ∧ okF { low := [(0 : Int), (0 : Int), (0 : Int), (0 : Int), (0 : Int), (0 : Int), (0 : Int), (0 : Int), (0 : Int), (0 : Int), (0 : Int), (0 : Int), (0 : Int), (0 : Int), (0 : Int), (0 : Int)], high := [(0 : Int), (0 : Int), (0 : Int), (0 : Int), (0 : Int), (0 : Int), (0 : Int), (0 : Int), (0 : Int), (0 : Int), (0 : Int), (0 : Int), (0 : Int), (0 : Int), (0 : Int), (0 : Int)] : Fr }
    ∧ okF { low := [(0 : Int), (0 : Int), (0 : Int), (0 : Int), (0 : Int), (0 : Int), (0 : Int), (0 : Int), (0 : Int), (0 : Int), (0 : Int), (0 : Int), (0 : Int), (0 : Int), (0 : Int), (0 : Int)], high := [(18446744073709551615 : Int), (18446744073709551615 : Int), (18446744073709551615 : Int), (18446744073709551615 : Int), (18446744073709551615 : Int), (18446744073709551615 : Int), (18446744073709551615 : Int), (18446744073709551615 : Int), (18446744073709551615 : Int), (18446744073709551615 : Int), (18446744073709551615 : Int), (18446744073709551615 : Int), (18446744073709551615 : Int), (18446744073709551615 : Int), (18446744073709551615 : Int), (18446744073709551615 : Int)] : Fr })
    ∧ t16 ∧ t16 ∧ True ∧ (t16 ∧ t16 ∧ True) ∧ (((∀ (i : Nat), i < (16 : Nat) → true = true ∧ True) ∧ ∀ (i : Nat), i < (16 : Nat) → true = true ∧ True) ∧ okF { low := [(14 : Int), (4 : Int), (4 : Int), (4 : Int), (4 : Int), (4 : Int), (14 : Int), (0 : Int), (0 : Int), (0 : Int), (0 : Int), (0 : Int), (0 : Int), (0 : Int), (0 : Int), (0 : Int)], high := [(14 : Int), (4 : Int), (4 : Int), (4 : Int), (4 : Int), (4 : Int), (14 : Int), (0 : Int), (0 : Int), (0 : Int), (0 : Int), (0 : Int), (0 : Int), (0 : Int), (0 : Int), (0 : Int)] : Fr })
    ∧ True ∧ (t16 ∧ t16 ∧ True) ∧ (((∀ (i : Nat), i < (16 : Nat) → true = true ∧ True) ∧ ∀ (i : Nat), i < (16 : Nat) → true = true ∧ True) ∧ okF { low := [(14 : Int), (4 : Int), (4 : Int), (4 : Int), (4 : Int), (4 : Int), (14 : Int), (0 : Int), (0 : Int), (0 : Int), (0 : Int), (0 : Int), (0 : Int), (0 : Int), (0 : Int), (0 : Int)], high := [(14 : Int), (4 : Int), (4 : Int), (4 : Int), (4 : Int), (4 : Int), (14 : Int), (0 : Int), (0 : Int), (0 : Int), (0 : Int), (0 : Int), (0 : Int), (0 : Int), (0 : Int), (0 : Int)] : Fr })
    ∧ (((∀ (i : Nat), i < (4 : Nat) → true = true) ∧ True) ∧ (∀ (i : Nat), i < (4 : Nat) → true = true) ∧ True) ∧ (true = true → (((0 : Int) == (0 : Int)) = true → (t16
    ∧ t16 ∧ True) ∧ True ∧ True ∧ ((((∀ (i : Nat), i < (16 : Nat) → true = true ∧ True) ∧ ∀ (i : Nat), i < (16 : Nat) → true = true ∧ True) ∧ True ∧ True) ∧ okF { low := [(0 : Int), (0 : Int), (0 : Int), (0 : Int), (0 : Int), (0 : Int), (0 : Int), (0 : Int), (0 : Int), (0 : Int), (0 : Int), (0 : Int), (0 : Int), (0 : Int), (0 : Int), (0 : Int)], high := [(4294967295 : Int), (4294967295 : Int), (4294967295 : Int), (4294967295 : Int), (4294967295 : Int), (4294967295 : Int), (4294967295 : Int), (4294967295 : Int), (4294967295 : Int), (4294967295 : Int), (4294967295 : Int), (4294967295 : Int), (4294967295 : Int), (4294967295 : Int), (4294967295 : Int), (4294967295 : Int)] : Fr })
    ∧ (((2 : Int) == (2 : Int)) = true → (t16 ∧ t16 ∧ True) ∧ True ∧ True ∧ ((((∀ (i : Nat), i < (16 : Nat) → true = true ∧ True) ∧ ∀ (i : Nat), i < (16 : Nat) → true
    = true ∧ True) ∧ True ∧ True) ∧ okF { low := [(0 : Int), (0 : Int), (0 : Int), (0 : Int), (0 : Int), (0 : Int), (0 : Int), (0 : Int), (0 : Int), (0 : Int), (0 : Int), (0 : Int), (0 : Int), (0 : Int), (0 : Int), (0 : Int)], high := [(4294967295 : Int), (4294967295 : Int), (4294967295 : Int), (4294967295 : Int), (4294967295 : Int), (4294967295 : Int), (4294967295 : Int), (4294967295 : Int), (4294967295 : Int), (4294967295 : Int), (4294967295 : Int), (4294967295 : Int), (4294967295 : Int), (4294967295 : Int), (4294967295 : Int), (4294967295 : Int)] : Fr })
    ∧ (((0 : Int) == (0 : Int)) = true → True ∧ (True ∧ (2 : Nat) ≤ (1000000 : Nat)) ∧ (((11 : Int) == (11 : Int)) = true → (((16 : Int) == (16 : Int)) = true → ((0
    : Int) ≤ (0 : Int) ∧ (0 : Int) < (16 : Int)) ∧ (((64 : Int) == (64 : Int)) = true → ((0 : Int) ≤ (0 : Int) ∧ (0 : Int) < (16 : Int)) ∧ ((0 : Int) ≤ (0 : Int) ∧ (0
    : Int) ≤ (5 : Int) ∧ (5 : Int) ≤ (64 : Int)) ∧ True ∧ True ∧ (List.drop (0 : Nat) (List.take (5 : Nat) ((rowsS { low := [(14 : Int), (4 : Int), (4 : Int), (4 : Int), (4 : Int), (4 : Int), (14 : Int), (0 : Int), (0 : Int), (0 : Int), (0 : Int), (0 : Int), (0 : Int), (0 : Int), (0 : Int), (0 : Int)], high := [(14 : Int), (4 : Int), (4 : Int), (4 : Int), (4 : Int), (4 : Int), (14 : Int), (0 : Int), (0 : Int), (0 : Int), (0 : Int), (0 : Int), (0 : Int), (0 : Int), (0 : Int), (0 : Int)] : Fr }).getD
    (0 : Nat) codS.dft)) == #[(48 : UInt8), (51 : UInt8), (51 : UInt8), (51 : UInt8), (48 : UInt8)].toList) = true ∧ True) ∧ (((64 : Int) == (64 : Int)) = false → True
    ∧ True ∧ true = false ∧ True)) ∧ (((16 : Int) == (16 : Int)) = false → True ∧ True ∧ true = false ∧ True)) ∧ (((11 : Int) == (11 : Int)) = false → True ∧ True ∧
    true = false ∧ True)) ∧ (((0 : Int) == (0 : Int)) = false → True ∧ True ∧ true = false ∧ True)) ∧ (((2 : Int) == (2 : Int)) = false → True ∧ True ∧ true = false
    ∧ True)) ∧ (((0 : Int) == (0 : Int)) = false → True ∧ True ∧ true = false ∧ True)) ∧ (true = false → True ∧ True ∧ true = false ∧ True)) = vc16 u := by kernel_rfl
theorem z64_at (i : Nat) : z64.getD i 0 = 0 := by
  simp only [z64, List.getD_eq_getElem?_getD, List.getElem?_replicate]; split <;> rfl
theorem mapR_at {α : Type} {n i : Nat} {p : Nat → α} {d : α} (h : i < n) : ((List.range n).map p).getD i d = p i := by
  simp [List.getD_eq_getElem?_getD, h]
theorem mapR_set {α : Type} {n i : Nat} {p q : Nat → α} {v : α} (hi : i < n) (hv : q i = v) (h : ∀ j, j < n → j ≠ i → p j = q j) : ((List.range n).map p).set i v = (List.range n).map q := by
  refine List.ext_getElem (by simp) fun j h1 h2 => ?_
  simp only [List.length_set, List.length_map, List.length_range] at h1
  simp only [List.getElem_set, List.getElem_map, List.getElem_range]
  by_cases e : i = j
  · subst e; rw [if_pos rfl, hv]
  · rw [if_neg e, h j h1 (Ne.symm e)]
theorem mapR_push {α : Type} {n : Nat} {p : Nat → α} {v : α} (hv : p n = v) : (List.range n).map p ++ [v] = (List.range (n + 1)).map p := by
  rw [List.range_succ, List.map_append, List.map_singleton, hv]
theorem dgt_bd (f : Fr) (y x : Nat) : 48 ≤ dgt f y x ∧ dgt f y x ≤ 51 := by have := lv_bd f y x; simp only [dgt]; omega
theorem bytes_row {f : Fr} {y : Nat} {l : List Int} (h : ∀ j, j < 64 → l.getD j 0 = dgt f y j) : (bytesOf 64 fun i => [SV.int IntKind.u8 (l.getD i 0)]) = rowB f y := by
  simp only [bytesOf, rowB]
  refine List.map_congr_left fun j hj => ?_
  rw [h j (List.mem_range.1 hj)]; rfl
theorem dig_eq {f : Fr} {x y : Int} (x0 : 0 ≤ x) (x1 : x < 64) (y0 : 0 ≤ y) (y1 : y < 16) : IntKind.u8.wrap (48 + IntKind.u8.wrap (getS f x y)) = dgt f y.toNat x.toNat ∧ IntKind.u8.wrap (W (48 + getS f x y)) = dgt f y.toNat x.toNat := by
  rw [getS_in x0 x1 y0 y1]
  have := lv_bd f y.toNat x.toNat
  rw [wrap_u8 (n := lv f y.toNat x.toNat) (by omega) (by omega), wrap_u8 (by omega) (by omega), W_id (by omega) (by omega), wrap_u8 (by omega) (by omega)]
  simp only [dgt, and_self]
theorem set8 {l : List Int} {i : Nat} {v : Int} (h : l.length = 64) : rowL (codI IntKind.u8) 64 (fun i' => mergeL (decide (i' = i)) [SV.int IntKind.u8 v] [SV.int IntKind.u8 (l.getD i' 0)]) = l.set i v := setI h.symm
theorem setS16 {l : List (List UInt8)} {i : Nat} {v : List UInt8} (h : l.length = 16) : rowL codS 16 (fun i' => mergeL (decide (i' = i)) [SV.str v] [SV.str (l.getD i' [])]) = l.set i v := rowL_setE (C := codS) h.symm
theorem pushS {l : List (List UInt8)} {v : List UInt8} : rowL codS (l.length + 1) (fun j => mergeL (decide (j < l.length)) [SV.str (l.getD j [])] [SV.str v]) = l ++ [v] := rowL_pushE (C := codS)
theorem getD_setA {α : Type} {l : List α} {v d : α} {i j : Nat} (hj : j < l.length) : (l.set i v).getD j d = if j = i then v else l.getD j d := getD_set hj
theorem zeroS : (rowL codS 16 fun x => [SV.str []]) = List.replicate 16 [] := rowL_const (C := codS) rfl
theorem k25 : TabOK Try.prog T25 := fn_tabA k22 hm Try.func25 (by kernel_rfl) (by kernel_rfl) sF.ok (by kernel_rfl) (fun a => A25 a) fun f hp => by
  have h : vc25 f := by
    rw [← vc25_eq]
    obtain ⟨l1, l2⟩ := okF_len hp
    simp [-List.getD_eq_getElem?_getD, W_def, rr_eq l1, rr_eq l2, rr_def]
    rw [zeroS]
    refine ⟨⟨?_, fun i hi => ?_⟩, fun y l hI => ⟨fun h1 => ⟨⟨?_, fun i hi => (z64_at i).symm⟩, fun x m hQ => ⟨fun h2 => ?_, fun h2 => ?_⟩⟩, fun h1 => ?_⟩⟩
    · simp only [R25]
      refine ⟨by omega, by omega, ?_⟩
      refine List.ext_getElem (by simp) fun j h1 h2 => ?_
      rw [List.getElem_replicate, List.getElem_map, List.getElem_range, if_neg (by omega)]
    · simp only [List.getD_eq_getElem?_getD, List.getElem?_replicate]; split <;> rfl
    · simp only [R25] at hI
      simp only [Q25]
      refine ⟨hI.1, h1, by omega, by omega, ?_⟩
      show z64 = _
      rw [z64]
      refine List.ext_getElem (by simp) fun j h1 h2 => ?_
      rw [List.getElem_replicate, List.getElem_map, List.getElem_range, if_neg (by omega)]
    · simp only [Q25] at hQ ⊢
      obtain ⟨y0, y1, x0, x1, rfl⟩ := hQ
      have w1 : W (x + 1) = x + 1 := W_id (by omega) (by omega)
      rw [w1, set8 (by simp)]
      show okF f ∧ _
      have hd : IntKind.u8.wrap (48 + IntKind.u8.wrap (getS ⟨f.low, f.high⟩ x y)) = dgt f y.toNat x.toNat := (dig_eq (f := f) x0 h2 y0 y1).1
      rw [hd]
      have hs := mapR_set (n := 64) (i := x.toNat) (p := fun (j : Nat) => if (j : Int) < x then dgt f y.toNat j else 0) (q := fun (j : Nat) => if (j : Int) < x + 1 then dgt f y.toNat j else 0) (v := dgt f y.toNat x.toNat) (by omega) (by rw [if_pos (by omega)])
        (fun j hj hne => by
          by_cases e : (j : Int) < x
          · rw [if_pos e, if_pos (by omega)]
          · rw [if_neg e, if_neg (by omega)])
      refine ⟨hp, ⟨x0, h2⟩, h2, ⟨y0, y1, by omega, by omega, hs⟩, by omega, fun i hi => ?_⟩
      rw [getD_set (by simpa using hi)]
    · have hq : ∀ j, j < 64 → m.getD j 0 = dgt f y.toNat j := fun j hj => by
        simp only [Q25] at hQ
        obtain ⟨y0, y1, x0, x1, rfl⟩ := hQ
        rw [mapR_at hj, if_pos (by omega)]
      rw [bytes_row hq]
      simp only [R25] at hI ⊢
      obtain ⟨y0, y1, rfl⟩ := hI
      have w1 : W (y + 1) = y + 1 := W_id (by omega) (by omega)
      rw [w1, setS16 (by simp)]
      have hs := mapR_set (n := 16) (i := y.toNat) (p := fun (j : Nat) => if (j : Int) < y then rowB f j else []) (q := fun (j : Nat) => if (j : Int) < y + 1 then rowB f j else []) (v := rowB f y.toNat) (by omega) (by rw [if_pos (by omega)])
        (fun j hj hne => by
          by_cases e : (j : Int) < y
          · rw [if_pos e, if_pos (by omega)]
          · rw [if_neg e, if_neg (by omega)])
      refine ⟨fun _ _ => rfl, ⟨y0, h1⟩, h1, ⟨by omega, by omega, hs⟩, by omega, fun i hi => ?_⟩
      rw [getD_set (by simpa using hi)]
    · simp only [R25] at hI
      obtain ⟨y0, y1, rfl⟩ := hI
      refine ⟨by simp [rowsS], fun i hi => ?_⟩
      rw [mapR_at hi, if_pos (by omega)]
      simp only [rowsS]
      rw [mapR_at hi]
  exact h
theorem k26 : TabOK Try.prog T26 := fn_tabA k25 hm Try.func26 (by kernel_rfl) (by kernel_rfl) sF.ok (by kernel_rfl) (fun a => A26 a) fun f hp => by
  have h : vc26 f := by
    rw [← vc26_eq]
    obtain ⟨l1, l2⟩ := okF_len hp
    simp [-List.getD_eq_getElem?_getD, W_def, rr_eq l1, rr_eq l2, rr_def]
    refine ⟨?_, fun y l hI => ⟨fun h1 => ⟨?_, fun x m hQ => ⟨fun h2 => ?_, fun h2 => ?_⟩⟩, fun h1 => ?_⟩⟩
    · simp only [R26]
      exact ⟨by omega, by omega, rfl⟩
    · simp only [R26] at hI
      simp only [Q26]
      exact ⟨hI.1, h1, by omega, by omega, rfl⟩
    · simp only [Q26] at hQ ⊢
      obtain ⟨y0, y1, x0, x1, rfl⟩ := hQ
      have w1 : W (x + 1) = x + 1 := W_id (by omega) (by omega)
      have hd : IntKind.u8.wrap (W (48 + getS ⟨f.low, f.high⟩ x y)) = dgt f y.toNat x.toNat := (dig_eq (f := f) x0 h2 y0 y1).2
      rw [w1, hd, mapR_push rfl]
      have e : (x + 1).toNat = x.toNat + 1 := by omega
      refine ⟨hp, by simp; omega, ⟨y0, y1, by omega, by omega, by rw [e]⟩, by omega, fun i hi => ?_⟩
      simp only [List.length_map, List.length_range] at hi ⊢
      rw [mapR_at hi]
      by_cases h : i < x.toNat
      · rw [if_pos h, mapR_at h]
      · rw [if_neg h]; congr 1; omega
    · have hm : m.length = 64 := by
        simp only [Q26] at hQ
        obtain ⟨y0, y1, x0, x1, rfl⟩ := hQ
        simp; omega
      have hq : ∀ j, j < 64 → m.getD j 0 = dgt f y.toNat j := fun j hj => by
        simp only [Q26] at hQ
        obtain ⟨y0, y1, x0, x1, rfl⟩ := hQ
        rw [mapR_at (by omega)]
      rw [hm, bytes_row hq]
      simp only [R26] at hI ⊢
      obtain ⟨y0, y1, rfl⟩ := hI
      have w1 : W (y + 1) = y + 1 := W_id (by omega) (by omega)
      rw [w1, pushS, mapR_push rfl]
      have e : (y + 1).toNat = y.toNat + 1 := by omega
      refine ⟨fun _ _ => rfl, by simp; omega, ⟨by omega, by omega, by rw [e]⟩, by omega, fun i hi => ?_⟩
      simp only [List.length_map, List.length_range] at hi ⊢
      rw [mapR_at hi]
      by_cases h : i < y.toNat
      · rw [if_pos h, mapR_at h]
      · rw [if_neg h]; congr 1; omega
    · simp only [R26] at hI
      obtain ⟨y0, y1, rfl⟩ := hI
      have e : y.toNat = 16 := by omega
      rw [e]
      refine ⟨by simp [rowsS], fun i hi => ?_⟩
      simp only [rowsS]
  exact h
theorem okF_dec {f : Fr} (h : (f.low.length == 16 && f.high.length == 16 && (List.range 16).all (fun y => decide (0 ≤ f.low.getD y 0 ∧ f.low.getD y 0 < 18446744073709551616) && decide (0 ≤ f.high.getD y 0 ∧ f.high.getD y 0 < 18446744073709551616))) = true) : okF f := by
  simp only [Bool.and_eq_true, beq_iff_eq, List.all_eq_true, List.mem_range, decide_eq_true_eq] at h
  unfold okF
  exact ⟨h.1.1, h.1.2, fun y hy => (h.2 y hy).1, fun y hy => (h.2 y hy).2⟩
theorem k16 : TabOK Try.prog T16 := fn_tabA k26 hm Try.func16 (by kernel_rfl) (by kernel_rfl) Sig.nil.ok (by kernel_rfl) (fun _ => []) fun f hp => by
  have h : vc16 () := by
    rw [← vc16_eq]
    simp [-List.getD_eq_getElem?_getD, W_def, rr_def]
    refine ⟨okF_dec (by decide +kernel), ⟨okF_dec (by decide +kernel), okF_dec (by decide +kernel)⟩, okF_dec (by decide +kernel), okF_dec (by decide +kernel), by decide +kernel⟩
  exact h
end Go.Proofs.Do
