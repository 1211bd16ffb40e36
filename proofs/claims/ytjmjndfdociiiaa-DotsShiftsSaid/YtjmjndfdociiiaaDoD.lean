import Derived.Test.YtjmjndfdociiiaaDoC
namespace Go.Proofs.Do
set_option linter.unusedVariables false
set_option linter.unusedSimpArgs false
open Go Go.Sx Go.Proofs
set_option maxRecDepth 100000
-- SAME: sm
-- ABBR: (∀ (i : Nat), i < (16 : Nat) → true = true) ==> t16
-- ABBR: IntKind.i64.wrap ==> W
-- ROWS: rowL (codI IntKind.u64) (16 : Nat) fun j => [SV.int IntKind.u64 ( ==> .getD j (0 : Int) ==> rr
-- ABBR: [(0 : Int), (0 : Int), (0 : Int), (0 : Int), (0 : Int), (0 : Int), (0 : Int), (0 : Int), (0 : Int), (0 : Int), (0 : Int), (0 : Int), (0 : Int), (0 : Int), (0 : Int), (0 : Int)] ==> z16
def sUI := Sig.cons (argI .u64) (Sig.one (argI .i64))
def sUUU := Sig.cons (argI .u64) (Sig.cons (argI .u64) (Sig.one (argI .u64)))
def slideS (r dx : Int) : Int := ofB fun j => decide (0 ≤ (j : Int) - dx ∧ (j : Int) - dx < 64) && bit r ((j : Int) - dx).toNat
def mixS (a b s : Int) : Int := ofB fun j => if bit s j then bit b j else bit a j
def shiftL (f : Fr) (dx dy : Int) : Nat → Nat → Int := fun y x => getS f ((x : Int) - dx) ((y : Int) - dy)
def shiftS (f : Fr) (dx dy : Int) : Fr := mkL (shiftL f dx dy)
def overL (a b : Fr) : Nat → Nat → Int := fun y x => if 0 < lv b y x then lv b y x else lv a y x
def overS (a b : Fr) : Fr := mkL (overL a b)
attribute [irreducible] slideS mixS shiftL shiftS overL overS
def T47 : List (Nat × Ctr) := (47, ctr sUI.dec (fun a => isU a.1 ∧ -64 ≤ a.2 ∧ a.2 ≤ 64) (fun a => .int .u64 (slideS a.1 a.2))) :: T31
def vc47 (r dx : Int) : Prop := cva T31 Try.f47 [] [.int .u64 r, iS dx] (.int .u64 (slideS r dx))
def T42 : List (Nat × Ctr) := (42, ctr sUUU.dec (fun _ => True) (fun a => .int .u64 (mixS a.1 a.2.1 a.2.2))) :: T47
def vc42 (a b s : Int) : Prop := cva T47 Try.f42 [] [.int .u64 a, .int .u64 b, .int .u64 s] (.int .u64 (mixS a b s))
def cShift : Ctr := ctr sFII.dec (fun a => okF a.1) (fun a => encF (shiftS a.1 a.2.1 a.2.2))
def T34 : List (Nat × Ctr) := (34, cShift) :: T42
def vc34 (f : Fr) (dx dy : Int) : Prop := cva T42 Try.f34 (A1 14 2 zeroF (shiftL f dx dy)) [encF f, iS dx, iS dy] (encF (shiftS f dx dy))
def T35 : List (Nat × Ctr) := (35, cShift) :: T34
def vc35 (f : Fr) (dx dy : Int) : Prop := cva T34 Try.f35 (A2 8 9 2 (lv zeroF) (shiftL f dx dy)) [encF f, iS dx, iS dy] (encF (shiftS f dx dy))
def cOver : Ctr := ctr sFF.dec (fun a => okF a.1 ∧ okF a.2) (fun a => encF (overS a.1 a.2))
def T33 : List (Nat × Ctr) := (33, cOver) :: T35
def vc33 (a b : Fr) : Prop := cva T35 Try.f33 (A1 7 0 a (overL a b)) [encF a, encF b] (encF (overS a b))
def T36 : List (Nat × Ctr) := (36, cOver) :: T33
def vc36 (a b : Fr) : Prop := cva T33 Try.f36 (A2 5 6 0 (lv a) (overL a b)) [encF a, encF b] (encF (overS a b))
theorem vc47_eq (r dx : Int) : (True ∧ True ∧ (decide (dx ≥ (0 : Int)) = true → (0 : Int) ≤ dx ∧ True ∧ True ∧ IntKind.u64.wrap (r * (2 : Int) ^ min dx.toNat (64 : Nat)) = slideS r dx ∧ True) ∧
    (decide (dx ≥ (0 : Int)) = false → (0 : Int) ≤ W ((0 : Int) - dx) ∧ True ∧ True ∧ r / (2 : Int) ^ min (W ((0 : Int) - dx)).toNat (64 : Nat) = slideS r dx ∧ True)) = vc47 r dx := by kernel_rfl
theorem vc42_eq (a b s : Int) : (True ∧ True ∧ True ∧ bits BinOp.or IntKind.u64 (bits BinOp.andNot IntKind.u64 a s) (bits BinOp.and IntKind.u64 b s) = mixS a b s ∧ True) = vc42 a b s := by kernel_rfl
theorem vc34_eq (f : Fr) (dx dy : Int) : (True ∧ True ∧ True ∧ True ∧ ((True ∧ True ∧ True) ∧ True) ∧ True ∧ True ∧ True ∧ ((True ∧ True ∧ True) ∧ True) ∧ True ∧ True ∧ True ∧ (RowI zeroF (shiftL f dx dy)
    (0 : Int) z16 z16 ∧ (((sm ((16 : Nat)) ∧ sm ((1 : Nat)) ∧ ∀ (i : Nat), i < (16 : Nat) → sm (f.low.getD i (0 : Int)) ∧ True) ∧ (sm ((16 : Nat)) ∧ sm ((1 : Nat)) ∧
    ∀ (i : Nat), i < (16 : Nat) → sm (f.high.getD i (0 : Int)) ∧ True) ∧ True) ∧ sm (clp dx (-64 : Int) (64 : Int)) ∧ sm (clp dy (-16 : Int) (16 : Int)) ∧ True ∧ True
    ∧ True ∧ True ∧ True ∧ True ∧ True ∧ dx = dx ∧ sm (clp dx (-64 : Int) (64 : Int)) ∧ dy = dy ∧ sm (clp dy (-16 : Int) (16 : Int)) ∧ sm ((0 : Int)) ∧ True ∧ True ∧
    True ∧ True ∧ True ∧ True ∧ True ∧ True ∧ True ∧ True ∧ True ∧ True ∧ True ∧ True ∧ True ∧ True ∧ True ∧ True ∧ True ∧ True ∧ True ∧ True ∧ True ∧ True ∧ True ∧
    True ∧ True ∧ True) ∧ ((if false = true then [] else List.map Seg.shape [Seg.a (16 : Nat) (1 : Nat) fun j => [SV.int IntKind.u64 (f.low.getD j (0 : Int))], Seg.a
    (16 : Nat) (1 : Nat) fun j => [SV.int IntKind.u64 (f.high.getD j (0 : Int))]]) = if false = true then [] else List.map Seg.shape [Seg.a (16 : Nat) (1 : Nat) fun
    j => [SV.int IntKind.u64 (f.low.getD j (0 : Int))], Seg.a (16 : Nat) (1 : Nat) fun j => [SV.int IntKind.u64 (f.high.getD j (0 : Int))]]) ∧ ((sm ((16 : Nat)) ∧ sm
    ((1 : Nat)) ∧ ∀ (i : Nat), i < (16 : Nat) → sm (f.low.getD i (0 : Int)) ∧ True) ∧ (sm ((16 : Nat)) ∧ sm ((1 : Nat)) ∧ ∀ (i : Nat), i < (16 : Nat) → sm (f.high.getD
    i (0 : Int)) ∧ True) ∧ True) ∧ ((if false = true then [] else List.map Seg.shape ([Seg.a (16 : Nat) (1 : Nat) fun x => [SV.int IntKind.u64 (0 : Int)]] ++ ([Seg.a
    (16 : Nat) (1 : Nat) fun x => [SV.int IntKind.u64 (0 : Int)]] ++ []))) = if false = true then [] else List.map Seg.shape ([Seg.a (16 : Nat) (1 : Nat) fun x => [SV.int
    IntKind.u64 (0 : Int)]] ++ ([Seg.a (16 : Nat) (1 : Nat) fun x => [SV.int IntKind.u64 (0 : Int)]] ++ []))) ∧ ((sm ((16 : Nat)) ∧ sm ((1 : Nat)) ∧ ∀ (i : Nat), i <
    (16 : Nat) → sm ((0 : Int)) ∧ True) ∧ (sm ((16 : Nat)) ∧ sm ((1 : Nat)) ∧ ∀ (i : Nat), i < (16 : Nat) → sm ((0 : Int)) ∧ True) ∧ True) ∧ ((if false = true then []
    else List.map Seg.shape ([Seg.a (16 : Nat) (1 : Nat) fun x => [SV.int IntKind.u64 (0 : Int)]] ++ ([Seg.a (16 : Nat) (1 : Nat) fun x => [SV.int IntKind.u64 (0 : Int)]]
    ++ []))) = if false = true then [] else List.map Seg.shape ([Seg.a (16 : Nat) (1 : Nat) fun x => [SV.int IntKind.u64 (0 : Int)]] ++ ([Seg.a (16 : Nat) (1 : Nat)
    fun x => [SV.int IntKind.u64 (0 : Int)]] ++ []))) ∧ ((sm ((16 : Nat)) ∧ (1 : Nat) = (codI IntKind.u64).n ∧ ∀ (i : Nat), i < (16 : Nat) → (0 : Int) = z16.getD i (codI
    IntKind.u64).dft ∧ True) ∧ (sm ((16 : Nat)) ∧ (1 : Nat) = (codI IntKind.u64).n ∧ ∀ (i : Nat), i < (16 : Nat) → (0 : Int) = z16.getD i (codI IntKind.u64).dft ∧ True)
    ∧ True) ∧ True) ∧ ∀ (n : Int) (l l_1 : List Int), RowI zeroF (shiftL f dx dy) n l l_1 → True ∧ (decide (n < (16 : Int)) = true → True ∧ True ∧ True ∧ True ∧ ((True
    ∧ True) ∧ True) ∧ True ∧ (isD (0 : Int) (W (n - clp dy (-16 : Int) (16 : Int))) = true → ((0 : Int) ≤ W (n - clp dy (-16 : Int) (16 : Int)) ∧ W (n - clp dy (-16
    : Int) (16 : Int)) < (16 : Int)) ∧ (W (n - clp dy (-16 : Int) (16 : Int))).toNat < (16 : Nat) ∧ True ∧ True ∧ ((True ∧ True) ∧ ((0 : Int) ≤ f.low.getD (W (n - clp
    dy (-16 : Int) (16 : Int))).toNat (0 : Int) ∧ f.low.getD (W (n - clp dy (-16 : Int) (16 : Int))).toNat (0 : Int) < (18446744073709551616 : Int)) ∧ (-64 : Int) ≤
    clp dx (-64 : Int) (64 : Int) ∧ clp dx (-64 : Int) (64 : Int) ≤ (64 : Int)) ∧ ((0 : Int) ≤ W (n - clp dy (-16 : Int) (16 : Int)) ∧ W (n - clp dy (-16 : Int) (16
    : Int)) < (16 : Int)) ∧ (W (n - clp dy (-16 : Int) (16 : Int))).toNat < (16 : Nat) ∧ True ∧ True ∧ ((True ∧ True) ∧ ((0 : Int) ≤ f.high.getD (W (n - clp dy (-16
    : Int) (16 : Int))).toNat (0 : Int) ∧ f.high.getD (W (n - clp dy (-16 : Int) (16 : Int))).toNat (0 : Int) < (18446744073709551616 : Int)) ∧ (-64 : Int) ≤ clp dx
    (-64 : Int) (64 : Int) ∧ clp dx (-64 : Int) (64 : Int) ≤ (64 : Int)) ∧ ((0 : Int) ≤ n ∧ n < (16 : Int)) ∧ n.toNat < (16 : Nat) ∧ ((0 : Int) ≤ n ∧ n < (16 : Int))
    ∧ n.toNat < (16 : Nat) ∧ IsT true ∧ True ∧ RowI zeroF (shiftL f dx dy) (W (n + (1 : Int))) (rowL (codI IntKind.u64) (16 : Nat) fun i' => mergeL (decide (i' = n.toNat))
    (setL ((codI IntKind.u64).enc (l.getD n.toNat (codI IntKind.u64).dft)) (0 : Nat) [SV.int IntKind.u64 (slideS (f.low.getD (W (n - clp dy (-16 : Int) (16 : Int))).toNat
    (0 : Int)) (clp dx (-64 : Int) (64 : Int)))]) ((codI IntKind.u64).enc (l.getD i' (codI IntKind.u64).dft))) (rowL (codI IntKind.u64) (16 : Nat) fun i' => mergeL (decide
    (i' = n.toNat)) (setL ((codI IntKind.u64).enc (l_1.getD n.toNat (codI IntKind.u64).dft)) (0 : Nat) [SV.int IntKind.u64 (slideS (f.high.getD (W (n - clp dy (-16 :
    Int) (16 : Int))).toNat (0 : Int)) (clp dx (-64 : Int) (64 : Int)))]) ((codI IntKind.u64).enc (l_1.getD i' (codI IntKind.u64).dft))) ∧ ((16 : Int) - W (n + (1 :
    Int))).toNat < ((16 : Int) - n).toNat ∧ (((sm ((16 : Nat)) ∧ sm ((1 : Nat)) ∧ ∀ (i : Nat), i < (16 : Nat) → sm (f.low.getD i (0 : Int)) ∧ True) ∧ (sm ((16 : Nat))
    ∧ sm ((1 : Nat)) ∧ ∀ (i : Nat), i < (16 : Nat) → sm (f.high.getD i (0 : Int)) ∧ True) ∧ True) ∧ sm (clp dx (-64 : Int) (64 : Int)) ∧ sm (clp dy (-16 : Int) (16 :
    Int)) ∧ True ∧ True ∧ True ∧ True ∧ True ∧ True ∧ True ∧ dx = dx ∧ sm (clp dx (-64 : Int) (64 : Int)) ∧ dy = dy ∧ sm (clp dy (-16 : Int) (16 : Int)) ∧ sm (W (n +
    (1 : Int))) ∧ True ∧ True ∧ True ∧ True ∧ True ∧ True ∧ True ∧ True ∧ True ∧ True ∧ True ∧ True ∧ True ∧ True ∧ True ∧ True ∧ True ∧ True ∧ True ∧ True ∧ True ∧
    True ∧ True ∧ True ∧ True ∧ True ∧ True ∧ True) ∧ ((if false = true then [] else List.map Seg.shape [Seg.a (16 : Nat) (1 : Nat) fun j => [SV.int IntKind.u64 (f.low.getD
    j (0 : Int))], Seg.a (16 : Nat) (1 : Nat) fun j => [SV.int IntKind.u64 (f.high.getD j (0 : Int))]]) = if false = true then [] else List.map Seg.shape [Seg.a (16
    : Nat) (1 : Nat) fun j => [SV.int IntKind.u64 (f.low.getD j (0 : Int))], Seg.a (16 : Nat) (1 : Nat) fun j => [SV.int IntKind.u64 (f.high.getD j (0 : Int))]]) ∧ ((sm
    ((16 : Nat)) ∧ sm ((1 : Nat)) ∧ ∀ (i : Nat), i < (16 : Nat) → sm (f.low.getD i (0 : Int)) ∧ True) ∧ (sm ((16 : Nat)) ∧ sm ((1 : Nat)) ∧ ∀ (i : Nat), i < (16 : Nat)
    → sm (f.high.getD i (0 : Int)) ∧ True) ∧ True) ∧ ((if false = true then [] else List.map Seg.shape ([Seg.a (16 : Nat) (1 : Nat) fun x => [SV.int IntKind.u64 (0 :
    Int)]] ++ ([Seg.a (16 : Nat) (1 : Nat) fun x => [SV.int IntKind.u64 (0 : Int)]] ++ []))) = if false = true then [] else List.map Seg.shape ([Seg.a (16 : Nat) (1
    : Nat) fun x => [SV.int IntKind.u64 (0 : Int)]] ++ ([Seg.a (16 : Nat) (1 : Nat) fun x => [SV.int IntKind.u64 (0 : Int)]] ++ []))) ∧ ((sm ((16 : Nat)) ∧ sm ((1 :
    Nat)) ∧ ∀ (i : Nat), i < (16 : Nat) → sm ((0 : Int)) ∧ True) ∧ (sm ((16 : Nat)) ∧ sm ((1 : Nat)) ∧ ∀ (i : Nat), i < (16 : Nat) → sm ((0 : Int)) ∧ True) ∧ True) ∧
    ((if false = true then [] else List.map Seg.shape ([Seg.a (16 : Nat) (1 : Nat) fun x => [SV.int IntKind.u64 (0 : Int)]] ++ ([Seg.a (16 : Nat) (1 : Nat) fun x =>
    [SV.int IntKind.u64 (0 : Int)]] ++ []))) = if false = true then [] else List.map Seg.shape ([Seg.a (16 : Nat) (1 : Nat) fun x => [SV.int IntKind.u64 (0 : Int)]]
    ++ ([Seg.a (16 : Nat) (1 : Nat) fun x => [SV.int IntKind.u64 (0 : Int)]] ++ []))) ∧ ((sm ((16 : Nat)) ∧ (0 : Nat) + (1 : Nat) = (codI IntKind.u64).n ∧ ∀ (i : Nat),
    i < (16 : Nat) → (if decide (i = n.toNat) = true then slideS (f.low.getD (W (n - clp dy (-16 : Int) (16 : Int))).toNat (0 : Int)) (clp dx (-64 : Int) (64 : Int))
    else l.getD i (codI IntKind.u64).dft) = (rowL (codI IntKind.u64) (16 : Nat) fun i' => mergeL (decide (i' = n.toNat)) (setL ((codI IntKind.u64).enc (l.getD n.toNat
    (codI IntKind.u64).dft)) (0 : Nat) [SV.int IntKind.u64 (slideS (f.low.getD (W (n - clp dy (-16 : Int) (16 : Int))).toNat (0 : Int)) (clp dx (-64 : Int) (64 : Int)))])
    ((codI IntKind.u64).enc (l.getD i' (codI IntKind.u64).dft))).getD i (codI IntKind.u64).dft ∧ True) ∧ (sm ((16 : Nat)) ∧ (0 : Nat) + (1 : Nat) = (codI IntKind.u64).n
    ∧ ∀ (i : Nat), i < (16 : Nat) → (if decide (i = n.toNat) = true then slideS (f.high.getD (W (n - clp dy (-16 : Int) (16 : Int))).toNat (0 : Int)) (clp dx (-64 :
    Int) (64 : Int)) else l_1.getD i (codI IntKind.u64).dft) = (rowL (codI IntKind.u64) (16 : Nat) fun i' => mergeL (decide (i' = n.toNat)) (setL ((codI IntKind.u64).enc
    (l_1.getD n.toNat (codI IntKind.u64).dft)) (0 : Nat) [SV.int IntKind.u64 (slideS (f.high.getD (W (n - clp dy (-16 : Int) (16 : Int))).toNat (0 : Int)) (clp dx (-64
    : Int) (64 : Int)))]) ((codI IntKind.u64).enc (l_1.getD i' (codI IntKind.u64).dft))).getD i (codI IntKind.u64).dft ∧ True) ∧ True) ∧ True) ∧ (isD (0 : Int) (W (n
    - clp dy (-16 : Int) (16 : Int))) = false → True ∧ RowI zeroF (shiftL f dx dy) (W (n + (1 : Int))) (rowL (codI IntKind.u64) (16 : Nat) fun j => (codI IntKind.u64).enc
    (l.getD j (codI IntKind.u64).dft)) (rowL (codI IntKind.u64) (16 : Nat) fun j => (codI IntKind.u64).enc (l_1.getD j (codI IntKind.u64).dft)) ∧ ((16 : Int) - W (n
    + (1 : Int))).toNat < ((16 : Int) - n).toNat ∧ (((sm ((16 : Nat)) ∧ sm ((1 : Nat)) ∧ ∀ (i : Nat), i < (16 : Nat) → sm (f.low.getD i (0 : Int)) ∧ True) ∧ (sm ((16
    : Nat)) ∧ sm ((1 : Nat)) ∧ ∀ (i : Nat), i < (16 : Nat) → sm (f.high.getD i (0 : Int)) ∧ True) ∧ True) ∧ sm (clp dx (-64 : Int) (64 : Int)) ∧ sm (clp dy (-16 : Int)
    (16 : Int)) ∧ True ∧ True ∧ True ∧ True ∧ True ∧ True ∧ True ∧ dx = dx ∧ sm (clp dx (-64 : Int) (64 : Int)) ∧ dy = dy ∧ sm (clp dy (-16 : Int) (16 : Int)) ∧ sm (W
    (n + (1 : Int))) ∧ True ∧ True ∧ True ∧ True ∧ True ∧ True ∧ True ∧ True ∧ True ∧ True ∧ True ∧ True ∧ True ∧ True ∧ True ∧ True ∧ True ∧ True ∧ True ∧ True ∧ True
    ∧ True ∧ True ∧ True ∧ True ∧ True ∧ True ∧ True) ∧ ((if false = true then [] else List.map Seg.shape [Seg.a (16 : Nat) (1 : Nat) fun j => [SV.int IntKind.u64 (f.low.getD
    j (0 : Int))], Seg.a (16 : Nat) (1 : Nat) fun j => [SV.int IntKind.u64 (f.high.getD j (0 : Int))]]) = if false = true then [] else List.map Seg.shape [Seg.a (16
    : Nat) (1 : Nat) fun j => [SV.int IntKind.u64 (f.low.getD j (0 : Int))], Seg.a (16 : Nat) (1 : Nat) fun j => [SV.int IntKind.u64 (f.high.getD j (0 : Int))]]) ∧ ((sm
    ((16 : Nat)) ∧ sm ((1 : Nat)) ∧ ∀ (i : Nat), i < (16 : Nat) → sm (f.low.getD i (0 : Int)) ∧ True) ∧ (sm ((16 : Nat)) ∧ sm ((1 : Nat)) ∧ ∀ (i : Nat), i < (16 : Nat)
    → sm (f.high.getD i (0 : Int)) ∧ True) ∧ True) ∧ ((if false = true then [] else List.map Seg.shape ([Seg.a (16 : Nat) (1 : Nat) fun x => [SV.int IntKind.u64 (0 :
    Int)]] ++ ([Seg.a (16 : Nat) (1 : Nat) fun x => [SV.int IntKind.u64 (0 : Int)]] ++ []))) = if false = true then [] else List.map Seg.shape ([Seg.a (16 : Nat) (1
    : Nat) fun x => [SV.int IntKind.u64 (0 : Int)]] ++ ([Seg.a (16 : Nat) (1 : Nat) fun x => [SV.int IntKind.u64 (0 : Int)]] ++ []))) ∧ ((sm ((16 : Nat)) ∧ sm ((1 :
    Nat)) ∧ ∀ (i : Nat), i < (16 : Nat) → sm ((0 : Int)) ∧ True) ∧ (sm ((16 : Nat)) ∧ sm ((1 : Nat)) ∧ ∀ (i : Nat), i < (16 : Nat) → sm ((0 : Int)) ∧ True) ∧ True) ∧
    ((if false = true then [] else List.map Seg.shape ([Seg.a (16 : Nat) (1 : Nat) fun x => [SV.int IntKind.u64 (0 : Int)]] ++ ([Seg.a (16 : Nat) (1 : Nat) fun x =>
    [SV.int IntKind.u64 (0 : Int)]] ++ []))) = if false = true then [] else List.map Seg.shape ([Seg.a (16 : Nat) (1 : Nat) fun x => [SV.int IntKind.u64 (0 : Int)]]
    ++ ([Seg.a (16 : Nat) (1 : Nat) fun x => [SV.int IntKind.u64 (0 : Int)]] ++ []))) ∧ ((sm ((16 : Nat)) ∧ sm ((codI IntKind.u64).n) ∧ ∀ (i : Nat), i < (16 : Nat) →
    l.getD i (codI IntKind.u64).dft = (rowL (codI IntKind.u64) (16 : Nat) fun j => (codI IntKind.u64).enc (l.getD j (codI IntKind.u64).dft)).getD i (codI IntKind.u64).dft
    ∧ True) ∧ (sm ((16 : Nat)) ∧ sm ((codI IntKind.u64).n) ∧ ∀ (i : Nat), i < (16 : Nat) → l_1.getD i (codI IntKind.u64).dft = (rowL (codI IntKind.u64) (16 : Nat) fun
    j => (codI IntKind.u64).enc (l_1.getD j (codI IntKind.u64).dft)).getD i (codI IntKind.u64).dft ∧ True) ∧ True) ∧ True)) ∧ (decide (n < (16 : Int)) = false → t16
    ∧ t16 ∧ True ∧ (t16 ∧ t16 ∧ True) ∧ ((sm ((16 : Nat)) ∧ (0 : Nat) + (1 : Nat) = (1 : Nat) ∧ ∀ (i : Nat), i < (16 : Nat) → l.getD i (codI IntKind.u64).dft = (shiftS
    f dx dy).low.getD i (0 : Int) ∧ True) ∧ (sm ((16 : Nat)) ∧ (0 : Nat) + (1 : Nat) = (1 : Nat) ∧ ∀ (i : Nat), i < (16 : Nat) → l_1.getD i (codI IntKind.u64).dft =
    (shiftS f dx dy).high.getD i (0 : Int) ∧ True) ∧ True) ∧ True)) = vc34 f dx dy := by kernel_rfl
theorem vc35_eq (f : Fr) (dx dy : Int) : (True ∧ True ∧ (decide (dx ≤ (-64 : Int)) = true → True ∧ t16 ∧ t16 ∧ True ∧ (t16 ∧ t16 ∧ True) ∧ ((sm ((16 : Nat)) ∧ (0 : Nat) + (1 : Nat) = (1 : Nat) ∧ ∀ (i : Nat),
    i < (16 : Nat) → (0 : Int) = (shiftS f dx dy).low.getD i (0 : Int) ∧ True) ∧ (sm ((16 : Nat)) ∧ (0 : Nat) + (1 : Nat) = (1 : Nat) ∧ ∀ (i : Nat), i < (16 : Nat) →
    (0 : Int) = (shiftS f dx dy).high.getD i (0 : Int) ∧ True) ∧ True) ∧ True) ∧ (decide (dx ≤ (-64 : Int)) = false → (decide (dx ≥ (64 : Int)) = true → True ∧ t16 ∧
    t16 ∧ True ∧ (t16 ∧ t16 ∧ True) ∧ ((sm ((16 : Nat)) ∧ (0 : Nat) + (1 : Nat) = (1 : Nat) ∧ ∀ (i : Nat), i < (16 : Nat) → (0 : Int) = (shiftS f dx dy).low.getD i (0
    : Int) ∧ True) ∧ (sm ((16 : Nat)) ∧ (0 : Nat) + (1 : Nat) = (1 : Nat) ∧ ∀ (i : Nat), i < (16 : Nat) → (0 : Int) = (shiftS f dx dy).high.getD i (0 : Int) ∧ True)
    ∧ True) ∧ True) ∧ (decide (dx ≥ (64 : Int)) = false → (decide (dy ≤ (-16 : Int)) = true → True ∧ t16 ∧ t16 ∧ True ∧ (t16 ∧ t16 ∧ True) ∧ ((sm ((16 : Nat)) ∧ (0 :
    Nat) + (1 : Nat) = (1 : Nat) ∧ ∀ (i : Nat), i < (16 : Nat) → (0 : Int) = (shiftS f dx dy).low.getD i (0 : Int) ∧ True) ∧ (sm ((16 : Nat)) ∧ (0 : Nat) + (1 : Nat)
    = (1 : Nat) ∧ ∀ (i : Nat), i < (16 : Nat) → (0 : Int) = (shiftS f dx dy).high.getD i (0 : Int) ∧ True) ∧ True) ∧ True) ∧ (decide (dy ≤ (-16 : Int)) = false → True
    ∧ (decide (dy ≥ (16 : Int)) = true → t16 ∧ t16 ∧ True ∧ (t16 ∧ t16 ∧ True) ∧ ((sm ((16 : Nat)) ∧ (0 : Nat) + (1 : Nat) = (1 : Nat) ∧ ∀ (i : Nat), i < (16 : Nat)
    → (0 : Int) = (shiftS f dx dy).low.getD i (0 : Int) ∧ True) ∧ (sm ((16 : Nat)) ∧ (0 : Nat) + (1 : Nat) = (1 : Nat) ∧ ∀ (i : Nat), i < (16 : Nat) → (0 : Int) = (shiftS
    f dx dy).high.getD i (0 : Int) ∧ True) ∧ True) ∧ True) ∧ (decide (dy ≥ (16 : Int)) = false → True ∧ (DotI (lv zeroF) (shiftL f dx dy) (0 : Int) (0 : Int) z16 z16
    ∧ (((sm ((16 : Nat)) ∧ sm ((1 : Nat)) ∧ ∀ (i : Nat), i < (16 : Nat) → sm (f.low.getD i (0 : Int)) ∧ True) ∧ (sm ((16 : Nat)) ∧ sm ((1 : Nat)) ∧ ∀ (i : Nat), i <
    (16 : Nat) → sm (f.high.getD i (0 : Int)) ∧ True) ∧ True) ∧ dx = dx ∧ dy = dy ∧ True ∧ True ∧ True ∧ True ∧ True ∧ sm ((0 : Int)) ∧ True ∧ dx = dx ∧ sm (decide (dx
    ≤ (-64 : Int))) ∧ True ∧ dx = dx ∧ sm (decide (dx ≥ (64 : Int))) ∧ sm (decide (dx ≥ (64 : Int))) ∧ True ∧ dy = dy ∧ sm (decide (dy ≤ (-16 : Int))) ∧ sm (decide (dy
    ≤ (-16 : Int))) ∧ True ∧ dy = dy ∧ sm (decide (dy ≥ (16 : Int))) ∧ True ∧ True ∧ True ∧ True ∧ True ∧ True ∧ True ∧ True ∧ True ∧ True ∧ True ∧ True ∧ True ∧ True
    ∧ True ∧ True ∧ True ∧ True ∧ True ∧ True ∧ True ∧ True ∧ True ∧ True) ∧ ((if false = true then [] else List.map Seg.shape [Seg.a (16 : Nat) (1 : Nat) fun j => [SV.int
    IntKind.u64 (f.low.getD j (0 : Int))], Seg.a (16 : Nat) (1 : Nat) fun j => [SV.int IntKind.u64 (f.high.getD j (0 : Int))]]) = if false = true then [] else List.map
    Seg.shape [Seg.a (16 : Nat) (1 : Nat) fun j => [SV.int IntKind.u64 (f.low.getD j (0 : Int))], Seg.a (16 : Nat) (1 : Nat) fun j => [SV.int IntKind.u64 (f.high.getD
    j (0 : Int))]]) ∧ ((sm ((16 : Nat)) ∧ sm ((1 : Nat)) ∧ ∀ (i : Nat), i < (16 : Nat) → sm (f.low.getD i (0 : Int)) ∧ True) ∧ (sm ((16 : Nat)) ∧ sm ((1 : Nat)) ∧ ∀
    (i : Nat), i < (16 : Nat) → sm (f.high.getD i (0 : Int)) ∧ True) ∧ True) ∧ ((if false = true then [] else List.map Seg.shape ([Seg.a (16 : Nat) (1 : Nat) fun x =>
    [SV.int IntKind.u64 (0 : Int)]] ++ ([Seg.a (16 : Nat) (1 : Nat) fun x => [SV.int IntKind.u64 (0 : Int)]] ++ []))) = if false = true then [] else List.map Seg.shape
    ([Seg.a (16 : Nat) (1 : Nat) fun x => [SV.int IntKind.u64 (0 : Int)]] ++ ([Seg.a (16 : Nat) (1 : Nat) fun x => [SV.int IntKind.u64 (0 : Int)]] ++ []))) ∧ ((sm ((16
    : Nat)) ∧ sm ((1 : Nat)) ∧ ∀ (i : Nat), i < (16 : Nat) → sm ((0 : Int)) ∧ True) ∧ (sm ((16 : Nat)) ∧ sm ((1 : Nat)) ∧ ∀ (i : Nat), i < (16 : Nat) → sm ((0 : Int))
    ∧ True) ∧ True) ∧ ((if false = true then [] else List.map Seg.shape ([Seg.a (16 : Nat) (1 : Nat) fun x => [SV.int IntKind.u64 (0 : Int)]] ++ ([Seg.a (16 : Nat) (1
    : Nat) fun x => [SV.int IntKind.u64 (0 : Int)]] ++ []))) = if false = true then [] else List.map Seg.shape ([Seg.a (16 : Nat) (1 : Nat) fun x => [SV.int IntKind.u64
    (0 : Int)]] ++ ([Seg.a (16 : Nat) (1 : Nat) fun x => [SV.int IntKind.u64 (0 : Int)]] ++ []))) ∧ ((sm ((16 : Nat)) ∧ (1 : Nat) = (codI IntKind.u64).n ∧ ∀ (i : Nat),
    i < (16 : Nat) → (0 : Int) = z16.getD i (codI IntKind.u64).dft ∧ True) ∧ (sm ((16 : Nat)) ∧ (1 : Nat) = (codI IntKind.u64).n ∧ ∀ (i : Nat), i < (16 : Nat) → (0 :
    Int) = z16.getD i (codI IntKind.u64).dft ∧ True) ∧ True) ∧ True) ∧ ∀ (n : Int) (l l_1 : List Int), DotI (lv zeroF) (shiftL f dx dy) n (0 : Int) l l_1 → True ∧ (decide
    (n < (16 : Int)) = true → True ∧ (DotI (lv zeroF) (shiftL f dx dy) n (0 : Int) (rowL (codI IntKind.u64) (16 : Nat) fun j => (codI IntKind.u64).enc (l.getD j (codI
    IntKind.u64).dft)) (rowL (codI IntKind.u64) (16 : Nat) fun j => (codI IntKind.u64).enc (l_1.getD j (codI IntKind.u64).dft)) ∧ (((sm ((16 : Nat)) ∧ sm ((1 : Nat))
    ∧ ∀ (i : Nat), i < (16 : Nat) → sm (f.low.getD i (0 : Int)) ∧ True) ∧ (sm ((16 : Nat)) ∧ sm ((1 : Nat)) ∧ ∀ (i : Nat), i < (16 : Nat) → sm (f.high.getD i (0 : Int))
    ∧ True) ∧ True) ∧ dx = dx ∧ dy = dy ∧ True ∧ True ∧ True ∧ True ∧ True ∧ n = n ∧ sm ((0 : Int)) ∧ dx = dx ∧ sm (decide (dx ≤ (-64 : Int))) ∧ True ∧ dx = dx ∧ sm
    (decide (dx ≥ (64 : Int))) ∧ sm (decide (dx ≥ (64 : Int))) ∧ True ∧ dy = dy ∧ sm (decide (dy ≤ (-16 : Int))) ∧ sm (decide (dy ≤ (-16 : Int))) ∧ True ∧ dy = dy ∧
    sm (decide (dy ≥ (16 : Int))) ∧ True ∧ True ∧ n = n ∧ True ∧ True ∧ True ∧ True ∧ True ∧ True ∧ True ∧ True ∧ True ∧ True ∧ True ∧ True ∧ True ∧ True ∧ True ∧ True
    ∧ True ∧ True ∧ True ∧ True ∧ True) ∧ ((if false = true then [] else List.map Seg.shape [Seg.a (16 : Nat) (1 : Nat) fun j => [SV.int IntKind.u64 (f.low.getD j (0
    : Int))], Seg.a (16 : Nat) (1 : Nat) fun j => [SV.int IntKind.u64 (f.high.getD j (0 : Int))]]) = if false = true then [] else List.map Seg.shape [Seg.a (16 : Nat)
    (1 : Nat) fun j => [SV.int IntKind.u64 (f.low.getD j (0 : Int))], Seg.a (16 : Nat) (1 : Nat) fun j => [SV.int IntKind.u64 (f.high.getD j (0 : Int))]]) ∧ ((sm ((16
    : Nat)) ∧ sm ((1 : Nat)) ∧ ∀ (i : Nat), i < (16 : Nat) → sm (f.low.getD i (0 : Int)) ∧ True) ∧ (sm ((16 : Nat)) ∧ sm ((1 : Nat)) ∧ ∀ (i : Nat), i < (16 : Nat) →
    sm (f.high.getD i (0 : Int)) ∧ True) ∧ True) ∧ ((if false = true then [] else List.map Seg.shape ([Seg.a (16 : Nat) (1 : Nat) fun x => [SV.int IntKind.u64 (0 : Int)]]
    ++ ([Seg.a (16 : Nat) (1 : Nat) fun x => [SV.int IntKind.u64 (0 : Int)]] ++ []))) = if false = true then [] else List.map Seg.shape ([Seg.a (16 : Nat) (1 : Nat)
    fun x => [SV.int IntKind.u64 (0 : Int)]] ++ ([Seg.a (16 : Nat) (1 : Nat) fun x => [SV.int IntKind.u64 (0 : Int)]] ++ []))) ∧ ((sm ((16 : Nat)) ∧ sm ((1 : Nat)) ∧
    ∀ (i : Nat), i < (16 : Nat) → sm ((0 : Int)) ∧ True) ∧ (sm ((16 : Nat)) ∧ sm ((1 : Nat)) ∧ ∀ (i : Nat), i < (16 : Nat) → sm ((0 : Int)) ∧ True) ∧ True) ∧ ((if false
    = true then [] else List.map Seg.shape ([Seg.a (16 : Nat) (1 : Nat) fun x => [SV.int IntKind.u64 (0 : Int)]] ++ ([Seg.a (16 : Nat) (1 : Nat) fun x => [SV.int IntKind.u64
    (0 : Int)]] ++ []))) = if false = true then [] else List.map Seg.shape ([Seg.a (16 : Nat) (1 : Nat) fun x => [SV.int IntKind.u64 (0 : Int)]] ++ ([Seg.a (16 : Nat)
    (1 : Nat) fun x => [SV.int IntKind.u64 (0 : Int)]] ++ []))) ∧ ((sm ((16 : Nat)) ∧ sm ((codI IntKind.u64).n) ∧ ∀ (i : Nat), i < (16 : Nat) → l.getD i (codI IntKind.u64).dft
    = (rowL (codI IntKind.u64) (16 : Nat) fun j => (codI IntKind.u64).enc (l.getD j (codI IntKind.u64).dft)).getD i (codI IntKind.u64).dft ∧ True) ∧ (sm ((16 : Nat))
    ∧ sm ((codI IntKind.u64).n) ∧ ∀ (i : Nat), i < (16 : Nat) → l_1.getD i (codI IntKind.u64).dft = (rowL (codI IntKind.u64) (16 : Nat) fun j => (codI IntKind.u64).enc
    (l_1.getD j (codI IntKind.u64).dft)).getD i (codI IntKind.u64).dft ∧ True) ∧ True) ∧ True) ∧ ∀ (n_1 : Int) (l l_2 : List Int), DotI (lv zeroF) (shiftL f dx dy) n
    n_1 l l_2 → True ∧ (decide (n_1 < (64 : Int)) = true → (t16 ∧ t16 ∧ True) ∧ True ∧ True ∧ ((((∀ (i : Nat), i < (16 : Nat) → true = true ∧ True) ∧ ∀ (i : Nat), i
    < (16 : Nat) → true = true ∧ True) ∧ True ∧ True) ∧ okF { low := rr f.low, high := rr f.high : Fr }) ∧ (t16 ∧ t16 ∧ True) ∧ True ∧ True ∧ True ∧ ((((∀ (i : Nat),
    i < (16 : Nat) → true = true ∧ True) ∧ ∀ (i : Nat), i < (16 : Nat) → true = true ∧ True) ∧ True ∧ True ∧ True) ∧ okF { low := rowL (codI IntKind.u64) (16 : Nat) fun j => (codI IntKind.u64).enc (l.getD j (codI IntKind.u64).dft), high := rowL (codI IntKind.u64) (16 : Nat) fun j => (codI IntKind.u64).enc (l_2.getD j (codI IntKind.u64).dft) : Fr })
    ∧ t16 ∧ t16 ∧ IsT true ∧ True ∧ DotI (lv zeroF) (shiftL f dx dy) n (W (n_1 + (1 : Int))) (rr (setS { low := rowL (codI IntKind.u64) (16 : Nat) fun j => (codI IntKind.u64).enc (l.getD j (codI IntKind.u64).dft), high := rowL (codI IntKind.u64) (16 : Nat) fun j => (codI IntKind.u64).enc (l_2.getD j (codI IntKind.u64).dft) : Fr }
    n_1 n (getS { low := rr f.low, high := rr f.high : Fr } (W (n_1 - dx)) (W (n - dy)))).low) (rr (setS { low := rowL (codI IntKind.u64) (16 : Nat) fun j => (codI IntKind.u64).enc (l.getD j (codI IntKind.u64).dft), high := rowL (codI IntKind.u64) (16 : Nat) fun j => (codI IntKind.u64).enc (l_2.getD j (codI IntKind.u64).dft) : Fr }
    n_1 n (getS { low := rr f.low, high := rr f.high : Fr } (W (n_1 - dx)) (W (n - dy)))).high) ∧ ((64 : Int) - W (n_1 + (1 : Int))).toNat < ((64 : Int) - n_1).toNat
    ∧ (((sm ((16 : Nat)) ∧ sm ((1 : Nat)) ∧ ∀ (i : Nat), i < (16 : Nat) → sm (f.low.getD i (0 : Int)) ∧ True) ∧ (sm ((16 : Nat)) ∧ sm ((1 : Nat)) ∧ ∀ (i : Nat), i <
    (16 : Nat) → sm (f.high.getD i (0 : Int)) ∧ True) ∧ True) ∧ dx = dx ∧ dy = dy ∧ True ∧ True ∧ True ∧ True ∧ True ∧ n = n ∧ sm (W (n_1 + (1 : Int))) ∧ dx = dx ∧ sm
    (decide (dx ≤ (-64 : Int))) ∧ True ∧ dx = dx ∧ sm (decide (dx ≥ (64 : Int))) ∧ sm (decide (dx ≥ (64 : Int))) ∧ True ∧ dy = dy ∧ sm (decide (dy ≤ (-16 : Int))) ∧
    sm (decide (dy ≤ (-16 : Int))) ∧ True ∧ dy = dy ∧ sm (decide (dy ≥ (16 : Int))) ∧ True ∧ True ∧ n = n ∧ True ∧ True ∧ True ∧ True ∧ True ∧ True ∧ True ∧ True ∧ True
    ∧ True ∧ True ∧ True ∧ True ∧ True ∧ True ∧ True ∧ True ∧ True ∧ True ∧ True ∧ True) ∧ ((if false = true then [] else List.map Seg.shape [Seg.a (16 : Nat) (1 : Nat)
    fun j => [SV.int IntKind.u64 (f.low.getD j (0 : Int))], Seg.a (16 : Nat) (1 : Nat) fun j => [SV.int IntKind.u64 (f.high.getD j (0 : Int))]]) = if false = true then
    [] else List.map Seg.shape [Seg.a (16 : Nat) (1 : Nat) fun j => [SV.int IntKind.u64 (f.low.getD j (0 : Int))], Seg.a (16 : Nat) (1 : Nat) fun j => [SV.int IntKind.u64
    (f.high.getD j (0 : Int))]]) ∧ ((sm ((16 : Nat)) ∧ sm ((1 : Nat)) ∧ ∀ (i : Nat), i < (16 : Nat) → sm (f.low.getD i (0 : Int)) ∧ True) ∧ (sm ((16 : Nat)) ∧ sm ((1
    : Nat)) ∧ ∀ (i : Nat), i < (16 : Nat) → sm (f.high.getD i (0 : Int)) ∧ True) ∧ True) ∧ ((if false = true then [] else List.map Seg.shape ([Seg.a (16 : Nat) (1 :
    Nat) fun x => [SV.int IntKind.u64 (0 : Int)]] ++ ([Seg.a (16 : Nat) (1 : Nat) fun x => [SV.int IntKind.u64 (0 : Int)]] ++ []))) = if false = true then [] else List.map
    Seg.shape ([Seg.a (16 : Nat) (1 : Nat) fun x => [SV.int IntKind.u64 (0 : Int)]] ++ ([Seg.a (16 : Nat) (1 : Nat) fun x => [SV.int IntKind.u64 (0 : Int)]] ++ [])))
    ∧ ((sm ((16 : Nat)) ∧ sm ((1 : Nat)) ∧ ∀ (i : Nat), i < (16 : Nat) → sm ((0 : Int)) ∧ True) ∧ (sm ((16 : Nat)) ∧ sm ((1 : Nat)) ∧ ∀ (i : Nat), i < (16 : Nat) → sm
    ((0 : Int)) ∧ True) ∧ True) ∧ ((if false = true then [] else List.map Seg.shape ([Seg.a (16 : Nat) (1 : Nat) fun x => [SV.int IntKind.u64 (0 : Int)]] ++ ([Seg.a
    (16 : Nat) (1 : Nat) fun x => [SV.int IntKind.u64 (0 : Int)]] ++ []))) = if false = true then [] else List.map Seg.shape ([Seg.a (16 : Nat) (1 : Nat) fun x => [SV.int
    IntKind.u64 (0 : Int)]] ++ ([Seg.a (16 : Nat) (1 : Nat) fun x => [SV.int IntKind.u64 (0 : Int)]] ++ []))) ∧ ((sm ((16 : Nat)) ∧ (1 : Nat) = (codI IntKind.u64).n
    ∧ ∀ (i : Nat), i < (16 : Nat) → (setS { low := rowL (codI IntKind.u64) (16 : Nat) fun j => (codI IntKind.u64).enc (l.getD j (codI IntKind.u64).dft), high := rowL (codI IntKind.u64) (16 : Nat) fun j => (codI IntKind.u64).enc (l_2.getD j (codI IntKind.u64).dft) : Fr }
    n_1 n (getS { low := rr f.low, high := rr f.high : Fr } (W (n_1 - dx)) (W (n - dy)))).low.getD i (0 : Int) = (rr (setS { low := rowL (codI IntKind.u64) (16 : Nat) fun j => (codI IntKind.u64).enc (l.getD j (codI IntKind.u64).dft), high := rowL (codI IntKind.u64) (16 : Nat) fun j => (codI IntKind.u64).enc (l_2.getD j (codI IntKind.u64).dft) : Fr }
    n_1 n (getS { low := rr f.low, high := rr f.high : Fr } (W (n_1 - dx)) (W (n - dy)))).low).getD i (codI IntKind.u64).dft ∧ True) ∧ (sm ((16 : Nat)) ∧ (1 : Nat) =
    (codI IntKind.u64).n ∧ ∀ (i : Nat), i < (16 : Nat) → (setS { low := rowL (codI IntKind.u64) (16 : Nat) fun j => (codI IntKind.u64).enc (l.getD j (codI IntKind.u64).dft), high := rowL (codI IntKind.u64) (16 : Nat) fun j => (codI IntKind.u64).enc (l_2.getD j (codI IntKind.u64).dft) : Fr }
    n_1 n (getS { low := rr f.low, high := rr f.high : Fr } (W (n_1 - dx)) (W (n - dy)))).high.getD i (0 : Int) = (rr (setS { low := rowL (codI IntKind.u64) (16 : Nat) fun j => (codI IntKind.u64).enc (l.getD j (codI IntKind.u64).dft), high := rowL (codI IntKind.u64) (16 : Nat) fun j => (codI IntKind.u64).enc (l_2.getD j (codI IntKind.u64).dft) : Fr }
    n_1 n (getS { low := rr f.low, high := rr f.high : Fr } (W (n_1 - dx)) (W (n - dy)))).high).getD i (codI IntKind.u64).dft ∧ True) ∧ True) ∧ True) ∧ (decide (n_1
    < (64 : Int)) = false → True ∧ DotI (lv zeroF) (shiftL f dx dy) (W (n + (1 : Int))) (0 : Int) (rowL (codI IntKind.u64) (16 : Nat) fun j => (codI IntKind.u64).enc
    (l.getD j (codI IntKind.u64).dft)) (rowL (codI IntKind.u64) (16 : Nat) fun j => (codI IntKind.u64).enc (l_2.getD j (codI IntKind.u64).dft)) ∧ ((16 : Int) - W (n
    + (1 : Int))).toNat < ((16 : Int) - n).toNat ∧ (((sm ((16 : Nat)) ∧ sm ((1 : Nat)) ∧ ∀ (i : Nat), i < (16 : Nat) → sm (f.low.getD i (0 : Int)) ∧ True) ∧ (sm ((16
    : Nat)) ∧ sm ((1 : Nat)) ∧ ∀ (i : Nat), i < (16 : Nat) → sm (f.high.getD i (0 : Int)) ∧ True) ∧ True) ∧ dx = dx ∧ dy = dy ∧ True ∧ True ∧ True ∧ True ∧ True ∧ sm
    (W (n + (1 : Int))) ∧ True ∧ dx = dx ∧ sm (decide (dx ≤ (-64 : Int))) ∧ True ∧ dx = dx ∧ sm (decide (dx ≥ (64 : Int))) ∧ sm (decide (dx ≥ (64 : Int))) ∧ True ∧ dy
    = dy ∧ sm (decide (dy ≤ (-16 : Int))) ∧ sm (decide (dy ≤ (-16 : Int))) ∧ True ∧ dy = dy ∧ sm (decide (dy ≥ (16 : Int))) ∧ True ∧ True ∧ True ∧ True ∧ True ∧ True
    ∧ True ∧ True ∧ True ∧ True ∧ True ∧ True ∧ True ∧ True ∧ True ∧ True ∧ True ∧ True ∧ True ∧ True ∧ True ∧ True ∧ True ∧ True) ∧ ((if false = true then [] else List.map
    Seg.shape [Seg.a (16 : Nat) (1 : Nat) fun j => [SV.int IntKind.u64 (f.low.getD j (0 : Int))], Seg.a (16 : Nat) (1 : Nat) fun j => [SV.int IntKind.u64 (f.high.getD
    j (0 : Int))]]) = if false = true then [] else List.map Seg.shape [Seg.a (16 : Nat) (1 : Nat) fun j => [SV.int IntKind.u64 (f.low.getD j (0 : Int))], Seg.a (16 :
    Nat) (1 : Nat) fun j => [SV.int IntKind.u64 (f.high.getD j (0 : Int))]]) ∧ ((sm ((16 : Nat)) ∧ sm ((1 : Nat)) ∧ ∀ (i : Nat), i < (16 : Nat) → sm (f.low.getD i (0
    : Int)) ∧ True) ∧ (sm ((16 : Nat)) ∧ sm ((1 : Nat)) ∧ ∀ (i : Nat), i < (16 : Nat) → sm (f.high.getD i (0 : Int)) ∧ True) ∧ True) ∧ ((if false = true then [] else
    List.map Seg.shape ([Seg.a (16 : Nat) (1 : Nat) fun x => [SV.int IntKind.u64 (0 : Int)]] ++ ([Seg.a (16 : Nat) (1 : Nat) fun x => [SV.int IntKind.u64 (0 : Int)]]
    ++ []))) = if false = true then [] else List.map Seg.shape ([Seg.a (16 : Nat) (1 : Nat) fun x => [SV.int IntKind.u64 (0 : Int)]] ++ ([Seg.a (16 : Nat) (1 : Nat)
    fun x => [SV.int IntKind.u64 (0 : Int)]] ++ []))) ∧ ((sm ((16 : Nat)) ∧ sm ((1 : Nat)) ∧ ∀ (i : Nat), i < (16 : Nat) → sm ((0 : Int)) ∧ True) ∧ (sm ((16 : Nat))
    ∧ sm ((1 : Nat)) ∧ ∀ (i : Nat), i < (16 : Nat) → sm ((0 : Int)) ∧ True) ∧ True) ∧ ((if false = true then [] else List.map Seg.shape ([Seg.a (16 : Nat) (1 : Nat)
    fun x => [SV.int IntKind.u64 (0 : Int)]] ++ ([Seg.a (16 : Nat) (1 : Nat) fun x => [SV.int IntKind.u64 (0 : Int)]] ++ []))) = if false = true then [] else List.map
    Seg.shape ([Seg.a (16 : Nat) (1 : Nat) fun x => [SV.int IntKind.u64 (0 : Int)]] ++ ([Seg.a (16 : Nat) (1 : Nat) fun x => [SV.int IntKind.u64 (0 : Int)]] ++ [])))
    ∧ ((sm ((16 : Nat)) ∧ sm ((codI IntKind.u64).n) ∧ ∀ (i : Nat), i < (16 : Nat) → l.getD i (codI IntKind.u64).dft = (rowL (codI IntKind.u64) (16 : Nat) fun j => (codI
    IntKind.u64).enc (l.getD j (codI IntKind.u64).dft)).getD i (codI IntKind.u64).dft ∧ True) ∧ (sm ((16 : Nat)) ∧ sm ((codI IntKind.u64).n) ∧ ∀ (i : Nat), i < (16 :
    Nat) → l_2.getD i (codI IntKind.u64).dft = (rowL (codI IntKind.u64) (16 : Nat) fun j => (codI IntKind.u64).enc (l_2.getD j (codI IntKind.u64).dft)).getD i (codI
    IntKind.u64).dft ∧ True) ∧ True) ∧ True)) ∧ (decide (n < (16 : Int)) = false → t16 ∧ t16 ∧ True ∧ (t16 ∧ t16 ∧ True) ∧ ((sm ((16 : Nat)) ∧ (0 : Nat) + (1 : Nat)
    = (1 : Nat) ∧ ∀ (i : Nat), i < (16 : Nat) → l.getD i (codI IntKind.u64).dft = (shiftS f dx dy).low.getD i (0 : Int) ∧ True) ∧ (sm ((16 : Nat)) ∧ (0 : Nat) + (1 :
    Nat) = (1 : Nat) ∧ ∀ (i : Nat), i < (16 : Nat) → l_1.getD i (codI IntKind.u64).dft = (shiftS f dx dy).high.getD i (0 : Int) ∧ True) ∧ True) ∧ True)))))) = vc35 f dx dy := by kernel_rfl
theorem vc33_eq (a b : Fr) : (True ∧ True ∧ (RowI a (overL a b) (0 : Int) (rr a.low) (rr a.high) ∧ (((sm ((16 : Nat)) ∧ sm ((1 : Nat)) ∧ ∀ (i : Nat), i < (16 : Nat) → sm (a.low.getD i (0 : Int))
    ∧ True) ∧ (sm ((16 : Nat)) ∧ sm ((1 : Nat)) ∧ ∀ (i : Nat), i < (16 : Nat) → sm (a.high.getD i (0 : Int)) ∧ True) ∧ True) ∧ ((sm ((16 : Nat)) ∧ sm ((1 : Nat)) ∧ ∀
    (i : Nat), i < (16 : Nat) → sm (b.low.getD i (0 : Int)) ∧ True) ∧ (sm ((16 : Nat)) ∧ sm ((1 : Nat)) ∧ ∀ (i : Nat), i < (16 : Nat) → sm (b.high.getD i (0 : Int))
    ∧ True) ∧ True) ∧ True ∧ True ∧ True ∧ True ∧ True ∧ sm ((0 : Int)) ∧ True ∧ True ∧ True ∧ True ∧ True ∧ True ∧ True ∧ True ∧ True ∧ True ∧ True ∧ True ∧ True ∧
    True ∧ True ∧ True ∧ True ∧ True ∧ True ∧ True ∧ True ∧ True ∧ True ∧ True ∧ True ∧ True ∧ True ∧ True ∧ True ∧ True ∧ True ∧ True ∧ True ∧ True ∧ True ∧ True ∧
    True ∧ True ∧ True ∧ True) ∧ ((if false = true then [] else List.map Seg.shape [Seg.a (16 : Nat) (1 : Nat) fun j => [SV.int IntKind.u64 (a.low.getD j (0 : Int))],
    Seg.a (16 : Nat) (1 : Nat) fun j => [SV.int IntKind.u64 (a.high.getD j (0 : Int))]]) = if false = true then [] else List.map Seg.shape [Seg.a (16 : Nat) (1 : Nat)
    fun j => [SV.int IntKind.u64 (a.low.getD j (0 : Int))], Seg.a (16 : Nat) (1 : Nat) fun j => [SV.int IntKind.u64 (a.high.getD j (0 : Int))]]) ∧ ((sm ((16 : Nat))
    ∧ (1 : Nat) = (codI IntKind.u64).n ∧ ∀ (i : Nat), i < (16 : Nat) → a.low.getD i (0 : Int) = (rr a.low).getD i (codI IntKind.u64).dft ∧ True) ∧ (sm ((16 : Nat)) ∧
    (1 : Nat) = (codI IntKind.u64).n ∧ ∀ (i : Nat), i < (16 : Nat) → a.high.getD i (0 : Int) = (rr a.high).getD i (codI IntKind.u64).dft ∧ True) ∧ True) ∧ ((if false
    = true then [] else List.map Seg.shape [Seg.a (16 : Nat) (1 : Nat) fun j => [SV.int IntKind.u64 (b.low.getD j (0 : Int))], Seg.a (16 : Nat) (1 : Nat) fun j => [SV.int
    IntKind.u64 (b.high.getD j (0 : Int))]]) = if false = true then [] else List.map Seg.shape [Seg.a (16 : Nat) (1 : Nat) fun j => [SV.int IntKind.u64 (b.low.getD j
    (0 : Int))], Seg.a (16 : Nat) (1 : Nat) fun j => [SV.int IntKind.u64 (b.high.getD j (0 : Int))]]) ∧ ((sm ((16 : Nat)) ∧ sm ((1 : Nat)) ∧ ∀ (i : Nat), i < (16 : Nat)
    → sm (b.low.getD i (0 : Int)) ∧ True) ∧ (sm ((16 : Nat)) ∧ sm ((1 : Nat)) ∧ ∀ (i : Nat), i < (16 : Nat) → sm (b.high.getD i (0 : Int)) ∧ True) ∧ True) ∧ ((if false
    = true then [] else List.map Seg.shape ([Seg.a (16 : Nat) (1 : Nat) fun x => [SV.int IntKind.u64 (0 : Int)]] ++ ([Seg.a (16 : Nat) (1 : Nat) fun x => [SV.int IntKind.u64
    (0 : Int)]] ++ []))) = if false = true then [] else List.map Seg.shape ([Seg.a (16 : Nat) (1 : Nat) fun x => [SV.int IntKind.u64 (0 : Int)]] ++ ([Seg.a (16 : Nat)
    (1 : Nat) fun x => [SV.int IntKind.u64 (0 : Int)]] ++ []))) ∧ ((sm ((16 : Nat)) ∧ sm ((1 : Nat)) ∧ ∀ (i : Nat), i < (16 : Nat) → sm ((0 : Int)) ∧ True) ∧ (sm ((16
    : Nat)) ∧ sm ((1 : Nat)) ∧ ∀ (i : Nat), i < (16 : Nat) → sm ((0 : Int)) ∧ True) ∧ True) ∧ True) ∧ ∀ (n : Int) (l l_1 : List Int), RowI a (overL a b) n l l_1 → True
    ∧ (decide (n < (16 : Int)) = true → True ∧ ((0 : Int) ≤ n ∧ n < (16 : Int)) ∧ n.toNat < (16 : Nat) ∧ ((0 : Int) ≤ n ∧ n < (16 : Int)) ∧ n.toNat < (16 : Nat) ∧ IsT
    true ∧ ((0 : Int) ≤ n ∧ n < (16 : Int)) ∧ n.toNat < (16 : Nat) ∧ ((0 : Int) ≤ n ∧ n < (16 : Int)) ∧ n.toNat < (16 : Nat) ∧ True ∧ True ∧ True ∧ ((True ∧ True ∧ True)
    ∧ True) ∧ ((0 : Int) ≤ n ∧ n < (16 : Int)) ∧ n.toNat < (16 : Nat) ∧ ((0 : Int) ≤ n ∧ n < (16 : Int)) ∧ n.toNat < (16 : Nat) ∧ True ∧ True ∧ True ∧ ((True ∧ True
    ∧ True) ∧ True) ∧ ((0 : Int) ≤ n ∧ n < (16 : Int)) ∧ n.toNat < (16 : Nat) ∧ ((0 : Int) ≤ n ∧ n < (16 : Int)) ∧ n.toNat < (16 : Nat) ∧ IsT true ∧ True ∧ RowI a (overL
    a b) (W (n + (1 : Int))) (rowL (codI IntKind.u64) (16 : Nat) fun i' => mergeL (decide (i' = n.toNat)) (setL ((codI IntKind.u64).enc (l.getD n.toNat (codI IntKind.u64).dft))
    (0 : Nat) [SV.int IntKind.u64 (mixS (l.getD n.toNat (codI IntKind.u64).dft) (b.low.getD n.toNat (0 : Int)) (bits BinOp.or IntKind.u64 (b.low.getD n.toNat (0 : Int))
    (b.high.getD n.toNat (0 : Int))))]) ((codI IntKind.u64).enc (l.getD i' (codI IntKind.u64).dft))) (rowL (codI IntKind.u64) (16 : Nat) fun i' => mergeL (decide (i'
    = n.toNat)) (setL ((codI IntKind.u64).enc (l_1.getD n.toNat (codI IntKind.u64).dft)) (0 : Nat) [SV.int IntKind.u64 (mixS (l_1.getD n.toNat (codI IntKind.u64).dft)
    (b.high.getD n.toNat (0 : Int)) (bits BinOp.or IntKind.u64 (b.low.getD n.toNat (0 : Int)) (b.high.getD n.toNat (0 : Int))))]) ((codI IntKind.u64).enc (l_1.getD i'
    (codI IntKind.u64).dft))) ∧ ((16 : Int) - W (n + (1 : Int))).toNat < ((16 : Int) - n).toNat ∧ (((sm ((16 : Nat)) ∧ sm ((1 : Nat)) ∧ ∀ (i : Nat), i < (16 : Nat) →
    sm (a.low.getD i (0 : Int)) ∧ True) ∧ (sm ((16 : Nat)) ∧ sm ((1 : Nat)) ∧ ∀ (i : Nat), i < (16 : Nat) → sm (a.high.getD i (0 : Int)) ∧ True) ∧ True) ∧ ((sm ((16
    : Nat)) ∧ sm ((1 : Nat)) ∧ ∀ (i : Nat), i < (16 : Nat) → sm (b.low.getD i (0 : Int)) ∧ True) ∧ (sm ((16 : Nat)) ∧ sm ((1 : Nat)) ∧ ∀ (i : Nat), i < (16 : Nat) →
    sm (b.high.getD i (0 : Int)) ∧ True) ∧ True) ∧ True ∧ True ∧ True ∧ True ∧ True ∧ sm (W (n + (1 : Int))) ∧ True ∧ True ∧ True ∧ True ∧ True ∧ True ∧ True ∧ True
    ∧ True ∧ True ∧ True ∧ True ∧ True ∧ True ∧ True ∧ True ∧ True ∧ True ∧ True ∧ True ∧ True ∧ True ∧ True ∧ True ∧ True ∧ True ∧ True ∧ True ∧ True ∧ True ∧ True
    ∧ True ∧ True ∧ True ∧ True ∧ True ∧ True ∧ True ∧ True ∧ True) ∧ ((if false = true then [] else List.map Seg.shape [Seg.a (16 : Nat) (1 : Nat) fun j => [SV.int
    IntKind.u64 (a.low.getD j (0 : Int))], Seg.a (16 : Nat) (1 : Nat) fun j => [SV.int IntKind.u64 (a.high.getD j (0 : Int))]]) = if false = true then [] else List.map
    Seg.shape [Seg.a (16 : Nat) (1 : Nat) fun j => [SV.int IntKind.u64 (a.low.getD j (0 : Int))], Seg.a (16 : Nat) (1 : Nat) fun j => [SV.int IntKind.u64 (a.high.getD
    j (0 : Int))]]) ∧ ((sm ((16 : Nat)) ∧ (0 : Nat) + (1 : Nat) = (codI IntKind.u64).n ∧ ∀ (i : Nat), i < (16 : Nat) → (if decide (i = n.toNat) = true then mixS (l.getD
    n.toNat (codI IntKind.u64).dft) (b.low.getD n.toNat (0 : Int)) (bits BinOp.or IntKind.u64 (b.low.getD n.toNat (0 : Int)) (b.high.getD n.toNat (0 : Int))) else l.getD
    i (codI IntKind.u64).dft) = (rowL (codI IntKind.u64) (16 : Nat) fun i' => mergeL (decide (i' = n.toNat)) (setL ((codI IntKind.u64).enc (l.getD n.toNat (codI IntKind.u64).dft))
    (0 : Nat) [SV.int IntKind.u64 (mixS (l.getD n.toNat (codI IntKind.u64).dft) (b.low.getD n.toNat (0 : Int)) (bits BinOp.or IntKind.u64 (b.low.getD n.toNat (0 : Int))
    (b.high.getD n.toNat (0 : Int))))]) ((codI IntKind.u64).enc (l.getD i' (codI IntKind.u64).dft))).getD i (codI IntKind.u64).dft ∧ True) ∧ (sm ((16 : Nat)) ∧ (0 :
    Nat) + (1 : Nat) = (codI IntKind.u64).n ∧ ∀ (i : Nat), i < (16 : Nat) → (if decide (i = n.toNat) = true then mixS (l_1.getD n.toNat (codI IntKind.u64).dft) (b.high.getD
    n.toNat (0 : Int)) (bits BinOp.or IntKind.u64 (b.low.getD n.toNat (0 : Int)) (b.high.getD n.toNat (0 : Int))) else l_1.getD i (codI IntKind.u64).dft) = (rowL (codI
    IntKind.u64) (16 : Nat) fun i' => mergeL (decide (i' = n.toNat)) (setL ((codI IntKind.u64).enc (l_1.getD n.toNat (codI IntKind.u64).dft)) (0 : Nat) [SV.int IntKind.u64
    (mixS (l_1.getD n.toNat (codI IntKind.u64).dft) (b.high.getD n.toNat (0 : Int)) (bits BinOp.or IntKind.u64 (b.low.getD n.toNat (0 : Int)) (b.high.getD n.toNat (0
    : Int))))]) ((codI IntKind.u64).enc (l_1.getD i' (codI IntKind.u64).dft))).getD i (codI IntKind.u64).dft ∧ True) ∧ True) ∧ ((if false = true then [] else List.map
    Seg.shape [Seg.a (16 : Nat) (1 : Nat) fun j => [SV.int IntKind.u64 (b.low.getD j (0 : Int))], Seg.a (16 : Nat) (1 : Nat) fun j => [SV.int IntKind.u64 (b.high.getD
    j (0 : Int))]]) = if false = true then [] else List.map Seg.shape [Seg.a (16 : Nat) (1 : Nat) fun j => [SV.int IntKind.u64 (b.low.getD j (0 : Int))], Seg.a (16 :
    Nat) (1 : Nat) fun j => [SV.int IntKind.u64 (b.high.getD j (0 : Int))]]) ∧ ((sm ((16 : Nat)) ∧ sm ((1 : Nat)) ∧ ∀ (i : Nat), i < (16 : Nat) → sm (b.low.getD i (0
    : Int)) ∧ True) ∧ (sm ((16 : Nat)) ∧ sm ((1 : Nat)) ∧ ∀ (i : Nat), i < (16 : Nat) → sm (b.high.getD i (0 : Int)) ∧ True) ∧ True) ∧ ((if false = true then [] else
    List.map Seg.shape ([Seg.a (16 : Nat) (1 : Nat) fun x => [SV.int IntKind.u64 (0 : Int)]] ++ ([Seg.a (16 : Nat) (1 : Nat) fun x => [SV.int IntKind.u64 (0 : Int)]]
    ++ []))) = if false = true then [] else List.map Seg.shape ([Seg.a (16 : Nat) (1 : Nat) fun x => [SV.int IntKind.u64 (0 : Int)]] ++ ([Seg.a (16 : Nat) (1 : Nat)
    fun x => [SV.int IntKind.u64 (0 : Int)]] ++ []))) ∧ ((sm ((16 : Nat)) ∧ sm ((1 : Nat)) ∧ ∀ (i : Nat), i < (16 : Nat) → sm ((0 : Int)) ∧ True) ∧ (sm ((16 : Nat))
    ∧ sm ((1 : Nat)) ∧ ∀ (i : Nat), i < (16 : Nat) → sm ((0 : Int)) ∧ True) ∧ True) ∧ True) ∧ (decide (n < (16 : Int)) = false → t16 ∧ t16 ∧ True ∧ (t16 ∧ t16 ∧ True)
    ∧ ((sm ((16 : Nat)) ∧ (0 : Nat) + (1 : Nat) = (1 : Nat) ∧ ∀ (i : Nat), i < (16 : Nat) → l.getD i (codI IntKind.u64).dft = (overS a b).low.getD i (0 : Int) ∧ True)
    ∧ (sm ((16 : Nat)) ∧ (0 : Nat) + (1 : Nat) = (1 : Nat) ∧ ∀ (i : Nat), i < (16 : Nat) → l_1.getD i (codI IntKind.u64).dft = (overS a b).high.getD i (0 : Int) ∧ True)
    ∧ True) ∧ True)) = vc33 a b := by kernel_rfl
theorem vc36_eq (a b : Fr) : (True ∧ True ∧ (DotI (lv a) (overL a b) (0 : Int) (0 : Int) (rr a.low) (rr a.high) ∧ (((sm ((16 : Nat)) ∧ sm ((1 : Nat)) ∧ ∀ (i : Nat), i < (16 : Nat) → sm (a.low.getD
    i (0 : Int)) ∧ True) ∧ (sm ((16 : Nat)) ∧ sm ((1 : Nat)) ∧ ∀ (i : Nat), i < (16 : Nat) → sm (a.high.getD i (0 : Int)) ∧ True) ∧ True) ∧ ((sm ((16 : Nat)) ∧ sm ((1
    : Nat)) ∧ ∀ (i : Nat), i < (16 : Nat) → sm (b.low.getD i (0 : Int)) ∧ True) ∧ (sm ((16 : Nat)) ∧ sm ((1 : Nat)) ∧ ∀ (i : Nat), i < (16 : Nat) → sm (b.high.getD i
    (0 : Int)) ∧ True) ∧ True) ∧ True ∧ True ∧ True ∧ sm ((0 : Int)) ∧ True ∧ True ∧ True ∧ True ∧ True ∧ True ∧ True ∧ True ∧ True ∧ True ∧ True ∧ True ∧ True ∧ True
    ∧ True ∧ True ∧ True ∧ True ∧ True ∧ True ∧ True ∧ True ∧ True) ∧ ((if false = true then [] else List.map Seg.shape [Seg.a (16 : Nat) (1 : Nat) fun j => [SV.int
    IntKind.u64 (a.low.getD j (0 : Int))], Seg.a (16 : Nat) (1 : Nat) fun j => [SV.int IntKind.u64 (a.high.getD j (0 : Int))]]) = if false = true then [] else List.map
    Seg.shape [Seg.a (16 : Nat) (1 : Nat) fun j => [SV.int IntKind.u64 (a.low.getD j (0 : Int))], Seg.a (16 : Nat) (1 : Nat) fun j => [SV.int IntKind.u64 (a.high.getD
    j (0 : Int))]]) ∧ ((sm ((16 : Nat)) ∧ (1 : Nat) = (codI IntKind.u64).n ∧ ∀ (i : Nat), i < (16 : Nat) → a.low.getD i (0 : Int) = (rr a.low).getD i (codI IntKind.u64).dft
    ∧ True) ∧ (sm ((16 : Nat)) ∧ (1 : Nat) = (codI IntKind.u64).n ∧ ∀ (i : Nat), i < (16 : Nat) → a.high.getD i (0 : Int) = (rr a.high).getD i (codI IntKind.u64).dft
    ∧ True) ∧ True) ∧ ((if false = true then [] else List.map Seg.shape [Seg.a (16 : Nat) (1 : Nat) fun j => [SV.int IntKind.u64 (b.low.getD j (0 : Int))], Seg.a (16
    : Nat) (1 : Nat) fun j => [SV.int IntKind.u64 (b.high.getD j (0 : Int))]]) = if false = true then [] else List.map Seg.shape [Seg.a (16 : Nat) (1 : Nat) fun j =>
    [SV.int IntKind.u64 (b.low.getD j (0 : Int))], Seg.a (16 : Nat) (1 : Nat) fun j => [SV.int IntKind.u64 (b.high.getD j (0 : Int))]]) ∧ ((sm ((16 : Nat)) ∧ sm ((1
    : Nat)) ∧ ∀ (i : Nat), i < (16 : Nat) → sm (b.low.getD i (0 : Int)) ∧ True) ∧ (sm ((16 : Nat)) ∧ sm ((1 : Nat)) ∧ ∀ (i : Nat), i < (16 : Nat) → sm (b.high.getD i
    (0 : Int)) ∧ True) ∧ True) ∧ ((if false = true then [] else List.map Seg.shape ([Seg.a (16 : Nat) (1 : Nat) fun x => [SV.int IntKind.u64 (0 : Int)]] ++ ([Seg.a (16
    : Nat) (1 : Nat) fun x => [SV.int IntKind.u64 (0 : Int)]] ++ []))) = if false = true then [] else List.map Seg.shape ([Seg.a (16 : Nat) (1 : Nat) fun x => [SV.int
    IntKind.u64 (0 : Int)]] ++ ([Seg.a (16 : Nat) (1 : Nat) fun x => [SV.int IntKind.u64 (0 : Int)]] ++ []))) ∧ ((sm ((16 : Nat)) ∧ sm ((1 : Nat)) ∧ ∀ (i : Nat), i <
    (16 : Nat) → sm ((0 : Int)) ∧ True) ∧ (sm ((16 : Nat)) ∧ sm ((1 : Nat)) ∧ ∀ (i : Nat), i < (16 : Nat) → sm ((0 : Int)) ∧ True) ∧ True) ∧ True) ∧ ∀ (n : Int) (l l_1
    : List Int), DotI (lv a) (overL a b) n (0 : Int) l l_1 → True ∧ (decide (n < (16 : Int)) = true → True ∧ (DotI (lv a) (overL a b) n (0 : Int) (rowL (codI IntKind.u64)
    (16 : Nat) fun j => (codI IntKind.u64).enc (l.getD j (codI IntKind.u64).dft)) (rowL (codI IntKind.u64) (16 : Nat) fun j => (codI IntKind.u64).enc (l_1.getD j (codI
    IntKind.u64).dft)) ∧ (((sm ((16 : Nat)) ∧ sm ((1 : Nat)) ∧ ∀ (i : Nat), i < (16 : Nat) → sm (a.low.getD i (0 : Int)) ∧ True) ∧ (sm ((16 : Nat)) ∧ sm ((1 : Nat))
    ∧ ∀ (i : Nat), i < (16 : Nat) → sm (a.high.getD i (0 : Int)) ∧ True) ∧ True) ∧ ((sm ((16 : Nat)) ∧ sm ((1 : Nat)) ∧ ∀ (i : Nat), i < (16 : Nat) → sm (b.low.getD
    i (0 : Int)) ∧ True) ∧ (sm ((16 : Nat)) ∧ sm ((1 : Nat)) ∧ ∀ (i : Nat), i < (16 : Nat) → sm (b.high.getD i (0 : Int)) ∧ True) ∧ True) ∧ True ∧ True ∧ True ∧ n =
    n ∧ sm ((0 : Int)) ∧ True ∧ n = n ∧ True ∧ True ∧ True ∧ True ∧ True ∧ True ∧ True ∧ True ∧ True ∧ True ∧ True ∧ True ∧ True ∧ True ∧ True ∧ True ∧ True ∧ True ∧
    True ∧ True) ∧ ((if false = true then [] else List.map Seg.shape [Seg.a (16 : Nat) (1 : Nat) fun j => [SV.int IntKind.u64 (a.low.getD j (0 : Int))], Seg.a (16 :
    Nat) (1 : Nat) fun j => [SV.int IntKind.u64 (a.high.getD j (0 : Int))]]) = if false = true then [] else List.map Seg.shape [Seg.a (16 : Nat) (1 : Nat) fun j => [SV.int
    IntKind.u64 (a.low.getD j (0 : Int))], Seg.a (16 : Nat) (1 : Nat) fun j => [SV.int IntKind.u64 (a.high.getD j (0 : Int))]]) ∧ ((sm ((16 : Nat)) ∧ sm ((codI IntKind.u64).n)
    ∧ ∀ (i : Nat), i < (16 : Nat) → l.getD i (codI IntKind.u64).dft = (rowL (codI IntKind.u64) (16 : Nat) fun j => (codI IntKind.u64).enc (l.getD j (codI IntKind.u64).dft)).getD
    i (codI IntKind.u64).dft ∧ True) ∧ (sm ((16 : Nat)) ∧ sm ((codI IntKind.u64).n) ∧ ∀ (i : Nat), i < (16 : Nat) → l_1.getD i (codI IntKind.u64).dft = (rowL (codI IntKind.u64)
    (16 : Nat) fun j => (codI IntKind.u64).enc (l_1.getD j (codI IntKind.u64).dft)).getD i (codI IntKind.u64).dft ∧ True) ∧ True) ∧ ((if false = true then [] else List.map
    Seg.shape [Seg.a (16 : Nat) (1 : Nat) fun j => [SV.int IntKind.u64 (b.low.getD j (0 : Int))], Seg.a (16 : Nat) (1 : Nat) fun j => [SV.int IntKind.u64 (b.high.getD
    j (0 : Int))]]) = if false = true then [] else List.map Seg.shape [Seg.a (16 : Nat) (1 : Nat) fun j => [SV.int IntKind.u64 (b.low.getD j (0 : Int))], Seg.a (16 :
    Nat) (1 : Nat) fun j => [SV.int IntKind.u64 (b.high.getD j (0 : Int))]]) ∧ ((sm ((16 : Nat)) ∧ sm ((1 : Nat)) ∧ ∀ (i : Nat), i < (16 : Nat) → sm (b.low.getD i (0
    : Int)) ∧ True) ∧ (sm ((16 : Nat)) ∧ sm ((1 : Nat)) ∧ ∀ (i : Nat), i < (16 : Nat) → sm (b.high.getD i (0 : Int)) ∧ True) ∧ True) ∧ ((if false = true then [] else
    List.map Seg.shape ([Seg.a (16 : Nat) (1 : Nat) fun x => [SV.int IntKind.u64 (0 : Int)]] ++ ([Seg.a (16 : Nat) (1 : Nat) fun x => [SV.int IntKind.u64 (0 : Int)]]
    ++ []))) = if false = true then [] else List.map Seg.shape ([Seg.a (16 : Nat) (1 : Nat) fun x => [SV.int IntKind.u64 (0 : Int)]] ++ ([Seg.a (16 : Nat) (1 : Nat)
    fun x => [SV.int IntKind.u64 (0 : Int)]] ++ []))) ∧ ((sm ((16 : Nat)) ∧ sm ((1 : Nat)) ∧ ∀ (i : Nat), i < (16 : Nat) → sm ((0 : Int)) ∧ True) ∧ (sm ((16 : Nat))
    ∧ sm ((1 : Nat)) ∧ ∀ (i : Nat), i < (16 : Nat) → sm ((0 : Int)) ∧ True) ∧ True) ∧ True) ∧ ∀ (n_1 : Int) (l l_2 : List Int), DotI (lv a) (overL a b) n n_1 l l_2 →
    True ∧ (decide (n_1 < (64 : Int)) = true → (t16 ∧ t16 ∧ True) ∧ True ∧ True ∧ ((((∀ (i : Nat), i < (16 : Nat) → true = true ∧ True) ∧ ∀ (i : Nat), i < (16 : Nat)
    → true = true ∧ True) ∧ True ∧ True) ∧ okF { low := rr b.low, high := rr b.high : Fr }) ∧ True ∧ True ∧ (decide (getS { low := rr b.low, high := rr b.high : Fr }
    n_1 n > (0 : Int)) = true → (t16 ∧ t16 ∧ True) ∧ True ∧ True ∧ True ∧ ((((∀ (i : Nat), i < (16 : Nat) → true = true ∧ True) ∧ ∀ (i : Nat), i < (16 : Nat) → true
    = true ∧ True) ∧ True ∧ True ∧ True) ∧ okF { low := rowL (codI IntKind.u64) (16 : Nat) fun j => (codI IntKind.u64).enc (l.getD j (codI IntKind.u64).dft), high := rowL (codI IntKind.u64) (16 : Nat) fun j => (codI IntKind.u64).enc (l_2.getD j (codI IntKind.u64).dft) : Fr })
    ∧ t16 ∧ t16 ∧ True ∧ True ∧ DotI (lv a) (overL a b) n (W (n_1 + (1 : Int))) (rr (setS { low := rowL (codI IntKind.u64) (16 : Nat) fun j => (codI IntKind.u64).enc (l.getD j (codI IntKind.u64).dft), high := rowL (codI IntKind.u64) (16 : Nat) fun j => (codI IntKind.u64).enc (l_2.getD j (codI IntKind.u64).dft) : Fr }
    n_1 n (getS { low := rr b.low, high := rr b.high : Fr } n_1 n)).low) (rr (setS { low := rowL (codI IntKind.u64) (16 : Nat) fun j => (codI IntKind.u64).enc (l.getD j (codI IntKind.u64).dft), high := rowL (codI IntKind.u64) (16 : Nat) fun j => (codI IntKind.u64).enc (l_2.getD j (codI IntKind.u64).dft) : Fr }
    n_1 n (getS { low := rr b.low, high := rr b.high : Fr } n_1 n)).high) ∧ ((64 : Int) - W (n_1 + (1 : Int))).toNat < ((64 : Int) - n_1).toNat ∧ (((sm ((16 : Nat))
    ∧ sm ((1 : Nat)) ∧ ∀ (i : Nat), i < (16 : Nat) → sm (a.low.getD i (0 : Int)) ∧ True) ∧ (sm ((16 : Nat)) ∧ sm ((1 : Nat)) ∧ ∀ (i : Nat), i < (16 : Nat) → sm (a.high.getD
    i (0 : Int)) ∧ True) ∧ True) ∧ ((sm ((16 : Nat)) ∧ sm ((1 : Nat)) ∧ ∀ (i : Nat), i < (16 : Nat) → sm (b.low.getD i (0 : Int)) ∧ True) ∧ (sm ((16 : Nat)) ∧ sm ((1
    : Nat)) ∧ ∀ (i : Nat), i < (16 : Nat) → sm (b.high.getD i (0 : Int)) ∧ True) ∧ True) ∧ True ∧ True ∧ True ∧ n = n ∧ sm (W (n_1 + (1 : Int))) ∧ True ∧ n = n ∧ True
    ∧ True ∧ True ∧ True ∧ True ∧ True ∧ True ∧ True ∧ True ∧ True ∧ True ∧ True ∧ True ∧ True ∧ True ∧ True ∧ True ∧ True ∧ True ∧ True) ∧ ((if false = true then []
    else List.map Seg.shape [Seg.a (16 : Nat) (1 : Nat) fun j => [SV.int IntKind.u64 (a.low.getD j (0 : Int))], Seg.a (16 : Nat) (1 : Nat) fun j => [SV.int IntKind.u64
    (a.high.getD j (0 : Int))]]) = if false = true then [] else List.map Seg.shape [Seg.a (16 : Nat) (1 : Nat) fun j => [SV.int IntKind.u64 (a.low.getD j (0 : Int))],
    Seg.a (16 : Nat) (1 : Nat) fun j => [SV.int IntKind.u64 (a.high.getD j (0 : Int))]]) ∧ ((sm ((16 : Nat)) ∧ (1 : Nat) = (codI IntKind.u64).n ∧ ∀ (i : Nat), i < (16
    : Nat) → (setS { low := rowL (codI IntKind.u64) (16 : Nat) fun j => (codI IntKind.u64).enc (l.getD j (codI IntKind.u64).dft), high := rowL (codI IntKind.u64) (16 : Nat) fun j => (codI IntKind.u64).enc (l_2.getD j (codI IntKind.u64).dft) : Fr }
    n_1 n (getS { low := rr b.low, high := rr b.high : Fr } n_1 n)).low.getD i (0 : Int) = (rr (setS { low := rowL (codI IntKind.u64) (16 : Nat) fun j => (codI IntKind.u64).enc (l.getD j (codI IntKind.u64).dft), high := rowL (codI IntKind.u64) (16 : Nat) fun j => (codI IntKind.u64).enc (l_2.getD j (codI IntKind.u64).dft) : Fr }
    n_1 n (getS { low := rr b.low, high := rr b.high : Fr } n_1 n)).low).getD i (codI IntKind.u64).dft ∧ True) ∧ (sm ((16 : Nat)) ∧ (1 : Nat) = (codI IntKind.u64).n
    ∧ ∀ (i : Nat), i < (16 : Nat) → (setS { low := rowL (codI IntKind.u64) (16 : Nat) fun j => (codI IntKind.u64).enc (l.getD j (codI IntKind.u64).dft), high := rowL (codI IntKind.u64) (16 : Nat) fun j => (codI IntKind.u64).enc (l_2.getD j (codI IntKind.u64).dft) : Fr }
    n_1 n (getS { low := rr b.low, high := rr b.high : Fr } n_1 n)).high.getD i (0 : Int) = (rr (setS { low := rowL (codI IntKind.u64) (16 : Nat) fun j => (codI IntKind.u64).enc (l.getD j (codI IntKind.u64).dft), high := rowL (codI IntKind.u64) (16 : Nat) fun j => (codI IntKind.u64).enc (l_2.getD j (codI IntKind.u64).dft) : Fr }
    n_1 n (getS { low := rr b.low, high := rr b.high : Fr } n_1 n)).high).getD i (codI IntKind.u64).dft ∧ True) ∧ True) ∧ ((if false = true then [] else List.map Seg.shape
    [Seg.a (16 : Nat) (1 : Nat) fun j => [SV.int IntKind.u64 (b.low.getD j (0 : Int))], Seg.a (16 : Nat) (1 : Nat) fun j => [SV.int IntKind.u64 (b.high.getD j (0 : Int))]])
    = if false = true then [] else List.map Seg.shape [Seg.a (16 : Nat) (1 : Nat) fun j => [SV.int IntKind.u64 (b.low.getD j (0 : Int))], Seg.a (16 : Nat) (1 : Nat)
    fun j => [SV.int IntKind.u64 (b.high.getD j (0 : Int))]]) ∧ ((sm ((16 : Nat)) ∧ sm ((1 : Nat)) ∧ ∀ (i : Nat), i < (16 : Nat) → sm (b.low.getD i (0 : Int)) ∧ True)
    ∧ (sm ((16 : Nat)) ∧ sm ((1 : Nat)) ∧ ∀ (i : Nat), i < (16 : Nat) → sm (b.high.getD i (0 : Int)) ∧ True) ∧ True) ∧ ((if false = true then [] else List.map Seg.shape
    ([Seg.a (16 : Nat) (1 : Nat) fun x => [SV.int IntKind.u64 (0 : Int)]] ++ ([Seg.a (16 : Nat) (1 : Nat) fun x => [SV.int IntKind.u64 (0 : Int)]] ++ []))) = if false
    = true then [] else List.map Seg.shape ([Seg.a (16 : Nat) (1 : Nat) fun x => [SV.int IntKind.u64 (0 : Int)]] ++ ([Seg.a (16 : Nat) (1 : Nat) fun x => [SV.int IntKind.u64
    (0 : Int)]] ++ []))) ∧ ((sm ((16 : Nat)) ∧ sm ((1 : Nat)) ∧ ∀ (i : Nat), i < (16 : Nat) → sm ((0 : Int)) ∧ True) ∧ (sm ((16 : Nat)) ∧ sm ((1 : Nat)) ∧ ∀ (i : Nat),
    i < (16 : Nat) → sm ((0 : Int)) ∧ True) ∧ True) ∧ True) ∧ (decide (getS { low := rr b.low, high := rr b.high : Fr } n_1 n > (0 : Int)) = false → True ∧ DotI (lv
    a) (overL a b) n (W (n_1 + (1 : Int))) (rowL (codI IntKind.u64) (16 : Nat) fun j => (codI IntKind.u64).enc (l.getD j (codI IntKind.u64).dft)) (rowL (codI IntKind.u64)
    (16 : Nat) fun j => (codI IntKind.u64).enc (l_2.getD j (codI IntKind.u64).dft)) ∧ ((64 : Int) - W (n_1 + (1 : Int))).toNat < ((64 : Int) - n_1).toNat ∧ (((sm ((16
    : Nat)) ∧ sm ((1 : Nat)) ∧ ∀ (i : Nat), i < (16 : Nat) → sm (a.low.getD i (0 : Int)) ∧ True) ∧ (sm ((16 : Nat)) ∧ sm ((1 : Nat)) ∧ ∀ (i : Nat), i < (16 : Nat) →
    sm (a.high.getD i (0 : Int)) ∧ True) ∧ True) ∧ ((sm ((16 : Nat)) ∧ sm ((1 : Nat)) ∧ ∀ (i : Nat), i < (16 : Nat) → sm (b.low.getD i (0 : Int)) ∧ True) ∧ (sm ((16
    : Nat)) ∧ sm ((1 : Nat)) ∧ ∀ (i : Nat), i < (16 : Nat) → sm (b.high.getD i (0 : Int)) ∧ True) ∧ True) ∧ True ∧ True ∧ True ∧ n = n ∧ sm (W (n_1 + (1 : Int))) ∧ True
    ∧ n = n ∧ True ∧ True ∧ True ∧ True ∧ True ∧ True ∧ True ∧ True ∧ True ∧ True ∧ True ∧ True ∧ True ∧ True ∧ True ∧ True ∧ True ∧ True ∧ True ∧ True) ∧ ((if false
    = true then [] else List.map Seg.shape [Seg.a (16 : Nat) (1 : Nat) fun j => [SV.int IntKind.u64 (a.low.getD j (0 : Int))], Seg.a (16 : Nat) (1 : Nat) fun j => [SV.int
    IntKind.u64 (a.high.getD j (0 : Int))]]) = if false = true then [] else List.map Seg.shape [Seg.a (16 : Nat) (1 : Nat) fun j => [SV.int IntKind.u64 (a.low.getD j
    (0 : Int))], Seg.a (16 : Nat) (1 : Nat) fun j => [SV.int IntKind.u64 (a.high.getD j (0 : Int))]]) ∧ ((sm ((16 : Nat)) ∧ sm ((codI IntKind.u64).n) ∧ ∀ (i : Nat),
    i < (16 : Nat) → l.getD i (codI IntKind.u64).dft = (rowL (codI IntKind.u64) (16 : Nat) fun j => (codI IntKind.u64).enc (l.getD j (codI IntKind.u64).dft)).getD i
    (codI IntKind.u64).dft ∧ True) ∧ (sm ((16 : Nat)) ∧ sm ((codI IntKind.u64).n) ∧ ∀ (i : Nat), i < (16 : Nat) → l_2.getD i (codI IntKind.u64).dft = (rowL (codI IntKind.u64)
    (16 : Nat) fun j => (codI IntKind.u64).enc (l_2.getD j (codI IntKind.u64).dft)).getD i (codI IntKind.u64).dft ∧ True) ∧ True) ∧ ((if false = true then [] else List.map
    Seg.shape [Seg.a (16 : Nat) (1 : Nat) fun j => [SV.int IntKind.u64 (b.low.getD j (0 : Int))], Seg.a (16 : Nat) (1 : Nat) fun j => [SV.int IntKind.u64 (b.high.getD
    j (0 : Int))]]) = if false = true then [] else List.map Seg.shape [Seg.a (16 : Nat) (1 : Nat) fun j => [SV.int IntKind.u64 (b.low.getD j (0 : Int))], Seg.a (16 :
    Nat) (1 : Nat) fun j => [SV.int IntKind.u64 (b.high.getD j (0 : Int))]]) ∧ ((sm ((16 : Nat)) ∧ sm ((1 : Nat)) ∧ ∀ (i : Nat), i < (16 : Nat) → sm (b.low.getD i (0
    : Int)) ∧ True) ∧ (sm ((16 : Nat)) ∧ sm ((1 : Nat)) ∧ ∀ (i : Nat), i < (16 : Nat) → sm (b.high.getD i (0 : Int)) ∧ True) ∧ True) ∧ ((if false = true then [] else
    List.map Seg.shape ([Seg.a (16 : Nat) (1 : Nat) fun x => [SV.int IntKind.u64 (0 : Int)]] ++ ([Seg.a (16 : Nat) (1 : Nat) fun x => [SV.int IntKind.u64 (0 : Int)]]
    ++ []))) = if false = true then [] else List.map Seg.shape ([Seg.a (16 : Nat) (1 : Nat) fun x => [SV.int IntKind.u64 (0 : Int)]] ++ ([Seg.a (16 : Nat) (1 : Nat)
    fun x => [SV.int IntKind.u64 (0 : Int)]] ++ []))) ∧ ((sm ((16 : Nat)) ∧ sm ((1 : Nat)) ∧ ∀ (i : Nat), i < (16 : Nat) → sm ((0 : Int)) ∧ True) ∧ (sm ((16 : Nat))
    ∧ sm ((1 : Nat)) ∧ ∀ (i : Nat), i < (16 : Nat) → sm ((0 : Int)) ∧ True) ∧ True) ∧ True)) ∧ (decide (n_1 < (64 : Int)) = false → True ∧ DotI (lv a) (overL a b) (W
    (n + (1 : Int))) (0 : Int) (rowL (codI IntKind.u64) (16 : Nat) fun j => (codI IntKind.u64).enc (l.getD j (codI IntKind.u64).dft)) (rowL (codI IntKind.u64) (16 :
    Nat) fun j => (codI IntKind.u64).enc (l_2.getD j (codI IntKind.u64).dft)) ∧ ((16 : Int) - W (n + (1 : Int))).toNat < ((16 : Int) - n).toNat ∧ (((sm ((16 : Nat))
    ∧ sm ((1 : Nat)) ∧ ∀ (i : Nat), i < (16 : Nat) → sm (a.low.getD i (0 : Int)) ∧ True) ∧ (sm ((16 : Nat)) ∧ sm ((1 : Nat)) ∧ ∀ (i : Nat), i < (16 : Nat) → sm (a.high.getD
    i (0 : Int)) ∧ True) ∧ True) ∧ ((sm ((16 : Nat)) ∧ sm ((1 : Nat)) ∧ ∀ (i : Nat), i < (16 : Nat) → sm (b.low.getD i (0 : Int)) ∧ True) ∧ (sm ((16 : Nat)) ∧ sm ((1
    : Nat)) ∧ ∀ (i : Nat), i < (16 : Nat) → sm (b.high.getD i (0 : Int)) ∧ True) ∧ True) ∧ True ∧ True ∧ True ∧ sm (W (n + (1 : Int))) ∧ True ∧ True ∧ True ∧ True ∧
    True ∧ True ∧ True ∧ True ∧ True ∧ True ∧ True ∧ True ∧ True ∧ True ∧ True ∧ True ∧ True ∧ True ∧ True ∧ True ∧ True ∧ True ∧ True) ∧ ((if false = true then [] else
    List.map Seg.shape [Seg.a (16 : Nat) (1 : Nat) fun j => [SV.int IntKind.u64 (a.low.getD j (0 : Int))], Seg.a (16 : Nat) (1 : Nat) fun j => [SV.int IntKind.u64 (a.high.getD
    j (0 : Int))]]) = if false = true then [] else List.map Seg.shape [Seg.a (16 : Nat) (1 : Nat) fun j => [SV.int IntKind.u64 (a.low.getD j (0 : Int))], Seg.a (16 :
    Nat) (1 : Nat) fun j => [SV.int IntKind.u64 (a.high.getD j (0 : Int))]]) ∧ ((sm ((16 : Nat)) ∧ sm ((codI IntKind.u64).n) ∧ ∀ (i : Nat), i < (16 : Nat) → l.getD i
    (codI IntKind.u64).dft = (rowL (codI IntKind.u64) (16 : Nat) fun j => (codI IntKind.u64).enc (l.getD j (codI IntKind.u64).dft)).getD i (codI IntKind.u64).dft ∧ True)
    ∧ (sm ((16 : Nat)) ∧ sm ((codI IntKind.u64).n) ∧ ∀ (i : Nat), i < (16 : Nat) → l_2.getD i (codI IntKind.u64).dft = (rowL (codI IntKind.u64) (16 : Nat) fun j => (codI
    IntKind.u64).enc (l_2.getD j (codI IntKind.u64).dft)).getD i (codI IntKind.u64).dft ∧ True) ∧ True) ∧ ((if false = true then [] else List.map Seg.shape [Seg.a (16
    : Nat) (1 : Nat) fun j => [SV.int IntKind.u64 (b.low.getD j (0 : Int))], Seg.a (16 : Nat) (1 : Nat) fun j => [SV.int IntKind.u64 (b.high.getD j (0 : Int))]]) = if
    false = true then [] else List.map Seg.shape [Seg.a (16 : Nat) (1 : Nat) fun j => [SV.int IntKind.u64 (b.low.getD j (0 : Int))], Seg.a (16 : Nat) (1 : Nat) fun j
    => [SV.int IntKind.u64 (b.high.getD j (0 : Int))]]) ∧ ((sm ((16 : Nat)) ∧ sm ((1 : Nat)) ∧ ∀ (i : Nat), i < (16 : Nat) → sm (b.low.getD i (0 : Int)) ∧ True) ∧ (sm
    ((16 : Nat)) ∧ sm ((1 : Nat)) ∧ ∀ (i : Nat), i < (16 : Nat) → sm (b.high.getD i (0 : Int)) ∧ True) ∧ True) ∧ ((if false = true then [] else List.map Seg.shape ([Seg.a
    (16 : Nat) (1 : Nat) fun x => [SV.int IntKind.u64 (0 : Int)]] ++ ([Seg.a (16 : Nat) (1 : Nat) fun x => [SV.int IntKind.u64 (0 : Int)]] ++ []))) = if false = true
    then [] else List.map Seg.shape ([Seg.a (16 : Nat) (1 : Nat) fun x => [SV.int IntKind.u64 (0 : Int)]] ++ ([Seg.a (16 : Nat) (1 : Nat) fun x => [SV.int IntKind.u64
    (0 : Int)]] ++ []))) ∧ ((sm ((16 : Nat)) ∧ sm ((1 : Nat)) ∧ ∀ (i : Nat), i < (16 : Nat) → sm ((0 : Int)) ∧ True) ∧ (sm ((16 : Nat)) ∧ sm ((1 : Nat)) ∧ ∀ (i : Nat),
    i < (16 : Nat) → sm ((0 : Int)) ∧ True) ∧ True) ∧ True)) ∧ (decide (n < (16 : Int)) = false → t16 ∧ t16 ∧ True ∧ (t16 ∧ t16 ∧ True) ∧ ((sm ((16 : Nat)) ∧ (0 : Nat)
    + (1 : Nat) = (1 : Nat) ∧ ∀ (i : Nat), i < (16 : Nat) → l.getD i (codI IntKind.u64).dft = (overS a b).low.getD i (0 : Int) ∧ True) ∧ (sm ((16 : Nat)) ∧ (0 : Nat)
    + (1 : Nat) = (1 : Nat) ∧ ∀ (i : Nat), i < (16 : Nat) → l_1.getD i (codI IntKind.u64).dft = (overS a b).high.getD i (0 : Int) ∧ True) ∧ True) ∧ True)) = vc36 a b := by kernel_rfl
section
variable {F : Fr} {L : Nat → Nat → Int} {n : Int} {lo hi : List Int}
theorem RowI_keep (hI : RowI F L n lo hi) (h1 : n < 16) (hv : F.low.getD n.toNat 0 = (mkL L).low.getD n.toNat 0) (hw : F.high.getD n.toNat 0 = (mkL L).high.getD n.toNat 0) : RowI F L (n + 1) lo hi := by
  simp only [RowI] at hI ⊢
  obtain ⟨a1, a2, a3, a4, a5⟩ := hI
  refine ⟨by omega, by omega, a3, a4, fun y hy => ?_⟩
  obtain ⟨b1, b2⟩ := a5 y hy
  rw [b1, b2]
  by_cases e2 : (y : Int) < n
  · rw [if_pos e2, if_pos e2, if_pos (by omega), if_pos (by omega)]; exact ⟨rfl, rfl⟩
  · by_cases e3 : y = n.toNat
    · subst e3; rw [if_neg e2, if_neg e2, if_pos (by omega), if_pos (by omega)]; exact ⟨hv, hw⟩
    · rw [if_neg e2, if_neg e2, if_neg (by omega), if_neg (by omega)]; exact ⟨rfl, rfl⟩
end
theorem bit_slide {r dx : Int} {j : Nat} (hj : j < 64) : bit (slideS r dx) j = (decide (0 ≤ (j : Int) - dx ∧ (j : Int) - dx < 64) && bit r ((j : Int) - dx).toNat) := by
  simp only [slideS, bit_ofB _ hj]
theorem slide_isU (r dx : Int) : isU (slideS r dx) := by simp only [slideS]; exact ofB_isU _
theorem mix_isU (a b s : Int) : isU (mixS a b s) := by simp only [mixS]; exact ofB_isU _
theorem bit_mix {a b s : Int} {j : Nat} (hj : j < 64) : bit (mixS a b s) j = if bit s j then bit b j else bit a j := by
  simp only [mixS, bit_ofB _ hj]
theorem k47 : TabOK Try.prog T47 := fn_tabA k31 hm Try.func47 (by kernel_rfl) (by kernel_rfl) sUI.ok (by kernel_rfl) (fun _ => []) fun a hp => by
  have h : vc47 a.1 a.2 := by
    rw [← vc47_eq]
    obtain ⟨r, dx⟩ := a
    obtain ⟨h1, h2, h3⟩ := hp
    dsimp only at h1 h2 h3 ⊢
    have hW : W (-dx) = -dx := W_id (by omega) (by omega)
    simp [-List.getD_eq_getElem?_getD, W_def, hW]
    refine ⟨fun h => ⟨h, ?_⟩, fun h => ⟨by omega, ?_⟩⟩
    · refine bit_ext (wrap_isU _) (slide_isU _ _) fun j hj => ?_
      rw [Nat.min_eq_left (by omega), bit_shl h1 _ hj, bit_slide hj]
      by_cases e : dx.toNat ≤ j
      · have e2 : 0 ≤ (j : Int) - dx ∧ (j : Int) - dx < 64 := by omega
        have e3 : ((j : Int) - dx).toNat = j - dx.toNat := by omega
        rw [e3, decide_eq_true e, decide_eq_true e2]
      · have e2 : ¬ (0 ≤ (j : Int) - dx ∧ (j : Int) - dx < 64) := by omega
        rw [decide_eq_false e, decide_eq_false e2]; rfl
    · refine bit_ext (div_isU h1 _) (slide_isU _ _) fun j hj => ?_
      rw [Nat.min_eq_left (by omega), bit_div h1, bit_slide hj]
      have e3 : ((j : Int) - dx).toNat = (-dx).toNat + j := by omega
      rw [e3]
      by_cases e2 : 0 ≤ (j : Int) - dx ∧ (j : Int) - dx < 64
      · rw [decide_eq_true e2]; rfl
      · rw [bit_ge _ (by omega)]; simp
  exact h
theorem k42 : TabOK Try.prog T42 := fn_tabA k47 hm Try.func42 (by kernel_rfl) (by kernel_rfl) sUUU.ok (by kernel_rfl) (fun _ => []) fun a hp => by
  have h : vc42 a.1 a.2.1 a.2.2 := by
    rw [← vc42_eq]
    obtain ⟨a, b, s⟩ := a
    simp [-List.getD_eq_getElem?_getD, W_def]
    refine bit_ext (bits_isU _ _ _) (mix_isU _ _ _) fun j hj => ?_
    rw [bit_or, bit_andNot _ _ hj, bit_and, bit_mix hj]
    cases bit s j <;> simp
  exact h
theorem getS_l (f : Fr) (x y : Int) : decide (getS f x y = 1 ∨ getS f x y = 3) = (isD x y && lb f y.toNat x.toNat) := by
  simp only [getS]
  cases isD x y
  · rfl
  · simp only [if_true, Bool.true_and]; exact (lb_lv _ _ _).symm
theorem getS_h (f : Fr) (x y : Int) : decide (2 ≤ getS f x y) = (isD x y && hb f y.toNat x.toNat) := by
  simp only [getS]
  cases isD x y
  · rfl
  · simp only [if_true, Bool.true_and]; exact (hb_lv _ _ _).symm
theorem getS_bd (f : Fr) (x y : Int) : 0 ≤ getS f x y ∧ getS f x y ≤ 3 := by
  simp only [getS]; split
  · exact lv_bd _ _ _
  · omega
theorem shift_in {dx dy n : Int} {j : Nat} (hj : j < 64) (h0 : 0 ≤ n) (h1 : n < 16) (hd : isD 0 (n - clp dy (-16) 16) = true) :
    n - dy = n - clp dy (-16) 16 ∧ (decide (0 ≤ (j : Int) - clp dx (-64) 64 ∧ (j : Int) - clp dx (-64) 64 < 64)) = isD ((j : Int) - dx) (n - dy) ∧ (isD ((j : Int) - dx) (n - dy) = true → (j : Int) - clp dx (-64) 64 = (j : Int) - dx) := by
  have hd := isD_iff.1 hd
  have key : ∀ c : Int, clp dx (-64) 64 = c → (decide (0 ≤ (j : Int) - c ∧ (j : Int) - c < 64)) = isD ((j : Int) - dx) (n - dy) ∧ (isD ((j : Int) - dx) (n - dy) = true → (j : Int) - c = (j : Int) - dx) := fun c hc => by
    simp only [clp] at hd hc
    simp only [isD, decide_eq_true_eq]
    exact ⟨decide_eq_decide.2 (by omega), by omega⟩
  refine ⟨by simp only [clp] at hd ⊢; omega, key _ rfl⟩
theorem shift_low {f : Fr} (h : okF f) {dx dy n : Int} (h0 : 0 ≤ n) (h1 : n < 16) (hd : isD 0 (n - clp dy (-16) 16) = true) : slideS (f.low.getD (n - clp dy (-16) 16).toNat 0) (clp dx (-64) 64) = (mkL (shiftL f dx dy)).low.getD n.toNat 0 := by
  refine low_eq (by omega) (slide_isU _ _) fun j hj => ?_
  obtain ⟨e1, e2, e3⟩ := shift_in (dx := dx) hj h0 h1 hd
  rw [bit_slide hj]
  simp only [shiftL]
  rw [getS_l, e2, Int.toNat_of_nonneg h0, ← e1, lb_def]
  cases hb : isD ((j : Int) - dx) (n - dy)
  · rfl
  · rw [e3 hb]
theorem shift_high {f : Fr} (h : okF f) {dx dy n : Int} (h0 : 0 ≤ n) (h1 : n < 16) (hd : isD 0 (n - clp dy (-16) 16) = true) : slideS (f.high.getD (n - clp dy (-16) 16).toNat 0) (clp dx (-64) 64) = (mkL (shiftL f dx dy)).high.getD n.toNat 0 := by
  refine high_eq (by omega) (slide_isU _ _) fun j hj => ?_
  obtain ⟨e1, e2, e3⟩ := shift_in (dx := dx) hj h0 h1 hd
  rw [bit_slide hj]
  simp only [shiftL]
  rw [getS_h, e2, Int.toNat_of_nonneg h0, ← e1, hb_def]
  cases hb : isD ((j : Int) - dx) (n - dy)
  · rfl
  · rw [e3 hb]
theorem shift_out {f : Fr} {dx dy n : Int} (h0 : 0 ≤ n) (h1 : n < 16) (hd : isD 0 (n - clp dy (-16) 16) = false) (j : Nat) : shiftL f dx dy n.toNat j = 0 := by
  have hd' : ¬ isD 0 (n - clp dy (-16) 16) = true := by rw [hd]; decide
  rw [isD_iff] at hd'
  have e : isD ((j : Int) - dx) (n - dy) = false := by
    apply Bool.eq_false_iff.2
    intro h
    have := isD_iff.1 h
    simp only [clp] at hd'
    omega
  simp only [shiftL, getS, Int.toNat_of_nonneg h0, e]
  rfl
theorem k34 : TabOK Try.prog T34 := fn_tabA k42 hm Try.func34 (by kernel_rfl) (by kernel_rfl) sFII.ok (by kernel_rfl) (fun a => A1 14 2 zeroF (shiftL a.1 a.2.1 a.2.2)) fun a hp => by
  have h : vc34 a.1 a.2.1 a.2.2 := by
    rw [← vc34_eq]
    obtain ⟨f, dx, dy⟩ := a
    dsimp only at hp ⊢
    obtain ⟨l1, l2⟩ := okF_len hp
    simp [-List.getD_eq_getElem?_getD, W_def, rr_eq l1, rr_eq l2]
    have hc : -64 ≤ clp dx (-64) 64 ∧ clp dx (-64) 64 ≤ 64 := by simp only [clp]; omega
    have hc2 : -16 ≤ clp dy (-16) 16 ∧ clp dy (-16) 16 ≤ 16 := by simp only [clp]; omega
    refine ⟨⟨RowI_zero zeroF_ok, fun i hi => (z16_at i).symm⟩, fun n lo hi hI => ⟨fun h1 => ?_, fun h1 => ?_⟩⟩
    · obtain ⟨i0, i1, i2, i3, i4, -, -⟩ := RowI_facts hI h1
      have hW : W (n - clp dy (-16) 16) = n - clp dy (-16) 16 := W_id (by omega) (by omega)
      rw [hW, setU i2, setU i3, i4, selfU i2, selfU i3]
      refine ⟨fun hd => ?_, fun hd => ?_⟩
      · have hd2 := isD_iff.1 hd
        have hy : (n - clp dy (-16) 16).toNat < 16 := by omega
        exact ⟨hd2.2.2, hd2.2.2.2, ⟨ok_low hp hy, hc⟩, hd2.2.2, hd2.2.2.2, ⟨ok_high hp hy, hc⟩, ⟨i0, h1⟩, h1, ⟨i0, h1⟩, h1, RowI_next hI h1 (shift_low hp i0 h1 hd) (shift_high hp i0 h1 hd), by omega,
          fun i hi => (getU_set (by omega)).symm, fun i hi => (getU_set (by omega)).symm⟩
      · refine ⟨RowI_keep hI h1 ?_ ?_, by omega, fun _ _ => rfl, fun _ _ => rfl⟩
        · refine low_eq i1 (ok_low zeroF_ok i1) fun j hj => ?_
          rw [shift_out i0 h1 hd, lb_def, lb_lv, lv_zero]
        · refine high_eq i1 (ok_high zeroF_ok i1) fun j hj => ?_
          rw [shift_out i0 h1 hd, hb_def, hb_lv, lv_zero]
    · have := RowI_end hI h1
      simpa only [shiftS] using this
  exact h
theorem rr_def (l : List Int) : (rowL (codI IntKind.u64) (16 : Nat) fun j => [SV.int IntKind.u64 (l.getD j (0 : Int))]) = rr l := rfl
theorem shift_far {f : Fr} {dx dy : Int} (h : dx ≤ -64 ∨ 64 ≤ dx ∨ dy ≤ -16 ∨ 16 ≤ dy) : (∀ i, i < 16 → 0 = (shiftS f dx dy).low.getD i 0) ∧ ∀ i, i < 16 → 0 = (shiftS f dx dy).high.getD i 0 := by
  have e : ∀ y x : Nat, y < 16 → x < 64 → shiftL f dx dy y x = 0 := fun y x hy hx => by
    have : isD ((x : Int) - dx) ((y : Int) - dy) = false := by
      apply Bool.eq_false_iff.2
      intro h
      have := isD_iff.1 h
      omega
    simp only [shiftL, getS, this]; rfl
  simp only [shiftS]
  exact ⟨fun i hi => low_eq hi isU_zero fun j hj => by rw [e i j hi hj, bit_zero]; rfl, fun i hi => high_eq hi isU_zero fun j hj => by rw [e i j hi hj, bit_zero]; rfl⟩
theorem lvS_id {n : Int} (h : 0 ≤ n ∧ n ≤ 3) : lvS n = n := by simp only [lvS]; omega
theorem shift_lev (f : Fr) (dx dy : Int) : lev (shiftL f dx dy) := fun b a => by simp only [shiftL]; exact getS_bd _ _ _
theorem DotI_keep {F L : Nat → Nat → Int} {y x : Int} {lo hi : List Int} (hI : DotI F L y x lo hi) (hy : y < 16) (hx : x < 64) (h : L y.toNat x.toNat = F y.toNat x.toNat) : DotI F L y (x + 1) lo hi := by
  simp only [DotI] at hI ⊢
  obtain ⟨a1, a2, a3, a4, a5, a6, a7⟩ := hI
  refine ⟨a1, a2, by omega, by omega, a5, a6, ?_⟩
  rw [a7]
  refine mkL_congr fun b a hb ha => ?_
  simp only [preL]
  by_cases e : a = x.toNat ∧ b = y.toNat
  · obtain ⟨rfl, rfl⟩ := e
    rw [if_neg (by omega), if_pos (by omega), h]
  · by_cases e2 : (b : Int) < y ∨ ((b : Int) = y ∧ (a : Int) < x)
    · rw [if_pos e2, if_pos (by omega)]
    · rw [if_neg e2, if_neg (by omega)]
theorem k35 : TabOK Try.prog T35 := fn_tabA k34 hm Try.func35 (by kernel_rfl) (by kernel_rfl) sFII.ok (by kernel_rfl) (fun a => A2 8 9 2 (lv zeroF) (shiftL a.1 a.2.1 a.2.2)) fun a hp => by
  have h : vc35 a.1 a.2.1 a.2.2 := by
    rw [← vc35_eq]
    obtain ⟨f, dx, dy⟩ := a
    dsimp only at hp ⊢
    obtain ⟨l1, l2⟩ := okF_len hp
    simp [-List.getD_eq_getElem?_getD, W_def, rr_eq l1, rr_eq l2, rr_def]
    refine ⟨fun h => shift_far (by omega), fun b1 => ⟨fun h => shift_far (by omega), fun b2 => ⟨fun h => shift_far (by omega), fun b3 => ⟨fun h => shift_far (by omega), fun b4 => ⟨⟨DotI_zero zeroF_ok, fun i hi => (z16_at i).symm⟩, fun y lo hi hI => ⟨fun h1 => ?_, fun h1 => ?_⟩⟩⟩⟩⟩⟩
    · obtain ⟨a1, a2, a3, a4, a5, a6, a8⟩ := DotI_facts hI
      rw [rr_eq a5, rr_eq a6]
      refine ⟨⟨hI, fun _ _ => rfl, fun _ _ => rfl⟩, fun x lo hi hI => ⟨fun h2 => ?_, fun h2 => ?_⟩⟩
      · obtain ⟨a1, a2, a3, a4, a5, a6, a8⟩ := DotI_facts hI
        have hW : W (x + 1) = x + 1 := W_id (by omega) (by omega)
        have hW2 : W (x - dx) = x - dx := W_id (by omega) (by omega)
        have hW3 : W (y - dy) = y - dy := W_id (by omega) (by omega)
        rw [rr_eq a5, rr_eq a6, hW, hW2, hW3]
        have ok := okF_len (setS_ok a8 x y (getS f (x - dx) (y - dy)))
        rw [rr_eq ok.1, rr_eq ok.2]
        exact ⟨hp, a8, DotI_set hI h1 h2 (lv_lev _) (shift_lev _ _ _) (by rw [lvS_id (getS_bd _ _ _)]; simp only [shiftL, Int.toNat_of_nonneg a1, Int.toNat_of_nonneg a3]), by omega, fun _ _ => rfl, fun _ _ => rfl⟩
      · obtain ⟨a1, a2, a3, a4, a5, a6, a8⟩ := DotI_facts hI
        have hW : W (y + 1) = y + 1 := W_id (by omega) (by omega)
        rw [rr_eq a5, rr_eq a6, hW]
        exact ⟨DotI_row hI h1 h2, by omega, fun _ _ => rfl, fun _ _ => rfl⟩
    · have := DotI_end hI h1
      simp only [shiftS, ← this]
      exact ⟨fun _ _ => trivial, fun _ _ => trivial⟩
  exact h
theorem over_bits (b1 b2 a1 a2 : Bool) : (if (b1 || b2) then b1 else a1) = decide ((if 0 < lvOf b1 b2 then lvOf b1 b2 else lvOf a1 a2) = 1 ∨ (if 0 < lvOf b1 b2 then lvOf b1 b2 else lvOf a1 a2) = 3) ∧ (if (b1 || b2) then b2 else a2) = decide (2 ≤ (if 0 < lvOf b1 b2 then lvOf b1 b2 else lvOf a1 a2)) := by revert b1 b2 a1 a2; decide
theorem over_low (a b : Fr) {i : Nat} (hi : i < 16) : mixS (a.low.getD i 0) (b.low.getD i 0) (bits .or .u64 (b.low.getD i 0) (b.high.getD i 0)) = (mkL (overL a b)).low.getD i 0 := by
  refine low_eq hi (mix_isU _ _ _) fun j hj => ?_
  rw [bit_mix hj, bit_or, lb_def, lb_def, hb_def]
  simp only [overL, lv]
  exact (over_bits _ _ _ _).1
theorem over_high (a b : Fr) {i : Nat} (hi : i < 16) : mixS (a.high.getD i 0) (b.high.getD i 0) (bits .or .u64 (b.low.getD i 0) (b.high.getD i 0)) = (mkL (overL a b)).high.getD i 0 := by
  refine high_eq hi (mix_isU _ _ _) fun j hj => ?_
  rw [bit_mix hj, bit_or, lb_def, hb_def, hb_def]
  simp only [overL, lv]
  exact (over_bits _ _ _ _).2
theorem over_lev (a b : Fr) : lev (overL a b) := fun y x => by simp only [overL]; split <;> exact lv_bd _ _ _
theorem k33 : TabOK Try.prog T33 := fn_tabA k35 hm Try.func33 (by kernel_rfl) (by kernel_rfl) sFF.ok (by kernel_rfl) (fun a => A1 7 0 a.1 (overL a.1 a.2)) fun a hp => by
  have h : vc33 a.1 a.2 := by
    rw [← vc33_eq]
    obtain ⟨a, b⟩ := a
    dsimp only at hp ⊢
    obtain ⟨l1, l2⟩ := okF_len hp.1
    obtain ⟨l3, l4⟩ := okF_len hp.2
    simp [-List.getD_eq_getElem?_getD, W_def, rr_eq l1, rr_eq l2, rr_eq l3, rr_eq l4, rr_def]
    refine ⟨RowI_zero hp.1, fun n lo hi hI => ⟨fun h1 => ?_, fun h1 => ?_⟩⟩
    · obtain ⟨i0, i1, i2, i3, i4, i5, i6⟩ := RowI_facts hI h1
      rw [setU i2, setU i3, i4, i5, i6]
      have u1 := ok_low hp.1 i1
      have u2 := ok_low hp.2 i1
      have u3 := ok_high hp.1 i1
      have u4 := ok_high hp.2 i1
      have u5 := bits_isU .or (b.low.getD n.toNat 0) (b.high.getD n.toNat 0)
      exact ⟨⟨i0, h1⟩, h1, ⟨i0, h1⟩, h1, ⟨i0, h1⟩, h1, ⟨i0, h1⟩, h1, ⟨i0, h1⟩, h1, ⟨i0, h1⟩, h1, ⟨i0, h1⟩, h1, ⟨i0, h1⟩, h1, RowI_next hI h1 (over_low a b i1) (over_high a b i1), by omega, fun i hi => (getU_set (by omega)).symm, fun i hi => (getU_set (by omega)).symm⟩
    · have := RowI_end hI h1
      simpa only [overS] using this
  exact h
theorem k36 : TabOK Try.prog T36 := fn_tabA k33 hm Try.func36 (by kernel_rfl) (by kernel_rfl) sFF.ok (by kernel_rfl) (fun a => A2 5 6 0 (lv a.1) (overL a.1 a.2)) fun a hp => by
  have h : vc36 a.1 a.2 := by
    rw [← vc36_eq]
    obtain ⟨a, b⟩ := a
    dsimp only at hp ⊢
    obtain ⟨l1, l2⟩ := okF_len hp.1
    obtain ⟨l3, l4⟩ := okF_len hp.2
    simp [-List.getD_eq_getElem?_getD, W_def, rr_eq l1, rr_eq l2, rr_eq l3, rr_eq l4, rr_def]
    refine ⟨DotI_zero hp.1, fun y lo hi hI => ⟨fun h1 => ?_, fun h1 => ?_⟩⟩
    · obtain ⟨a1, a2, a3, a4, a5, a6, a8⟩ := DotI_facts hI
      rw [rr_eq a5, rr_eq a6]
      refine ⟨⟨hI, fun _ _ => rfl, fun _ _ => rfl⟩, fun x lo hi hI => ⟨fun h2 => ⟨hp.2, fun h3 => ?_, fun h3 => ?_⟩, fun h2 => ?_⟩⟩
      · obtain ⟨a1, a2, a3, a4, a5, a6, a8⟩ := DotI_facts hI
        have hW : W (x + 1) = x + 1 := W_id (by omega) (by omega)
        rw [rr_eq a5, rr_eq a6, hW]
        have ok := okF_len (setS_ok a8 x y (getS b x y))
        rw [rr_eq ok.1, rr_eq ok.2]
        have hd : isD x y = true := isD_iff.2 ⟨a3, h2, a1, h1⟩
        have e : getS b x y = lv b y.toNat x.toNat := by simp [getS, hd]
        exact ⟨a8, DotI_set hI h1 h2 (lv_lev _) (over_lev _ _) (by rw [lvS_id (getS_bd _ _ _)]; simp only [overL]; rw [← e, if_pos h3]), by omega, fun _ _ => rfl, fun _ _ => rfl⟩
      · obtain ⟨a1, a2, a3, a4, a5, a6, a8⟩ := DotI_facts hI
        have hW : W (x + 1) = x + 1 := W_id (by omega) (by omega)
        rw [rr_eq a5, rr_eq a6, hW]
        have hd : isD x y = true := isD_iff.2 ⟨a3, h2, a1, h1⟩
        have e : getS b x y = lv b y.toNat x.toNat := by simp [getS, hd]
        exact ⟨DotI_keep hI h1 h2 (by simp only [overL]; rw [← e, if_neg (by have h3' : getS b x y ≤ 0 := h3; omega)]), by omega, fun _ _ => rfl, fun _ _ => rfl⟩
      · obtain ⟨a1, a2, a3, a4, a5, a6, a8⟩ := DotI_facts hI
        have hW : W (y + 1) = y + 1 := W_id (by omega) (by omega)
        rw [rr_eq a5, rr_eq a6, hW]
        exact ⟨DotI_row hI h1 h2, by omega, fun _ _ => rfl, fun _ _ => rfl⟩
    · have := DotI_end hI h1
      simp only [overS, ← this]
      exact ⟨fun _ _ => trivial, fun _ _ => trivial⟩
  exact h
end Go.Proofs.Do
