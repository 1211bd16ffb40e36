import Derived.Test.YtkpgbnchidjapaaNvI
namespace Go.Proofs.Nv
set_option linter.unusedVariables false
set_option linter.unusedSimpArgs false
open Go Go.Sx Go.Proofs
set_option maxRecDepth 100000
set_option maxHeartbeats 4000000
-- ABBR: IntKind.i64.wrap ==> W
/-- A memory after one change, after all. -/
def chg1 (m : List Int) (a : Bit) : List Int := m.set (if a.pos % 3 = 0 then a.pos / 3 % 2 * 1031 + a.pos / 6 % 12 else a.pos % 2062).toNat (if a.pos % 5 = 0 then a.val % 5 else a.val)
def chgL (m : Bs) (l : List Bit) : List Int := l.foldl chg1 (m.map fun b => (b.toNat : Int))
def chgS (m : Bs) (l : List Bit) : Bs := bys (chgL m (l.take 20))
abbrev XJ := Int × List Int
def J14 (m : Bs) (l : List Bit) (x : XJ) : Prop := 0 ≤ x.1 ∧ x.1 ≤ 20 ∧ x.1 ≤ l.length ∧ x.2 = chgL m (l.take x.1.toNat)
attribute [irreducible] chg1 chgL chgS J14
def sSB := Sig.cons argS (Sig.one (argR codBit))
def cChg : Ctr := ctr sSB.dec (fun a => a.1.length = 2062 ∧ a.2.length ≤ 9223372036854775807 ∧ ∀ b ∈ a.2, codBitW b) (fun a => .str (chgS a.1 a.2))
noncomputable def A14 (m : Bs) (l : List Bit) : List Ann := [⟨.unit, .list [.int .i64 (.tm 6), .arrL (codI .u8) m.length 0 0], fun _ (x : XJ) => J14 m l x, fun _ (x : XJ) => (20 - x.1).toNat⟩]
noncomputable def T14 : List (Nat × Ctr) := (14, cChg) :: T15
noncomputable def vc14 (m : Bs) (l : List Bit) : Prop := cva T15 Try.f14 (A14 m l) [.str m, encR codBit l] (.str (chgS m l))
theorem vc14_eq (m : Bs) (l : List Bit) : (True ∧ True ∧ True ∧ (J14 m l ((0 : Int), rowL (codI IntKind.u8) (List.length m) (byteSV m)) ∧ (m = m ∧ (l.length = l.length ∧ ∀ (i : Nat), i < l.length → (l.getD
    i codBit.dft).pos = (l.getD i codBit.dft).pos ∧ (l.getD i codBit.dft).val = (l.getD i codBit.dft).val ∧ True) ∧ True ∧ True ∧ Eq (α := List UInt8) (Array.toList
    #[]) (Array.toList #[]) ∧ ((0 : Nat) = (0 : Nat) ∧ List.length m = List.length m) ∧ (0 : Int) = (0 : Int) ∧ True ∧ m = m ∧ ((0 : Nat) = (0 : Nat) ∧ List.length m
    = List.length m) ∧ True ∧ True ∧ True ∧ True ∧ True ∧ True ∧ True ∧ True ∧ True ∧ True ∧ True ∧ True ∧ True ∧ True ∧ True ∧ True ∧ True ∧ True ∧ True ∧ True ∧ True
    ∧ True ∧ True ∧ True ∧ True ∧ True ∧ True ∧ True ∧ True ∧ True ∧ True ∧ True ∧ True ∧ True ∧ True ∧ True ∧ True ∧ True ∧ True ∧ True ∧ True ∧ True ∧ True ∧ True
    ∧ True ∧ True ∧ True ∧ True ∧ True ∧ True ∧ True ∧ True ∧ True ∧ True ∧ True ∧ True ∧ True ∧ True ∧ True ∧ True ∧ True ∧ True ∧ True ∧ True ∧ True ∧ True ∧ True
    ∧ True ∧ True ∧ True ∧ True) ∧ ((if true = true then [] else List.map Seg.shape [Seg.a (List.length m) (1 : Nat) (byteSV m)]) = if true = true then [] else List.map
    Seg.shape [Seg.a (List.length m) (1 : Nat) (byteSV m)]) ∧ ((List.length m = List.length m ∧ (1 : Nat) = (codI IntKind.u8).n ∧ ∀ (i : Nat), i < List.length m → ↑(List.getD
    m i (0 : UInt8)).toNat = (rowL (codI IntKind.u8) (List.length m) (byteSV m)).getD i (codI IntKind.u8).dft ∧ True) ∧ True) ∧ True) ∧ ∀ (n : Int) (l_1 : List Int),
    J14 m l (n, l_1) → (decide (n < ↑l.length) = true → True ∧ (decide (n < (20 : Int)) = true → ((0 : Int) ≤ n ∧ n < ↑l.length) ∧ ↑(List.length m) ≠ (0 : Int) ∧ True
    ∧ ((0 : Int) ≤ n ∧ n < ↑l.length) ∧ (3 : Int) ≠ (0 : Int) ∧ True ∧ (((l.getD n.toNat codBit.dft).pos.tmod (3 : Int) == (0 : Int)) = true → ((0 : Int) ≤ n ∧ n < ↑l.length)
    ∧ (3 : Int) ≠ (0 : Int) ∧ (2 : Int) ≠ (0 : Int) ∧ ((0 : Int) ≤ n ∧ n < ↑l.length) ∧ (6 : Int) ≠ (0 : Int) ∧ (12 : Int) ≠ (0 : Int) ∧ IsT true ∧ ((0 : Int) ≤ n ∧
    n < ↑l.length) ∧ ((0 : Int) ≤ W (W ((W ((W (l.getD n.toNat codBit.dft).pos).tdiv (3 : Int))).tmod (2 : Int) * (1031 : Int)) + (W ((W (l.getD n.toNat codBit.dft).pos).tdiv
    (6 : Int))).tmod (12 : Int)) ∧ W (W ((W ((W (l.getD n.toNat codBit.dft).pos).tdiv (3 : Int))).tmod (2 : Int) * (1031 : Int)) + (W ((W (l.getD n.toNat codBit.dft).pos).tdiv
    (6 : Int))).tmod (12 : Int)) < ↑(List.length m)) ∧ (0 : Nat) + (W (W ((W ((W (l.getD n.toNat codBit.dft).pos).tdiv (3 : Int))).tmod (2 : Int) * (1031 : Int)) + (W
    ((W (l.getD n.toNat codBit.dft).pos).tdiv (6 : Int))).tmod (12 : Int))).toNat < List.length m ∧ True ∧ ((0 : Int) ≤ n ∧ n < ↑l.length) ∧ (5 : Int) ≠ (0 : Int) ∧
    True ∧ (((l.getD n.toNat codBit.dft).pos.tmod (5 : Int) == (0 : Int)) = true → ((0 : Int) ≤ n ∧ n < ↑l.length) ∧ (5 : Int) ≠ (0 : Int) ∧ ((0 : Int) ≤ W (W ((W ((W
    (l.getD n.toNat codBit.dft).pos).tdiv (3 : Int))).tmod (2 : Int) * (1031 : Int)) + (W ((W (l.getD n.toNat codBit.dft).pos).tdiv (6 : Int))).tmod (12 : Int)) ∧ W
    (W ((W ((W (l.getD n.toNat codBit.dft).pos).tdiv (3 : Int))).tmod (2 : Int) * (1031 : Int)) + (W ((W (l.getD n.toNat codBit.dft).pos).tdiv (6 : Int))).tmod (12 :
    Int)) < ↑(List.length m)) ∧ (0 : Nat) + (W (W ((W ((W (l.getD n.toNat codBit.dft).pos).tdiv (3 : Int))).tmod (2 : Int) * (1031 : Int)) + (W ((W (l.getD n.toNat codBit.dft).pos).tdiv
    (6 : Int))).tmod (12 : Int))).toNat < List.length m ∧ True ∧ True ∧ J14 m l (W (n + (1 : Int)), rowL (codI IntKind.u8) (List.length m) fun i' => mergeL (decide (i'
    = (0 : Nat) + (W (W ((W ((W (l.getD n.toNat codBit.dft).pos).tdiv (3 : Int))).tmod (2 : Int) * (1031 : Int)) + (W ((W (l.getD n.toNat codBit.dft).pos).tdiv (6 :
    Int))).tmod (12 : Int))).toNat)) (setL (mergeL (decide ((0 : Nat) + (W (W ((W ((W (l.getD n.toNat codBit.dft).pos).tdiv (3 : Int))).tmod (2 : Int) * (1031 : Int))
    + (W ((W (l.getD n.toNat codBit.dft).pos).tdiv (6 : Int))).tmod (12 : Int))).toNat = (0 : Nat) + (W (W ((W ((W (l.getD n.toNat codBit.dft).pos).tdiv (3 : Int))).tmod
    (2 : Int) * (1031 : Int)) + (W ((W (l.getD n.toNat codBit.dft).pos).tdiv (6 : Int))).tmod (12 : Int))).toNat)) (setL ((codI IntKind.u8).enc (l_1.getD ((0 : Nat)
    + (W (W ((W ((W (l.getD n.toNat codBit.dft).pos).tdiv (3 : Int))).tmod (2 : Int) * (1031 : Int)) + (W ((W (l.getD n.toNat codBit.dft).pos).tdiv (6 : Int))).tmod
    (12 : Int))).toNat) (codI IntKind.u8).dft)) (0 : Nat) [SV.int IntKind.u8 (l.getD n.toNat codBit.dft).val]) ((codI IntKind.u8).enc (l_1.getD ((0 : Nat) + (W (W ((W
    ((W (l.getD n.toNat codBit.dft).pos).tdiv (3 : Int))).tmod (2 : Int) * (1031 : Int)) + (W ((W (l.getD n.toNat codBit.dft).pos).tdiv (6 : Int))).tmod (12 : Int))).toNat)
    (codI IntKind.u8).dft))) (0 : Nat) [SV.int IntKind.u8 ((l.getD n.toNat codBit.dft).val.tmod (5 : Int))]) (mergeL (decide (i' = (0 : Nat) + (W (W ((W ((W (l.getD
    n.toNat codBit.dft).pos).tdiv (3 : Int))).tmod (2 : Int) * (1031 : Int)) + (W ((W (l.getD n.toNat codBit.dft).pos).tdiv (6 : Int))).tmod (12 : Int))).toNat)) (setL
    ((codI IntKind.u8).enc (l_1.getD ((0 : Nat) + (W (W ((W ((W (l.getD n.toNat codBit.dft).pos).tdiv (3 : Int))).tmod (2 : Int) * (1031 : Int)) + (W ((W (l.getD n.toNat
    codBit.dft).pos).tdiv (6 : Int))).tmod (12 : Int))).toNat) (codI IntKind.u8).dft)) (0 : Nat) [SV.int IntKind.u8 (l.getD n.toNat codBit.dft).val]) ((codI IntKind.u8).enc
    (l_1.getD i' (codI IntKind.u8).dft)))) ∧ ((20 : Int) - W (n + (1 : Int))).toNat < ((20 : Int) - n).toNat ∧ (m = m ∧ (l.length = l.length ∧ ∀ (i : Nat), i < l.length
    → (l.getD i codBit.dft).pos = (l.getD i codBit.dft).pos ∧ (l.getD i codBit.dft).val = (l.getD i codBit.dft).val ∧ True) ∧ True ∧ True ∧ Eq (α := List UInt8) (Array.toList
    #[]) (Array.toList #[]) ∧ ((0 : Nat) = (0 : Nat) ∧ List.length m = List.length m) ∧ W (n + (1 : Int)) = W (n + (1 : Int)) ∧ True ∧ m = m ∧ ((0 : Nat) = (0 : Nat)
    ∧ List.length m = List.length m) ∧ True ∧ True ∧ True ∧ True ∧ True ∧ True ∧ True ∧ True ∧ True ∧ True ∧ True ∧ True ∧ True ∧ True ∧ True ∧ True ∧ True ∧ True ∧
    True ∧ True ∧ True ∧ True ∧ True ∧ True ∧ True ∧ True ∧ True ∧ True ∧ True ∧ True ∧ True ∧ True ∧ True ∧ True ∧ True ∧ True ∧ True ∧ True ∧ True ∧ True ∧ True ∧
    True ∧ True ∧ True ∧ True ∧ True ∧ True ∧ True ∧ True ∧ True ∧ True ∧ True ∧ True ∧ True ∧ True ∧ True ∧ True ∧ True ∧ True ∧ True ∧ True ∧ True ∧ True ∧ True ∧
    True ∧ True ∧ True ∧ True ∧ True ∧ True ∧ True) ∧ ((if true = true then [] else List.map Seg.shape [Seg.a (List.length m) (1 : Nat) (byteSV m)]) = if true = true
    then [] else List.map Seg.shape [Seg.a (List.length m) (1 : Nat) (byteSV m)]) ∧ ((List.length m = List.length m ∧ (0 : Nat) + (1 : Nat) = (codI IntKind.u8).n ∧ ∀
    (i : Nat), i < List.length m → (if decide (i = (0 : Nat) + (W (W ((W ((W (l.getD n.toNat codBit.dft).pos).tdiv (3 : Int))).tmod (2 : Int) * (1031 : Int)) + (W ((W
    (l.getD n.toNat codBit.dft).pos).tdiv (6 : Int))).tmod (12 : Int))).toNat) = true then (l.getD n.toNat codBit.dft).val.tmod (5 : Int) else if decide (i = (0 : Nat)
    + (W (W ((W ((W (l.getD n.toNat codBit.dft).pos).tdiv (3 : Int))).tmod (2 : Int) * (1031 : Int)) + (W ((W (l.getD n.toNat codBit.dft).pos).tdiv (6 : Int))).tmod
    (12 : Int))).toNat) = true then (l.getD n.toNat codBit.dft).val else l_1.getD i (codI IntKind.u8).dft) = (rowL (codI IntKind.u8) (List.length m) fun i' => mergeL
    (decide (i' = (0 : Nat) + (W (W ((W ((W (l.getD n.toNat codBit.dft).pos).tdiv (3 : Int))).tmod (2 : Int) * (1031 : Int)) + (W ((W (l.getD n.toNat codBit.dft).pos).tdiv
    (6 : Int))).tmod (12 : Int))).toNat)) (setL (mergeL (decide ((0 : Nat) + (W (W ((W ((W (l.getD n.toNat codBit.dft).pos).tdiv (3 : Int))).tmod (2 : Int) * (1031 :
    Int)) + (W ((W (l.getD n.toNat codBit.dft).pos).tdiv (6 : Int))).tmod (12 : Int))).toNat = (0 : Nat) + (W (W ((W ((W (l.getD n.toNat codBit.dft).pos).tdiv (3 : Int))).tmod
    (2 : Int) * (1031 : Int)) + (W ((W (l.getD n.toNat codBit.dft).pos).tdiv (6 : Int))).tmod (12 : Int))).toNat)) (setL ((codI IntKind.u8).enc (l_1.getD ((0 : Nat)
    + (W (W ((W ((W (l.getD n.toNat codBit.dft).pos).tdiv (3 : Int))).tmod (2 : Int) * (1031 : Int)) + (W ((W (l.getD n.toNat codBit.dft).pos).tdiv (6 : Int))).tmod
    (12 : Int))).toNat) (codI IntKind.u8).dft)) (0 : Nat) [SV.int IntKind.u8 (l.getD n.toNat codBit.dft).val]) ((codI IntKind.u8).enc (l_1.getD ((0 : Nat) + (W (W ((W
    ((W (l.getD n.toNat codBit.dft).pos).tdiv (3 : Int))).tmod (2 : Int) * (1031 : Int)) + (W ((W (l.getD n.toNat codBit.dft).pos).tdiv (6 : Int))).tmod (12 : Int))).toNat)
    (codI IntKind.u8).dft))) (0 : Nat) [SV.int IntKind.u8 ((l.getD n.toNat codBit.dft).val.tmod (5 : Int))]) (mergeL (decide (i' = (0 : Nat) + (W (W ((W ((W (l.getD
    n.toNat codBit.dft).pos).tdiv (3 : Int))).tmod (2 : Int) * (1031 : Int)) + (W ((W (l.getD n.toNat codBit.dft).pos).tdiv (6 : Int))).tmod (12 : Int))).toNat)) (setL
    ((codI IntKind.u8).enc (l_1.getD ((0 : Nat) + (W (W ((W ((W (l.getD n.toNat codBit.dft).pos).tdiv (3 : Int))).tmod (2 : Int) * (1031 : Int)) + (W ((W (l.getD n.toNat
    codBit.dft).pos).tdiv (6 : Int))).tmod (12 : Int))).toNat) (codI IntKind.u8).dft)) (0 : Nat) [SV.int IntKind.u8 (l.getD n.toNat codBit.dft).val]) ((codI IntKind.u8).enc
    (l_1.getD i' (codI IntKind.u8).dft)))).getD i (codI IntKind.u8).dft ∧ True) ∧ True) ∧ True) ∧ (((l.getD n.toNat codBit.dft).pos.tmod (5 : Int) == (0 : Int)) = false
    → True ∧ J14 m l (W (n + (1 : Int)), rowL (codI IntKind.u8) (List.length m) fun i' => mergeL (decide (i' = (0 : Nat) + (W (W ((W ((W (l.getD n.toNat codBit.dft).pos).tdiv
    (3 : Int))).tmod (2 : Int) * (1031 : Int)) + (W ((W (l.getD n.toNat codBit.dft).pos).tdiv (6 : Int))).tmod (12 : Int))).toNat)) (setL ((codI IntKind.u8).enc (l_1.getD
    ((0 : Nat) + (W (W ((W ((W (l.getD n.toNat codBit.dft).pos).tdiv (3 : Int))).tmod (2 : Int) * (1031 : Int)) + (W ((W (l.getD n.toNat codBit.dft).pos).tdiv (6 : Int))).tmod
    (12 : Int))).toNat) (codI IntKind.u8).dft)) (0 : Nat) [SV.int IntKind.u8 (l.getD n.toNat codBit.dft).val]) ((codI IntKind.u8).enc (l_1.getD i' (codI IntKind.u8).dft)))
    ∧ ((20 : Int) - W (n + (1 : Int))).toNat < ((20 : Int) - n).toNat ∧ (m = m ∧ (l.length = l.length ∧ ∀ (i : Nat), i < l.length → (l.getD i codBit.dft).pos = (l.getD
    i codBit.dft).pos ∧ (l.getD i codBit.dft).val = (l.getD i codBit.dft).val ∧ True) ∧ True ∧ True ∧ Eq (α := List UInt8) (Array.toList #[]) (Array.toList #[]) ∧ ((0
    : Nat) = (0 : Nat) ∧ List.length m = List.length m) ∧ W (n + (1 : Int)) = W (n + (1 : Int)) ∧ True ∧ m = m ∧ ((0 : Nat) = (0 : Nat) ∧ List.length m = List.length
    m) ∧ True ∧ True ∧ True ∧ True ∧ True ∧ True ∧ True ∧ True ∧ True ∧ True ∧ True ∧ True ∧ True ∧ True ∧ True ∧ True ∧ True ∧ True ∧ True ∧ True ∧ True ∧ True ∧ True
    ∧ True ∧ True ∧ True ∧ True ∧ True ∧ True ∧ True ∧ True ∧ True ∧ True ∧ True ∧ True ∧ True ∧ True ∧ True ∧ True ∧ True ∧ True ∧ True ∧ True ∧ True ∧ True ∧ True
    ∧ True ∧ True ∧ True ∧ True ∧ True ∧ True ∧ True ∧ True ∧ True ∧ True ∧ True ∧ True ∧ True ∧ True ∧ True ∧ True ∧ True ∧ True ∧ True ∧ True ∧ True ∧ True ∧ True
    ∧ True ∧ True) ∧ ((if true = true then [] else List.map Seg.shape [Seg.a (List.length m) (1 : Nat) (byteSV m)]) = if true = true then [] else List.map Seg.shape
    [Seg.a (List.length m) (1 : Nat) (byteSV m)]) ∧ ((List.length m = List.length m ∧ (0 : Nat) + (1 : Nat) = (codI IntKind.u8).n ∧ ∀ (i : Nat), i < List.length m →
    (if decide (i = (0 : Nat) + (W (W ((W ((W (l.getD n.toNat codBit.dft).pos).tdiv (3 : Int))).tmod (2 : Int) * (1031 : Int)) + (W ((W (l.getD n.toNat codBit.dft).pos).tdiv
    (6 : Int))).tmod (12 : Int))).toNat) = true then (l.getD n.toNat codBit.dft).val else l_1.getD i (codI IntKind.u8).dft) = (rowL (codI IntKind.u8) (List.length m)
    fun i' => mergeL (decide (i' = (0 : Nat) + (W (W ((W ((W (l.getD n.toNat codBit.dft).pos).tdiv (3 : Int))).tmod (2 : Int) * (1031 : Int)) + (W ((W (l.getD n.toNat
    codBit.dft).pos).tdiv (6 : Int))).tmod (12 : Int))).toNat)) (setL ((codI IntKind.u8).enc (l_1.getD ((0 : Nat) + (W (W ((W ((W (l.getD n.toNat codBit.dft).pos).tdiv
    (3 : Int))).tmod (2 : Int) * (1031 : Int)) + (W ((W (l.getD n.toNat codBit.dft).pos).tdiv (6 : Int))).tmod (12 : Int))).toNat) (codI IntKind.u8).dft)) (0 : Nat)
    [SV.int IntKind.u8 (l.getD n.toNat codBit.dft).val]) ((codI IntKind.u8).enc (l_1.getD i' (codI IntKind.u8).dft))).getD i (codI IntKind.u8).dft ∧ True) ∧ True) ∧
    True)) ∧ (((l.getD n.toNat codBit.dft).pos.tmod (3 : Int) == (0 : Int)) = false → ((0 : Int) ≤ n ∧ n < ↑l.length) ∧ ((0 : Int) ≤ (W (l.getD n.toNat codBit.dft).pos).tmod
    ↑(List.length m) ∧ (W (l.getD n.toNat codBit.dft).pos).tmod ↑(List.length m) < ↑(List.length m)) ∧ (0 : Nat) + ((W (l.getD n.toNat codBit.dft).pos).tmod ↑(List.length
    m)).toNat < List.length m ∧ True ∧ ((0 : Int) ≤ n ∧ n < ↑l.length) ∧ (5 : Int) ≠ (0 : Int) ∧ True ∧ (((l.getD n.toNat codBit.dft).pos.tmod (5 : Int) == (0 : Int))
    = true → ((0 : Int) ≤ n ∧ n < ↑l.length) ∧ (5 : Int) ≠ (0 : Int) ∧ ((0 : Int) ≤ (W (l.getD n.toNat codBit.dft).pos).tmod ↑(List.length m) ∧ (W (l.getD n.toNat codBit.dft).pos).tmod
    ↑(List.length m) < ↑(List.length m)) ∧ (0 : Nat) + ((W (l.getD n.toNat codBit.dft).pos).tmod ↑(List.length m)).toNat < List.length m ∧ True ∧ True ∧ J14 m l (W (n
    + (1 : Int)), rowL (codI IntKind.u8) (List.length m) fun i' => mergeL (decide (i' = (0 : Nat) + ((W (l.getD n.toNat codBit.dft).pos).tmod ↑(List.length m)).toNat))
    (setL (mergeL (decide ((0 : Nat) + ((W (l.getD n.toNat codBit.dft).pos).tmod ↑(List.length m)).toNat = (0 : Nat) + ((W (l.getD n.toNat codBit.dft).pos).tmod ↑(List.length
    m)).toNat)) (setL ((codI IntKind.u8).enc (l_1.getD ((0 : Nat) + ((W (l.getD n.toNat codBit.dft).pos).tmod ↑(List.length m)).toNat) (codI IntKind.u8).dft)) (0 : Nat)
    [SV.int IntKind.u8 (l.getD n.toNat codBit.dft).val]) ((codI IntKind.u8).enc (l_1.getD ((0 : Nat) + ((W (l.getD n.toNat codBit.dft).pos).tmod ↑(List.length m)).toNat)
    (codI IntKind.u8).dft))) (0 : Nat) [SV.int IntKind.u8 ((l.getD n.toNat codBit.dft).val.tmod (5 : Int))]) (mergeL (decide (i' = (0 : Nat) + ((W (l.getD n.toNat codBit.dft).pos).tmod
    ↑(List.length m)).toNat)) (setL ((codI IntKind.u8).enc (l_1.getD ((0 : Nat) + ((W (l.getD n.toNat codBit.dft).pos).tmod ↑(List.length m)).toNat) (codI IntKind.u8).dft))
    (0 : Nat) [SV.int IntKind.u8 (l.getD n.toNat codBit.dft).val]) ((codI IntKind.u8).enc (l_1.getD i' (codI IntKind.u8).dft)))) ∧ ((20 : Int) - W (n + (1 : Int))).toNat
    < ((20 : Int) - n).toNat ∧ (m = m ∧ (l.length = l.length ∧ ∀ (i : Nat), i < l.length → (l.getD i codBit.dft).pos = (l.getD i codBit.dft).pos ∧ (l.getD i codBit.dft).val
    = (l.getD i codBit.dft).val ∧ True) ∧ True ∧ True ∧ Eq (α := List UInt8) (Array.toList #[]) (Array.toList #[]) ∧ ((0 : Nat) = (0 : Nat) ∧ List.length m = List.length
    m) ∧ W (n + (1 : Int)) = W (n + (1 : Int)) ∧ True ∧ m = m ∧ ((0 : Nat) = (0 : Nat) ∧ List.length m = List.length m) ∧ True ∧ True ∧ True ∧ True ∧ True ∧ True ∧ True
    ∧ True ∧ True ∧ True ∧ True ∧ True ∧ True ∧ True ∧ True ∧ True ∧ True ∧ True ∧ True ∧ True ∧ True ∧ True ∧ True ∧ True ∧ True ∧ True ∧ True ∧ True ∧ True ∧ True
    ∧ True ∧ True ∧ True ∧ True ∧ True ∧ True ∧ True ∧ True ∧ True ∧ True ∧ True ∧ True ∧ True ∧ True ∧ True ∧ True ∧ True ∧ True ∧ True ∧ True ∧ True ∧ True ∧ True
    ∧ True ∧ True ∧ True ∧ True ∧ True ∧ True ∧ True ∧ True ∧ True ∧ True ∧ True ∧ True ∧ True ∧ True ∧ True ∧ True ∧ True ∧ True) ∧ ((if true = true then [] else List.map
    Seg.shape [Seg.a (List.length m) (1 : Nat) (byteSV m)]) = if true = true then [] else List.map Seg.shape [Seg.a (List.length m) (1 : Nat) (byteSV m)]) ∧ ((List.length
    m = List.length m ∧ (0 : Nat) + (1 : Nat) = (codI IntKind.u8).n ∧ ∀ (i : Nat), i < List.length m → (if decide (i = (0 : Nat) + ((W (l.getD n.toNat codBit.dft).pos).tmod
    ↑(List.length m)).toNat) = true then (l.getD n.toNat codBit.dft).val.tmod (5 : Int) else if decide (i = (0 : Nat) + ((W (l.getD n.toNat codBit.dft).pos).tmod ↑(List.length
    m)).toNat) = true then (l.getD n.toNat codBit.dft).val else l_1.getD i (codI IntKind.u8).dft) = (rowL (codI IntKind.u8) (List.length m) fun i' => mergeL (decide
    (i' = (0 : Nat) + ((W (l.getD n.toNat codBit.dft).pos).tmod ↑(List.length m)).toNat)) (setL (mergeL (decide ((0 : Nat) + ((W (l.getD n.toNat codBit.dft).pos).tmod
    ↑(List.length m)).toNat = (0 : Nat) + ((W (l.getD n.toNat codBit.dft).pos).tmod ↑(List.length m)).toNat)) (setL ((codI IntKind.u8).enc (l_1.getD ((0 : Nat) + ((W
    (l.getD n.toNat codBit.dft).pos).tmod ↑(List.length m)).toNat) (codI IntKind.u8).dft)) (0 : Nat) [SV.int IntKind.u8 (l.getD n.toNat codBit.dft).val]) ((codI IntKind.u8).enc
    (l_1.getD ((0 : Nat) + ((W (l.getD n.toNat codBit.dft).pos).tmod ↑(List.length m)).toNat) (codI IntKind.u8).dft))) (0 : Nat) [SV.int IntKind.u8 ((l.getD n.toNat
    codBit.dft).val.tmod (5 : Int))]) (mergeL (decide (i' = (0 : Nat) + ((W (l.getD n.toNat codBit.dft).pos).tmod ↑(List.length m)).toNat)) (setL ((codI IntKind.u8).enc
    (l_1.getD ((0 : Nat) + ((W (l.getD n.toNat codBit.dft).pos).tmod ↑(List.length m)).toNat) (codI IntKind.u8).dft)) (0 : Nat) [SV.int IntKind.u8 (l.getD n.toNat codBit.dft).val])
    ((codI IntKind.u8).enc (l_1.getD i' (codI IntKind.u8).dft)))).getD i (codI IntKind.u8).dft ∧ True) ∧ True) ∧ True) ∧ (((l.getD n.toNat codBit.dft).pos.tmod (5 :
    Int) == (0 : Int)) = false → True ∧ J14 m l (W (n + (1 : Int)), rowL (codI IntKind.u8) (List.length m) fun i' => mergeL (decide (i' = (0 : Nat) + ((W (l.getD n.toNat
    codBit.dft).pos).tmod ↑(List.length m)).toNat)) (setL ((codI IntKind.u8).enc (l_1.getD ((0 : Nat) + ((W (l.getD n.toNat codBit.dft).pos).tmod ↑(List.length m)).toNat)
    (codI IntKind.u8).dft)) (0 : Nat) [SV.int IntKind.u8 (l.getD n.toNat codBit.dft).val]) ((codI IntKind.u8).enc (l_1.getD i' (codI IntKind.u8).dft))) ∧ ((20 : Int)
    - W (n + (1 : Int))).toNat < ((20 : Int) - n).toNat ∧ (m = m ∧ (l.length = l.length ∧ ∀ (i : Nat), i < l.length → (l.getD i codBit.dft).pos = (l.getD i codBit.dft).pos
    ∧ (l.getD i codBit.dft).val = (l.getD i codBit.dft).val ∧ True) ∧ True ∧ True ∧ Eq (α := List UInt8) (Array.toList #[]) (Array.toList #[]) ∧ ((0 : Nat) = (0 : Nat)
    ∧ List.length m = List.length m) ∧ W (n + (1 : Int)) = W (n + (1 : Int)) ∧ True ∧ m = m ∧ ((0 : Nat) = (0 : Nat) ∧ List.length m = List.length m) ∧ True ∧ True ∧
    True ∧ True ∧ True ∧ True ∧ True ∧ True ∧ True ∧ True ∧ True ∧ True ∧ True ∧ True ∧ True ∧ True ∧ True ∧ True ∧ True ∧ True ∧ True ∧ True ∧ True ∧ True ∧ True ∧
    True ∧ True ∧ True ∧ True ∧ True ∧ True ∧ True ∧ True ∧ True ∧ True ∧ True ∧ True ∧ True ∧ True ∧ True ∧ True ∧ True ∧ True ∧ True ∧ True ∧ True ∧ True ∧ True ∧
    True ∧ True ∧ True ∧ True ∧ True ∧ True ∧ True ∧ True ∧ True ∧ True ∧ True ∧ True ∧ True ∧ True ∧ True ∧ True ∧ True ∧ True ∧ True ∧ True ∧ True ∧ True ∧ True) ∧
    ((if true = true then [] else List.map Seg.shape [Seg.a (List.length m) (1 : Nat) (byteSV m)]) = if true = true then [] else List.map Seg.shape [Seg.a (List.length
    m) (1 : Nat) (byteSV m)]) ∧ ((List.length m = List.length m ∧ (0 : Nat) + (1 : Nat) = (codI IntKind.u8).n ∧ ∀ (i : Nat), i < List.length m → (if decide (i = (0 :
    Nat) + ((W (l.getD n.toNat codBit.dft).pos).tmod ↑(List.length m)).toNat) = true then (l.getD n.toNat codBit.dft).val else l_1.getD i (codI IntKind.u8).dft) = (rowL
    (codI IntKind.u8) (List.length m) fun i' => mergeL (decide (i' = (0 : Nat) + ((W (l.getD n.toNat codBit.dft).pos).tmod ↑(List.length m)).toNat)) (setL ((codI IntKind.u8).enc
    (l_1.getD ((0 : Nat) + ((W (l.getD n.toNat codBit.dft).pos).tmod ↑(List.length m)).toNat) (codI IntKind.u8).dft)) (0 : Nat) [SV.int IntKind.u8 (l.getD n.toNat codBit.dft).val])
    ((codI IntKind.u8).enc (l_1.getD i' (codI IntKind.u8).dft))).getD i (codI IntKind.u8).dft ∧ True) ∧ True) ∧ True))) ∧ (decide (n < (20 : Int)) = false → (0 : Nat)
    + List.length m ≤ List.length m ∧ (∀ (j : Nat), j < List.length m → isByte ((fun (j : Nat) => (codI IntKind.u8).enc (l_1.getD j (codI IntKind.u8).dft)) ((0 : Nat)
    + j)) = true) ∧ True ∧ True ∧ (bytesOf (List.length m) fun i => (codI IntKind.u8).enc (l_1.getD ((0 : Nat) + i) (codI IntKind.u8).dft)) = chgS m l ∧ True)) ∧ (decide
    (n < ↑l.length) = false → True ∧ (0 : Nat) + List.length m ≤ List.length m ∧ (∀ (j : Nat), j < List.length m → isByte ((fun (j : Nat) => (codI IntKind.u8).enc (l_1.getD
    j (codI IntKind.u8).dft)) ((0 : Nat) + j)) = true) ∧ True ∧ True ∧ (bytesOf (List.length m) fun i => (codI IntKind.u8).enc (l_1.getD ((0 : Nat) + i) (codI IntKind.u8).dft))
    = chgS m l ∧ True)) = vc14 m l := by kernel_rfl
theorem u8_facts {n : Int} (h : (Lit.int .u8 n).wf = true) : 0 ≤ n ∧ n < 256 := by
  simp [Lit.wf, IntKind.min, IntKind.max, IntKind.signed, IntKind.bits] at h
  exact ⟨h.1, by omega⟩
theorem u16_facts {n : Int} (h : (Lit.int .u16 n).wf = true) : 0 ≤ n ∧ n < 65536 := by
  simp [Lit.wf, IntKind.min, IntKind.max, IntKind.signed, IntKind.bits] at h
  exact ⟨h.1, by omega⟩
theorem i64_facts {n : Int} (h : (Lit.int .i64 n).wf = true) : -9223372036854775808 ≤ n ∧ n < 9223372036854775808 := by
  simp [Lit.wf, IntKind.min, IntKind.max, IntKind.signed, IntKind.bits] at h
  exact ⟨h.1, by omega⟩
theorem row_set {n p : Nat} {v : Int} {l : List Int} {f : Nat → List SV} (hl : l.length = n) (hf : ∀ j, f j = [.int .u8 (if j = p then v else l.getD j 0)]) : rowL (codI .u8) n f = l.set p v := by
  refine List.ext_getElem (by simp [hl]) fun j h1 h2 => ?_
  have hj : j < n := by simpa using h1
  have e := recI hj (hf j)
  rw [List.getD_eq_getElem?_getD, List.getElem?_eq_getElem h1] at e
  simp only [Option.getD_some] at e
  rw [e, List.getElem_set]
  by_cases q : p = j
  · rw [if_pos q, if_pos q.symm]
  · rw [if_neg q, if_neg (fun h => q h.symm)]
    simp [List.getD_eq_getElem?_getD, hl, hj]
theorem bytes_bys {n : Nat} {l : List Int} (h : l.length = n) : (bytesOf n fun i => [SV.int IntKind.u8 (l.getD i 0)]) = bys l := by
  subst h
  refine List.ext_getElem (by simp [bytesOf, bys]) fun j h1 h2 => ?_
  have hj : j < l.length := by simpa [bys] using h2
  simp [bytesOf, bys, Sx.byteOf, List.getD_eq_getElem?_getD, hj]
theorem chg1_len (m : List Int) (a : Bit) : (chg1 m a).length = m.length := by simp [chg1]
theorem chgL_nil (m : Bs) : chgL m [] = m.map fun b => (b.toNat : Int) := by simp only [chgL, List.foldl_nil]
theorem chgL_push (m : Bs) (l : List Bit) (a : Bit) : chgL m (l ++ [a]) = chg1 (chgL m l) a := by simp only [chgL, List.foldl_append, List.foldl_cons, List.foldl_nil]
theorem chgL_len (m : Bs) (l : List Bit) : (chgL m l).length = m.length := by
  have : ∀ (l : List Bit) (k : List Int), (l.foldl chg1 k).length = k.length := by
    intro l
    induction l with
    | nil => intro k; rfl
    | cons a r ih => intro k; rw [List.foldl_cons, ih, chg1_len]
  simp only [chgL]
  rw [this, List.length_map]
theorem take_pushB {l : List Bit} {i : Nat} (h : i < l.length) : l.take i ++ [l.getD i ⟨0, 0⟩] = l.take (i + 1) := by
  rw [List.take_succ_eq_append_getElem h]; simp [List.getD_eq_getElem?_getD, h]
theorem mem_getDB {l : List Bit} {i : Nat} (h : i < l.length) : l.getD i ⟨0, 0⟩ ∈ l := by
  simp [List.getD_eq_getElem?_getD, h]
theorem chg_step {m : Bs} {l : List Bit} {n : Int} {l1 : List Int} {p : Nat} {v : Int} {f : Nat → List SV} (hJ : J14 m l (n, l1)) (h1 : n < l.length) (h2 : n < 20) {a : Bit} (ha : l.getD n.toNat ⟨0, 0⟩ = a)
    (hp : p = (if a.pos % 3 = 0 then a.pos / 3 % 2 * 1031 + a.pos / 6 % 12 else a.pos % 2062).toNat) (hv : v = if a.pos % 5 = 0 then a.val % 5 else a.val) (hf : ∀ j, f j = [.int .u8 (if j = p then v else l1.getD j 0)]) : J14 m l (n + 1, rowL (codI .u8) m.length f) := by
  simp only [J14] at hJ ⊢
  obtain ⟨n0, n1, n2, hl⟩ := hJ
  refine ⟨by omega, by omega, by omega, ?_⟩
  rw [row_set (by rw [hl, chgL_len]) hf, show (n + 1).toNat = n.toNat + 1 by omega, ← take_pushB (by omega), chgL_push, ← hl, ha]
  simp only [chg1]
  rw [hp, hv]
theorem t14 (m : Bs) (l : List Bit) (hm : m.length = 2062) (hl : l.length ≤ 9223372036854775807) (hb : ∀ b ∈ l, codBitW b) : vc14 m l := by
  rw [← vc14_eq]
  simp [-List.getD_eq_getElem?_getD, W_def, by_def]
  refine ⟨⟨?_, fun i hi => (recI hi (byteSV_by m i)).symm⟩, fun n l1 hJ => ⟨fun h1 => ⟨fun h2 => ?_, fun h2 => ⟨fun j hj => rfl, ?_⟩⟩, fun h1 => ⟨fun j hj => rfl, ?_⟩⟩⟩
  · simp only [J14]
    refine ⟨by omega, by omega, by omega, ?_⟩
    rw [show (0 : Int).toNat = 0 from rfl, List.take_zero, chgL_nil]
    refine List.ext_getElem (by simp) fun j q1 q2 => ?_
    have hj : j < m.length := by simpa using q1
    have e := recI hj (byteSV_by m j)
    rw [List.getD_eq_getElem?_getD, List.getElem?_eq_getElem q1] at e
    simp only [Option.getD_some] at e
    rw [e, List.getElem_map]
    simp [by', List.getD_eq_getElem?_getD, hj]
  · have n0 : 0 ≤ n := by simp only [J14] at hJ; exact hJ.1
    have hw := hb _ (mem_getDB (show n.toNat < l.length by omega))
    have st := @chg_step m l n l1
    generalize ha : l.getD n.toNat ⟨0, 0⟩ = a at hw ⊢
    have hu : (0 ≤ a.pos ∧ a.pos < 65536) ∧ 0 ≤ a.val ∧ a.val < 256 := by
      obtain ⟨u1, u2⟩ := hw
      exact ⟨u16_facts u1, u8_facts u2⟩
    obtain ⟨⟨a0, a1⟩, v0, v1⟩ := hu
    have e1 : W a.pos = a.pos := W_id (by omega) (by omega)
    have e2 : a.pos.tdiv 3 = a.pos / 3 := Int.tdiv_eq_ediv_of_nonneg a0
    have e3 : a.pos.tdiv 6 = a.pos / 6 := Int.tdiv_eq_ediv_of_nonneg a0
    have e4 : W (a.pos / 3) = a.pos / 3 := W_id (by omega) (by omega)
    have e5 : W (a.pos / 6) = a.pos / 6 := W_id (by omega) (by omega)
    have e6 : (a.pos / 3).tmod 2 = a.pos / 3 % 2 := Int.tmod_eq_emod_of_nonneg (by omega)
    have e7 : (a.pos / 6).tmod 12 = a.pos / 6 % 12 := Int.tmod_eq_emod_of_nonneg (by omega)
    have e8 : W (a.pos / 3 % 2 * 1031) = a.pos / 3 % 2 * 1031 := W_id (by omega) (by omega)
    have e9 : W (a.pos / 3 % 2 * 1031 + a.pos / 6 % 12) = a.pos / 3 % 2 * 1031 + a.pos / 6 % 12 := W_id (by omega) (by omega)
    have f3 : a.pos.tmod 3 = a.pos % 3 := Int.tmod_eq_emod_of_nonneg a0
    have f5 : a.pos.tmod 5 = a.pos % 5 := Int.tmod_eq_emod_of_nonneg a0
    have fv : a.val.tmod 5 = a.val % 5 := Int.tmod_eq_emod_of_nonneg v0
    have fm : a.pos.tmod (m.length : Int) = a.pos % 2062 := by rw [hm]; exact Int.tmod_eq_emod_of_nonneg a0
    have g1 : W (n + 1) = n + 1 := W_id (by omega) (by omega)
    have hne : ¬ m = [] := fun h => by rw [h] at hm; simp at hm
    simp only [e1, e2, e3, e4, e5, e6, e7, e8, e9, f3, f5, fv, fm, g1]
    have sel : ∀ (i p : Nat) (x y z : Int), (if decide (i = p) = true then x else if decide (i = p) = true then y else z) = if i = p then x else z := fun i p x y z => by
      by_cases q : i = p <;> simp [q]
    refine ⟨by omega, hne, by omega, fun h3 => ⟨by omega, by omega, by omega, by omega, fun h5 => ⟨by omega, by omega, by omega, ?_, by omega, fun i hi => ?_⟩, fun h5 => ⟨?_, by omega, fun i hi => ?_⟩⟩,
      fun h3 => ⟨by omega, by omega, by omega, by omega, fun h5 => ⟨by omega, by omega, by omega, ?_, by omega, fun i hi => ?_⟩, fun h5 => ⟨?_, by omega, fun i hi => ?_⟩⟩⟩
    · exact chg_step (p := (a.pos / 3 % 2 * 1031 + a.pos / 6 % 12).toNat) (v := a.val % 5) hJ h1 h2 ha (by rw [if_pos h3]) (by rw [if_pos h5]) (fun j => (show _ = [SV.int IntKind.u8 (if decide (j = (a.pos / 3 % 2 * 1031 + a.pos / 6 % 12).toNat) = true then a.val % 5 else if decide (j = (a.pos / 3 % 2 * 1031 + a.pos / 6 % 12).toNat) = true then a.val else l1.getD j 0)] from rfl).trans (by rw [sel]))
    · rw [recI hi (v := if decide (i = (a.pos / 3 % 2 * 1031 + a.pos / 6 % 12).toNat) = true then a.val % 5 else if decide (i = (a.pos / 3 % 2 * 1031 + a.pos / 6 % 12).toNat) = true then a.val else l1.getD i 0) rfl]
      simp only [decide_eq_true_eq]
    · exact chg_step (p := (a.pos / 3 % 2 * 1031 + a.pos / 6 % 12).toNat) (v := a.val) hJ h1 h2 ha (by rw [if_pos h3]) (by rw [if_neg h5]) (fun j => (show _ = [SV.int IntKind.u8 (if decide (j = (a.pos / 3 % 2 * 1031 + a.pos / 6 % 12).toNat) = true then a.val else l1.getD j 0)] from rfl).trans (by simp only [decide_eq_true_eq]))
    · rw [recI hi (v := if decide (i = (a.pos / 3 % 2 * 1031 + a.pos / 6 % 12).toNat) = true then a.val else l1.getD i 0) rfl]
      simp only [decide_eq_true_eq]
    · exact chg_step (p := (a.pos % 2062).toNat) (v := a.val % 5) hJ h1 h2 ha (by rw [if_neg h3]) (by rw [if_pos h5]) (fun j => (show _ = [SV.int IntKind.u8 (if decide (j = (a.pos % 2062).toNat) = true then a.val % 5 else if decide (j = (a.pos % 2062).toNat) = true then a.val else l1.getD j 0)] from rfl).trans (by rw [sel]))
    · rw [recI hi (v := if decide (i = (a.pos % 2062).toNat) = true then a.val % 5 else if decide (i = (a.pos % 2062).toNat) = true then a.val else l1.getD i 0) rfl]
      simp only [decide_eq_true_eq]
    · exact chg_step (p := (a.pos % 2062).toNat) (v := a.val) hJ h1 h2 ha (by rw [if_neg h3]) (by rw [if_neg h5]) (fun j => (show _ = [SV.int IntKind.u8 (if decide (j = (a.pos % 2062).toNat) = true then a.val else l1.getD j 0)] from rfl).trans (by simp only [decide_eq_true_eq]))
    · rw [recI hi (v := if decide (i = (a.pos % 2062).toNat) = true then a.val else l1.getD i 0) rfl]
      simp only [decide_eq_true_eq]
  · simp only [J14] at hJ
    obtain ⟨n0, n1, n2, he⟩ := hJ
    have hl1 : l1.length = m.length := by rw [he, chgL_len]
    rw [bytes_bys hl1]
    simp only [chgS]
    rw [he, show n.toNat = 20 by omega]
  · simp only [J14] at hJ
    obtain ⟨n0, n1, n2, he⟩ := hJ
    have hl1 : l1.length = m.length := by rw [he, chgL_len]
    rw [bytes_bys hl1]
    simp only [chgS]
    rw [he, List.take_of_length_le (show l.length ≤ n.toNat by omega), List.take_of_length_le (show l.length ≤ 20 by omega)]
theorem k14 : TabOK Try.prog T14 := fn_tabA k15 hm Try.func14 (by kernel_rfl) (by kernel_rfl) sSB.ok (by kernel_rfl) (fun a => A14 a.1 a.2) fun a hp => by
  have h := t14 a.1 a.2 hp.1 hp.2.1 hp.2.2
  exact h
end Go.Proofs.Nv
