import Derived.Test.YtjmjndfdociiiaaDoF
namespace Go.Proofs.Do
set_option linter.unusedVariables false
set_option linter.unusedSimpArgs false
open Go Go.Sx Go.Proofs
set_option maxRecDepth 100000
-- SAME: sm
-- ABBR: (∀ (i : Nat), i < (16 : Nat) → true = true) ==> t16
-- ABBR: IntKind.i64.wrap ==> W
-- ROWS: rowL (codI IntKind.u64) (16 : Nat) fun j => [SV.int IntKind.u64 ( ==> .getD j (0 : Int) ==> rr
-- ABBR: [(0 : Int), (0 : Int), (0 : Int), (0 : Int), (0 : Int), (0 : Int), (0 : Int), (0 : Int), (0 : Int), (0 : Int), (0 : Int), (0 : Int), (0 : Int), (0 : Int), (0 : Int), (0 : Int)] ==> z16
abbrev u8S (n : Int) : SV := .int .u64 n
def sIIII := Sig.cons (argI .i64) sIII
def sIIIII := Sig.cons (argI .i64) sIIII
def sIFFII := Sig.cons (argI .i64) (Sig.cons argF (Sig.cons argF sII))
def colS (a b : Int) : Int := ofB fun j => decide (a ≤ (j : Int) ∧ (j : Int) ≤ b)
def colI (a b x set : Int) : Prop := max a 0 ≤ x ∧ x ≤ 64 + max a 0 ∧ set = ofB fun j => decide (a ≤ (j : Int) ∧ (j : Int) ≤ b ∧ (j : Int) < x)
def fromS (k x y s n : Int) : Bool := if k = 1 then decide (x < 64 * s / n) else if k = 2 then decide (16 - 16 * s / n ≤ y) else if k = 3 then decide (32 - 32 * s / n ≤ x ∧ x ≤ 31 + 32 * s / n) else if k = 4 then decide (389 * (64 * y + x) % 1024 < 1024 * s / n) else decide (s = n)
def choS (k y s n : Int) : Int := ofB fun j => fromS k j y s n
def choI (y s n x set : Int) : Prop := 0 ≤ x ∧ x ≤ 64 ∧ set = ofB fun j => decide ((j : Int) < x) && fromS 4 j y s n
def blendL (k : Int) (a b : Fr) (s n : Int) : Nat → Nat → Int := fun y x =>
  if k = 5 then (if (x : Int) + 64 * s / n < 64 then getS a (x + 64 * s / n) y else getS b (x + 64 * s / n - 64) y) else if fromS k x y s n then lv b y x else lv a y x
def bldE (k n : Int) : Int := if k < 0 ∨ 5 < k then 44 else if n < 1 ∨ 10000 < n then 5 else 0
def bldS (k : Int) (a b : Fr) (s n : Int) : Fr := if bldE k n = 0 then mkL (blendL k a b (clp s 0 n) n) else zeroF
attribute [irreducible] colS colI fromS choS choI blendL bldE bldS
noncomputable def T48 : List (Nat × Ctr) := (48, ctr sII.dec (fun a => -1000000 ≤ a.1 ∧ a.1 ≤ 1000000 ∧ -1000000 ≤ a.2 ∧ a.2 ≤ 1000000) (fun a => u8S (colS a.1 a.2))) :: T18
abbrev XX := Int × Int
def A48 (a b : Int) : List Ann := [⟨.unit, .list [.int .i64 (.tm 6), .int .u64 (.tm 5)], fun _ (x : XX) => colI a b x.1 x.2, fun _ (x : XX) => (64 + max a 0 - x.1).toNat⟩]
noncomputable def vc48 (a b : Int) : Prop := cva T18 Try.f48 (A48 a b) [iS a, iS b] (u8S (colS a b))
def preC (y s n : Int) : Prop := 0 ≤ y ∧ y < 16 ∧ 1 ≤ n ∧ n ≤ 10000 ∧ 0 ≤ s ∧ s ≤ n
noncomputable def T41 : List (Nat × Ctr) := (41, ctr sIIII.dec (fun a => 0 ≤ a.1 ∧ a.1 ≤ 4 ∧ preC a.2.1 a.2.2.1 a.2.2.2) (fun a => u8S (choS a.1 a.2.1 a.2.2.1 a.2.2.2))) :: T48
def A41 (k y s n : Int) : List Ann := [⟨.unit, .list [.int .i64 (.tm 52), .int .u64 (.tm 11)], fun _ (x : XX) => choI y s n x.1 x.2, fun _ (x : XX) => (64 - x.1).toNat⟩]
noncomputable def vc41 (k y s n : Int) : Prop := cva T48 Try.f41 (A41 k y s n) [iS k, iS y, iS s, iS n] (u8S (choS k y s n))
noncomputable def T43 : List (Nat × Ctr) := (43, ctr sIIIII.dec (fun a => 0 ≤ a.2.1 ∧ a.2.1 < 64 ∧ preC a.2.2.1 a.2.2.2.1 a.2.2.2.2) (fun a => .bool (fromS a.1 a.2.1 a.2.2.1 a.2.2.2.1 a.2.2.2.2))) :: T41
noncomputable def vc43 (k x y s n : Int) : Prop := cva T41 Try.f43 [] [iS k, iS x, iS y, iS s, iS n] (.bool (fromS k x y s n))
def cBld : Ctr := ctr sIFFII.dec (fun a => okF a.2.1 ∧ okF a.2.2.1) (fun a => .tup [encF (bldS a.1 a.2.1 a.2.2.1 a.2.2.2.1 a.2.2.2.2), iS (bldE a.1 a.2.2.2.2)])
noncomputable def T21 : List (Nat × Ctr) := (21, cBld) :: T43
noncomputable def vc21 (k : Int) (a b : Fr) (s n : Int) : Prop := cva T43 Try.f21 (A1 33 3 zeroF (blendL k a b (clp s 0 n) n)) [iS k, encF a, encF b, iS s, iS n] (.tup [encF (bldS k a b s n), iS (bldE k n)])
noncomputable def T22 : List (Nat × Ctr) := (22, cBld) :: T21
noncomputable def vc22 (k : Int) (a b : Fr) (s n : Int) : Prop := cva T21 Try.f22 (A2 14 15 3 (lv zeroF) (blendL k a b (clp s 0 n) n)) [iS k, encF a, encF b, iS s, iS n] (.tup [encF (bldS k a b s n), iS (bldE k n)])
theorem vc48_eq (a b : Int) : (True ∧ True ∧ True ∧ (colI a b (if (0 : Int) > a then (0 : Int) else a) (0 : Int) ∧ (a = a ∧ b = b ∧ True ∧ True ∧ sm ((0 : Int)) ∧ sm ((0 : Int)) ∧ (sm (if (0 :
    Int) > a then (0 : Int) else a)) ∧ a = a ∧ (sm (if (0 : Int) > a then (0 : Int) else a)) ∧ True ∧ True ∧ True ∧ True ∧ True ∧ True ∧ True ∧ True ∧ True ∧ True ∧
    True ∧ True) ∧ True) ∧ ∀ (n n_1 : Int), colI a b n n_1 → True ∧ (decide (n ≤ if (63 : Int) < b then (63 : Int) else b) = true → (0 : Int) ≤ n ∧ True ∧ True ∧ colI
    a b (W (n + (1 : Int))) (bits BinOp.or IntKind.u64 n_1 (IntKind.u64.wrap ((1 : Int) * (2 : Int) ^ min n.toNat (64 : Nat)))) ∧ ((64 : Int) + max a (0 : Int) - W (n
    + (1 : Int))).toNat < ((64 : Int) + max a (0 : Int) - n).toNat ∧ (a = a ∧ b = b ∧ True ∧ True ∧ sm ((0 : Int)) ∧ sm (bits BinOp.or IntKind.u64 n_1 (IntKind.u64.wrap
    ((1 : Int) * (2 : Int) ^ min n.toNat (64 : Nat)))) ∧ sm (W (n + (1 : Int))) ∧ a = a ∧ (sm (if (0 : Int) > a then (0 : Int) else a)) ∧ True ∧ True ∧ True ∧ True ∧
    True ∧ True ∧ True ∧ True ∧ True ∧ True ∧ True ∧ True) ∧ True) ∧ (decide (n ≤ if (63 : Int) < b then (63 : Int) else b) = false → True ∧ True ∧ n_1 = colS a b ∧
    True)) = vc48 a b := by kernel_rfl
theorem vc41_eq (k y s n : Int) : (True ∧ True ∧ True ∧ ((True ∧ True) ∧ (-1000000 : Int) ≤ (0 : Int) ∧ (0 : Int) ≤ (1000000 : Int) ∧ (-1000000 : Int) ≤ (63 : Int) ∧ (63 : Int) ≤ (1000000 : Int))
    ∧ True ∧ True ∧ True ∧ ((k == (0 : Int)) = true → True ∧ ((s == n) = true → True ∧ True ∧ (18446744073709551615 : Int) = choS k y s n ∧ True) ∧ ((s == n) = false
    → True ∧ True ∧ (0 : Int) = choS k y s n ∧ True)) ∧ ((k == (0 : Int)) = false → True ∧ ((k == (1 : Int)) = true → n ≠ (0 : Int) ∧ True ∧ True ∧ ((True ∧ True) ∧
    (-1000000 : Int) ≤ (0 : Int) ∧ (0 : Int) ≤ (1000000 : Int) ∧ (-1000000 : Int) ≤ W (W ((W ((64 : Int) * s)).tdiv n) - (1 : Int)) ∧ W (W ((W ((64 : Int) * s)).tdiv
    n) - (1 : Int)) ≤ (1000000 : Int)) ∧ True ∧ True ∧ colS (0 : Int) (W (W ((W ((64 : Int) * s)).tdiv n) - (1 : Int))) = choS k y s n ∧ True) ∧ ((k == (1 : Int)) =
    false → True ∧ ((k == (2 : Int)) = true → n ≠ (0 : Int) ∧ True ∧ (decide (y ≥ W ((16 : Int) - W ((W ((16 : Int) * s)).tdiv n))) = true → True ∧ True ∧ (18446744073709551615
    : Int) = choS k y s n ∧ True) ∧ (decide (y ≥ W ((16 : Int) - W ((W ((16 : Int) * s)).tdiv n))) = false → True ∧ True ∧ (0 : Int) = choS k y s n ∧ True)) ∧ ((k ==
    (2 : Int)) = false → True ∧ ((k == (3 : Int)) = true → n ≠ (0 : Int) ∧ True ∧ True ∧ True ∧ ((True ∧ True) ∧ (-1000000 : Int) ≤ W ((32 : Int) - W ((W ((32 : Int)
    * s)).tdiv n)) ∧ W ((32 : Int) - W ((W ((32 : Int) * s)).tdiv n)) ≤ (1000000 : Int) ∧ (-1000000 : Int) ≤ W ((31 : Int) + W ((W ((32 : Int) * s)).tdiv n)) ∧ W ((31
    : Int) + W ((W ((32 : Int) * s)).tdiv n)) ≤ (1000000 : Int)) ∧ True ∧ True ∧ colS (W ((32 : Int) - W ((W ((32 : Int) * s)).tdiv n))) (W ((31 : Int) + W ((W ((32
    : Int) * s)).tdiv n))) = choS k y s n ∧ True) ∧ ((k == (3 : Int)) = false → True ∧ ((k == (4 : Int)) = true → True ∧ True ∧ (choI y s n (0 : Int) (0 : Int) ∧ (k
    = k ∧ y = y ∧ s = s ∧ n = n ∧ True ∧ True ∧ True ∧ True ∧ sm ((0 : Int)) ∧ sm ((18446744073709551615 : Int)) ∧ True ∧ sm ((0 : Int)) ∧ True ∧ sm ((18446744073709551615
    : Int)) ∧ k = k ∧ True ∧ sm ((k == (0 : Int))) ∧ True ∧ True ∧ True ∧ True ∧ True ∧ sm ((k == (1 : Int))) ∧ True ∧ True ∧ True ∧ True ∧ True ∧ True ∧ True ∧ sm ((k
    == (2 : Int))) ∧ True ∧ True ∧ True ∧ True ∧ True ∧ True ∧ True ∧ True ∧ True ∧ sm ((k == (3 : Int))) ∧ True ∧ True ∧ True ∧ True ∧ True ∧ True ∧ True ∧ True ∧ True
    ∧ True ∧ sm ((k == (4 : Int))) ∧ sm ((0 : Int)) ∧ True ∧ True ∧ True ∧ True ∧ True ∧ True ∧ True ∧ True ∧ True ∧ True ∧ True ∧ True ∧ True ∧ True ∧ True ∧ True ∧
    True ∧ True ∧ True ∧ True) ∧ True) ∧ ∀ (n_1 n_2 : Int), choI y s n n_1 n_2 → True ∧ (decide (n_1 < (64 : Int)) = true → True ∧ (1024 : Int) ≠ (0 : Int) ∧ n ≠ (0
    : Int) ∧ True ∧ (decide ((W ((389 : Int) * W (W ((64 : Int) * y) + n_1))).tmod (1024 : Int) < W ((W ((1024 : Int) * s)).tdiv n)) = true → (0 : Int) ≤ n_1 ∧ True
    ∧ True ∧ choI y s n (W (n_1 + (1 : Int))) (bits BinOp.or IntKind.u64 n_2 (IntKind.u64.wrap ((1 : Int) * (2 : Int) ^ min n_1.toNat (64 : Nat)))) ∧ ((64 : Int) - W
    (n_1 + (1 : Int))).toNat < ((64 : Int) - n_1).toNat ∧ (k = k ∧ y = y ∧ s = s ∧ n = n ∧ True ∧ True ∧ True ∧ True ∧ sm ((0 : Int)) ∧ sm ((18446744073709551615 : Int))
    ∧ True ∧ sm (bits BinOp.or IntKind.u64 n_2 (IntKind.u64.wrap ((1 : Int) * (2 : Int) ^ min n_1.toNat (64 : Nat)))) ∧ True ∧ sm ((18446744073709551615 : Int)) ∧ k
    = k ∧ True ∧ sm ((k == (0 : Int))) ∧ True ∧ True ∧ True ∧ True ∧ True ∧ sm ((k == (1 : Int))) ∧ True ∧ True ∧ True ∧ True ∧ True ∧ True ∧ True ∧ sm ((k == (2 : Int)))
    ∧ True ∧ True ∧ True ∧ True ∧ True ∧ True ∧ True ∧ True ∧ True ∧ sm ((k == (3 : Int))) ∧ True ∧ True ∧ True ∧ True ∧ True ∧ True ∧ True ∧ True ∧ True ∧ True ∧ sm
    ((k == (4 : Int))) ∧ sm (W (n_1 + (1 : Int))) ∧ True ∧ True ∧ True ∧ True ∧ True ∧ True ∧ True ∧ True ∧ True ∧ True ∧ True ∧ True ∧ True ∧ True ∧ True ∧ True ∧ True
    ∧ True ∧ True ∧ True) ∧ True) ∧ (decide ((W ((389 : Int) * W (W ((64 : Int) * y) + n_1))).tmod (1024 : Int) < W ((W ((1024 : Int) * s)).tdiv n)) = false → True ∧
    choI y s n (W (n_1 + (1 : Int))) n_2 ∧ ((64 : Int) - W (n_1 + (1 : Int))).toNat < ((64 : Int) - n_1).toNat ∧ (k = k ∧ y = y ∧ s = s ∧ n = n ∧ True ∧ True ∧ True
    ∧ True ∧ sm ((0 : Int)) ∧ sm ((18446744073709551615 : Int)) ∧ True ∧ n_2 = n_2 ∧ True ∧ sm ((18446744073709551615 : Int)) ∧ k = k ∧ True ∧ sm ((k == (0 : Int)))
    ∧ True ∧ True ∧ True ∧ True ∧ True ∧ sm ((k == (1 : Int))) ∧ True ∧ True ∧ True ∧ True ∧ True ∧ True ∧ True ∧ sm ((k == (2 : Int))) ∧ True ∧ True ∧ True ∧ True ∧
    True ∧ True ∧ True ∧ True ∧ True ∧ sm ((k == (3 : Int))) ∧ True ∧ True ∧ True ∧ True ∧ True ∧ True ∧ True ∧ True ∧ True ∧ True ∧ sm ((k == (4 : Int))) ∧ sm (W (n_1
    + (1 : Int))) ∧ True ∧ True ∧ True ∧ True ∧ True ∧ True ∧ True ∧ True ∧ True ∧ True ∧ True ∧ True ∧ True ∧ True ∧ True ∧ True ∧ True ∧ True ∧ True ∧ True) ∧ True))
    ∧ (decide (n_1 < (64 : Int)) = false → True ∧ True ∧ n_2 = choS k y s n ∧ True)) ∧ ((k == (4 : Int)) = false → True ∧ True ∧ (0 : Int) = choS k y s n ∧ True)))))) = vc41 k y s n := by kernel_rfl
theorem vc43_eq (k x y s n : Int) : (True ∧ True ∧ True ∧ ((k == (1 : Int)) = true → n ≠ (0 : Int) ∧ True ∧ True ∧ decide (x < W ((W ((64 : Int) * s)).tdiv n)) = fromS k x y s n ∧ True) ∧ ((k == (1
    : Int)) = false → True ∧ ((k == (2 : Int)) = true → n ≠ (0 : Int) ∧ True ∧ True ∧ decide (y ≥ W ((16 : Int) - W ((W ((16 : Int) * s)).tdiv n))) = fromS k x y s n
    ∧ True) ∧ ((k == (2 : Int)) = false → True ∧ ((k == (3 : Int)) = true → n ≠ (0 : Int) ∧ True ∧ (decide (x ≥ W ((32 : Int) - W ((W ((32 : Int) * s)).tdiv n))) = true
    → True ∧ True ∧ decide (x ≤ W ((31 : Int) + W ((W ((32 : Int) * s)).tdiv n))) = fromS k x y s n ∧ True) ∧ (decide (x ≥ W ((32 : Int) - W ((W ((32 : Int) * s)).tdiv
    n))) = false → True ∧ True ∧ fromS k x y s n = false ∧ True)) ∧ ((k == (3 : Int)) = false → True ∧ ((k == (4 : Int)) = true → (1024 : Int) ≠ (0 : Int) ∧ n ≠ (0 :
    Int) ∧ True ∧ True ∧ decide ((W ((389 : Int) * W (W ((64 : Int) * y) + x))).tmod (1024 : Int) < W ((W ((1024 : Int) * s)).tdiv n)) = fromS k x y s n ∧ True) ∧ ((k
    == (4 : Int)) = false → True ∧ True ∧ (s == n) = fromS k x y s n ∧ True))))) = vc43 k x y s n := by kernel_rfl
theorem vc21_eq (k : Int) (a b : Fr) (s n : Int) : (True ∧ (decide (k < (0 : Int)) = true → True ∧ t16 ∧ t16 ∧ True ∧ (t16 ∧ t16 ∧ True) ∧ True ∧ (((sm ((16 : Nat)) ∧ (0 : Nat) + (1 : Nat) = (1 : Nat) ∧ ∀ (i : Nat),
    i < (16 : Nat) → (0 : Int) = (bldS k a b s n).low.getD i (0 : Int) ∧ True) ∧ (sm ((16 : Nat)) ∧ (0 : Nat) + (1 : Nat) = (1 : Nat) ∧ ∀ (i : Nat), i < (16 : Nat) →
    (0 : Int) = (bldS k a b s n).high.getD i (0 : Int) ∧ True) ∧ True) ∧ (44 : Int) = bldE k n ∧ True) ∧ True) ∧ (decide (k < (0 : Int)) = false → True ∧ (decide (k
    > (5 : Int)) = true → t16 ∧ t16 ∧ True ∧ (t16 ∧ t16 ∧ True) ∧ True ∧ (((sm ((16 : Nat)) ∧ (0 : Nat) + (1 : Nat) = (1 : Nat) ∧ ∀ (i : Nat), i < (16 : Nat) → (0 :
    Int) = (bldS k a b s n).low.getD i (0 : Int) ∧ True) ∧ (sm ((16 : Nat)) ∧ (0 : Nat) + (1 : Nat) = (1 : Nat) ∧ ∀ (i : Nat), i < (16 : Nat) → (0 : Int) = (bldS k a
    b s n).high.getD i (0 : Int) ∧ True) ∧ True) ∧ (44 : Int) = bldE k n ∧ True) ∧ True) ∧ (decide (k > (5 : Int)) = false → (decide (n < (1 : Int)) = true → True ∧
    t16 ∧ t16 ∧ True ∧ (t16 ∧ t16 ∧ True) ∧ True ∧ (((sm ((16 : Nat)) ∧ (0 : Nat) + (1 : Nat) = (1 : Nat) ∧ ∀ (i : Nat), i < (16 : Nat) → (0 : Int) = (bldS k a b s n).low.getD
    i (0 : Int) ∧ True) ∧ (sm ((16 : Nat)) ∧ (0 : Nat) + (1 : Nat) = (1 : Nat) ∧ ∀ (i : Nat), i < (16 : Nat) → (0 : Int) = (bldS k a b s n).high.getD i (0 : Int) ∧ True)
    ∧ True) ∧ (5 : Int) = bldE k n ∧ True) ∧ True) ∧ (decide (n < (1 : Int)) = false → True ∧ (decide (n > (10000 : Int)) = true → t16 ∧ t16 ∧ True ∧ (t16 ∧ t16 ∧ True)
    ∧ True ∧ (((sm ((16 : Nat)) ∧ (0 : Nat) + (1 : Nat) = (1 : Nat) ∧ ∀ (i : Nat), i < (16 : Nat) → (0 : Int) = (bldS k a b s n).low.getD i (0 : Int) ∧ True) ∧ (sm ((16
    : Nat)) ∧ (0 : Nat) + (1 : Nat) = (1 : Nat) ∧ ∀ (i : Nat), i < (16 : Nat) → (0 : Int) = (bldS k a b s n).high.getD i (0 : Int) ∧ True) ∧ True) ∧ (5 : Int) = bldE
    k n ∧ True) ∧ True) ∧ (decide (n > (10000 : Int)) = false → True ∧ True ∧ True ∧ ((True ∧ True ∧ True) ∧ True) ∧ True ∧ True ∧ True ∧ (RowI zeroF (blendL k a b (clp
    s (0 : Int) n) n) (0 : Int) z16 z16 ∧ (k = k ∧ ((sm ((16 : Nat)) ∧ sm ((1 : Nat)) ∧ ∀ (i : Nat), i < (16 : Nat) → sm (a.low.getD i (0 : Int)) ∧ True) ∧ (sm ((16
    : Nat)) ∧ sm ((1 : Nat)) ∧ ∀ (i : Nat), i < (16 : Nat) → sm (a.high.getD i (0 : Int)) ∧ True) ∧ True) ∧ ((sm ((16 : Nat)) ∧ sm ((1 : Nat)) ∧ ∀ (i : Nat), i < (16
    : Nat) → sm (b.low.getD i (0 : Int)) ∧ True) ∧ (sm ((16 : Nat)) ∧ sm ((1 : Nat)) ∧ ∀ (i : Nat), i < (16 : Nat) → sm (b.high.getD i (0 : Int)) ∧ True) ∧ True) ∧ sm
    (clp s (0 : Int) n) ∧ n = n ∧ True ∧ True ∧ True ∧ True ∧ True ∧ True ∧ sm ((0 : Int)) ∧ True ∧ True ∧ True ∧ True ∧ k = k ∧ sm (decide (k < (0 : Int))) ∧ True ∧
    k = k ∧ sm (decide (k > (5 : Int))) ∧ True ∧ True ∧ n = n ∧ sm (decide (n < (1 : Int))) ∧ True ∧ n = n ∧ sm (decide (n > (10000 : Int))) ∧ True ∧ True ∧ s = s ∧
    n = n ∧ sm (clp s (0 : Int) n) ∧ sm ((0 : Int)) ∧ True ∧ True ∧ True ∧ True ∧ True ∧ True ∧ True ∧ True ∧ True ∧ True ∧ True ∧ True ∧ True ∧ True ∧ True ∧ True ∧
    True ∧ True ∧ True ∧ True ∧ True ∧ True ∧ True ∧ True ∧ True ∧ True ∧ True ∧ True ∧ True ∧ True ∧ True ∧ True ∧ True ∧ True ∧ True ∧ True ∧ True ∧ True ∧ True ∧
    True ∧ True ∧ True ∧ True ∧ True ∧ True ∧ True ∧ True ∧ True ∧ True ∧ True ∧ True ∧ True ∧ True ∧ True ∧ True ∧ True ∧ True ∧ True ∧ True ∧ True ∧ True ∧ True ∧
    True ∧ True ∧ True ∧ True ∧ True ∧ True ∧ True ∧ True ∧ True ∧ True ∧ True ∧ True ∧ True ∧ True) ∧ ((if false = true then [] else List.map Seg.shape [Seg.a (16 :
    Nat) (1 : Nat) fun j => [SV.int IntKind.u64 (a.low.getD j (0 : Int))], Seg.a (16 : Nat) (1 : Nat) fun j => [SV.int IntKind.u64 (a.high.getD j (0 : Int))]]) = if
    false = true then [] else List.map Seg.shape [Seg.a (16 : Nat) (1 : Nat) fun j => [SV.int IntKind.u64 (a.low.getD j (0 : Int))], Seg.a (16 : Nat) (1 : Nat) fun j
    => [SV.int IntKind.u64 (a.high.getD j (0 : Int))]]) ∧ ((sm ((16 : Nat)) ∧ sm ((1 : Nat)) ∧ ∀ (i : Nat), i < (16 : Nat) → sm (a.low.getD i (0 : Int)) ∧ True) ∧ (sm
    ((16 : Nat)) ∧ sm ((1 : Nat)) ∧ ∀ (i : Nat), i < (16 : Nat) → sm (a.high.getD i (0 : Int)) ∧ True) ∧ True) ∧ ((if false = true then [] else List.map Seg.shape [Seg.a
    (16 : Nat) (1 : Nat) fun j => [SV.int IntKind.u64 (b.low.getD j (0 : Int))], Seg.a (16 : Nat) (1 : Nat) fun j => [SV.int IntKind.u64 (b.high.getD j (0 : Int))]])
    = if false = true then [] else List.map Seg.shape [Seg.a (16 : Nat) (1 : Nat) fun j => [SV.int IntKind.u64 (b.low.getD j (0 : Int))], Seg.a (16 : Nat) (1 : Nat)
    fun j => [SV.int IntKind.u64 (b.high.getD j (0 : Int))]]) ∧ ((sm ((16 : Nat)) ∧ sm ((1 : Nat)) ∧ ∀ (i : Nat), i < (16 : Nat) → sm (b.low.getD i (0 : Int)) ∧ True)
    ∧ (sm ((16 : Nat)) ∧ sm ((1 : Nat)) ∧ ∀ (i : Nat), i < (16 : Nat) → sm (b.high.getD i (0 : Int)) ∧ True) ∧ True) ∧ ((if false = true then [] else List.map Seg.shape
    ([Seg.a (16 : Nat) (1 : Nat) fun x => [SV.int IntKind.u64 (0 : Int)]] ++ ([Seg.a (16 : Nat) (1 : Nat) fun x => [SV.int IntKind.u64 (0 : Int)]] ++ []))) = if false
    = true then [] else List.map Seg.shape ([Seg.a (16 : Nat) (1 : Nat) fun x => [SV.int IntKind.u64 (0 : Int)]] ++ ([Seg.a (16 : Nat) (1 : Nat) fun x => [SV.int IntKind.u64
    (0 : Int)]] ++ []))) ∧ ((sm ((16 : Nat)) ∧ sm ((1 : Nat)) ∧ ∀ (i : Nat), i < (16 : Nat) → sm ((0 : Int)) ∧ True) ∧ (sm ((16 : Nat)) ∧ sm ((1 : Nat)) ∧ ∀ (i : Nat),
    i < (16 : Nat) → sm ((0 : Int)) ∧ True) ∧ True) ∧ ((if false = true then [] else List.map Seg.shape ([Seg.a (16 : Nat) (1 : Nat) fun x => [SV.int IntKind.u64 (0
    : Int)]] ++ ([Seg.a (16 : Nat) (1 : Nat) fun x => [SV.int IntKind.u64 (0 : Int)]] ++ []))) = if false = true then [] else List.map Seg.shape ([Seg.a (16 : Nat) (1
    : Nat) fun x => [SV.int IntKind.u64 (0 : Int)]] ++ ([Seg.a (16 : Nat) (1 : Nat) fun x => [SV.int IntKind.u64 (0 : Int)]] ++ []))) ∧ ((sm ((16 : Nat)) ∧ (1 : Nat)
    = (codI IntKind.u64).n ∧ ∀ (i : Nat), i < (16 : Nat) → (0 : Int) = z16.getD i (codI IntKind.u64).dft ∧ True) ∧ (sm ((16 : Nat)) ∧ (1 : Nat) = (codI IntKind.u64).n
    ∧ ∀ (i : Nat), i < (16 : Nat) → (0 : Int) = z16.getD i (codI IntKind.u64).dft ∧ True) ∧ True) ∧ True) ∧ ∀ (n_1 : Int) (l l_1 : List Int), RowI zeroF (blendL k a
    b (clp s (0 : Int) n) n) n_1 l l_1 → True ∧ (decide (n_1 < (16 : Int)) = true → True ∧ True ∧ ((k == (5 : Int)) = true → n ≠ (0 : Int) ∧ True ∧ ((0 : Int) ≤ n_1
    ∧ n_1 < (16 : Int)) ∧ n_1.toNat < (16 : Nat) ∧ (0 : Int) ≤ W ((W ((64 : Int) * clp s (0 : Int) n)).tdiv n) ∧ ((0 : Int) ≤ n_1 ∧ n_1 < (16 : Int)) ∧ n_1.toNat < (16
    : Nat) ∧ (0 : Int) ≤ W ((64 : Int) - W ((W ((64 : Int) * clp s (0 : Int) n)).tdiv n)) ∧ ((0 : Int) ≤ n_1 ∧ n_1 < (16 : Int)) ∧ n_1.toNat < (16 : Nat) ∧ IsT true
    ∧ ((0 : Int) ≤ n_1 ∧ n_1 < (16 : Int)) ∧ n_1.toNat < (16 : Nat) ∧ (0 : Int) ≤ W ((W ((64 : Int) * clp s (0 : Int) n)).tdiv n) ∧ ((0 : Int) ≤ n_1 ∧ n_1 < (16 : Int))
    ∧ n_1.toNat < (16 : Nat) ∧ (0 : Int) ≤ W ((64 : Int) - W ((W ((64 : Int) * clp s (0 : Int) n)).tdiv n)) ∧ ((0 : Int) ≤ n_1 ∧ n_1 < (16 : Int)) ∧ n_1.toNat < (16
    : Nat) ∧ IsT true ∧ True ∧ RowI zeroF (blendL k a b (clp s (0 : Int) n) n) (W (n_1 + (1 : Int))) (rowL (codI IntKind.u64) (16 : Nat) fun i' => mergeL (decide (i'
    = n_1.toNat)) (setL ((codI IntKind.u64).enc (l.getD n_1.toNat (codI IntKind.u64).dft)) (0 : Nat) [SV.int IntKind.u64 (bits BinOp.or IntKind.u64 (a.low.getD n_1.toNat
    (0 : Int) / (2 : Int) ^ min (W ((W ((64 : Int) * clp s (0 : Int) n)).tdiv n)).toNat (64 : Nat)) (IntKind.u64.wrap (b.low.getD n_1.toNat (0 : Int) * (2 : Int) ^ min
    (W ((64 : Int) - W ((W ((64 : Int) * clp s (0 : Int) n)).tdiv n))).toNat (64 : Nat))))]) ((codI IntKind.u64).enc (l.getD i' (codI IntKind.u64).dft))) (rowL (codI
    IntKind.u64) (16 : Nat) fun i' => mergeL (decide (i' = n_1.toNat)) (setL ((codI IntKind.u64).enc (l_1.getD n_1.toNat (codI IntKind.u64).dft)) (0 : Nat) [SV.int IntKind.u64
    (bits BinOp.or IntKind.u64 (a.high.getD n_1.toNat (0 : Int) / (2 : Int) ^ min (W ((W ((64 : Int) * clp s (0 : Int) n)).tdiv n)).toNat (64 : Nat)) (IntKind.u64.wrap
    (b.high.getD n_1.toNat (0 : Int) * (2 : Int) ^ min (W ((64 : Int) - W ((W ((64 : Int) * clp s (0 : Int) n)).tdiv n))).toNat (64 : Nat))))]) ((codI IntKind.u64).enc
    (l_1.getD i' (codI IntKind.u64).dft))) ∧ ((16 : Int) - W (n_1 + (1 : Int))).toNat < ((16 : Int) - n_1).toNat ∧ (k = k ∧ ((sm ((16 : Nat)) ∧ sm ((1 : Nat)) ∧ ∀ (i
    : Nat), i < (16 : Nat) → sm (a.low.getD i (0 : Int)) ∧ True) ∧ (sm ((16 : Nat)) ∧ sm ((1 : Nat)) ∧ ∀ (i : Nat), i < (16 : Nat) → sm (a.high.getD i (0 : Int)) ∧ True)
    ∧ True) ∧ ((sm ((16 : Nat)) ∧ sm ((1 : Nat)) ∧ ∀ (i : Nat), i < (16 : Nat) → sm (b.low.getD i (0 : Int)) ∧ True) ∧ (sm ((16 : Nat)) ∧ sm ((1 : Nat)) ∧ ∀ (i : Nat),
    i < (16 : Nat) → sm (b.high.getD i (0 : Int)) ∧ True) ∧ True) ∧ sm (clp s (0 : Int) n) ∧ n = n ∧ True ∧ True ∧ True ∧ True ∧ True ∧ True ∧ sm ((0 : Int)) ∧ True
    ∧ True ∧ True ∧ True ∧ k = k ∧ sm (decide (k < (0 : Int))) ∧ True ∧ k = k ∧ sm (decide (k > (5 : Int))) ∧ True ∧ True ∧ n = n ∧ sm (decide (n < (1 : Int))) ∧ True
    ∧ n = n ∧ sm (decide (n > (10000 : Int))) ∧ True ∧ True ∧ s = s ∧ n = n ∧ sm (clp s (0 : Int) n) ∧ sm (W (n_1 + (1 : Int))) ∧ True ∧ True ∧ True ∧ True ∧ True ∧
    True ∧ True ∧ True ∧ True ∧ True ∧ True ∧ True ∧ True ∧ True ∧ True ∧ True ∧ True ∧ True ∧ True ∧ True ∧ True ∧ True ∧ True ∧ True ∧ True ∧ True ∧ True ∧ True ∧
    True ∧ True ∧ True ∧ True ∧ True ∧ True ∧ True ∧ True ∧ True ∧ True ∧ True ∧ True ∧ True ∧ True ∧ True ∧ True ∧ True ∧ True ∧ True ∧ True ∧ True ∧ True ∧ True ∧
    True ∧ True ∧ True ∧ True ∧ True ∧ True ∧ True ∧ True ∧ True ∧ True ∧ True ∧ True ∧ True ∧ True ∧ True ∧ True ∧ True ∧ True ∧ True ∧ True ∧ True ∧ True ∧ True ∧
    True ∧ True) ∧ ((if false = true then [] else List.map Seg.shape [Seg.a (16 : Nat) (1 : Nat) fun j => [SV.int IntKind.u64 (a.low.getD j (0 : Int))], Seg.a (16 :
    Nat) (1 : Nat) fun j => [SV.int IntKind.u64 (a.high.getD j (0 : Int))]]) = if false = true then [] else List.map Seg.shape [Seg.a (16 : Nat) (1 : Nat) fun j => [SV.int
    IntKind.u64 (a.low.getD j (0 : Int))], Seg.a (16 : Nat) (1 : Nat) fun j => [SV.int IntKind.u64 (a.high.getD j (0 : Int))]]) ∧ ((sm ((16 : Nat)) ∧ sm ((1 : Nat))
    ∧ ∀ (i : Nat), i < (16 : Nat) → sm (a.low.getD i (0 : Int)) ∧ True) ∧ (sm ((16 : Nat)) ∧ sm ((1 : Nat)) ∧ ∀ (i : Nat), i < (16 : Nat) → sm (a.high.getD i (0 : Int))
    ∧ True) ∧ True) ∧ ((if false = true then [] else List.map Seg.shape [Seg.a (16 : Nat) (1 : Nat) fun j => [SV.int IntKind.u64 (b.low.getD j (0 : Int))], Seg.a (16
    : Nat) (1 : Nat) fun j => [SV.int IntKind.u64 (b.high.getD j (0 : Int))]]) = if false = true then [] else List.map Seg.shape [Seg.a (16 : Nat) (1 : Nat) fun j =>
    [SV.int IntKind.u64 (b.low.getD j (0 : Int))], Seg.a (16 : Nat) (1 : Nat) fun j => [SV.int IntKind.u64 (b.high.getD j (0 : Int))]]) ∧ ((sm ((16 : Nat)) ∧ sm ((1
    : Nat)) ∧ ∀ (i : Nat), i < (16 : Nat) → sm (b.low.getD i (0 : Int)) ∧ True) ∧ (sm ((16 : Nat)) ∧ sm ((1 : Nat)) ∧ ∀ (i : Nat), i < (16 : Nat) → sm (b.high.getD i
    (0 : Int)) ∧ True) ∧ True) ∧ ((if false = true then [] else List.map Seg.shape ([Seg.a (16 : Nat) (1 : Nat) fun x => [SV.int IntKind.u64 (0 : Int)]] ++ ([Seg.a (16
    : Nat) (1 : Nat) fun x => [SV.int IntKind.u64 (0 : Int)]] ++ []))) = if false = true then [] else List.map Seg.shape ([Seg.a (16 : Nat) (1 : Nat) fun x => [SV.int
    IntKind.u64 (0 : Int)]] ++ ([Seg.a (16 : Nat) (1 : Nat) fun x => [SV.int IntKind.u64 (0 : Int)]] ++ []))) ∧ ((sm ((16 : Nat)) ∧ sm ((1 : Nat)) ∧ ∀ (i : Nat), i <
    (16 : Nat) → sm ((0 : Int)) ∧ True) ∧ (sm ((16 : Nat)) ∧ sm ((1 : Nat)) ∧ ∀ (i : Nat), i < (16 : Nat) → sm ((0 : Int)) ∧ True) ∧ True) ∧ ((if false = true then []
    else List.map Seg.shape ([Seg.a (16 : Nat) (1 : Nat) fun x => [SV.int IntKind.u64 (0 : Int)]] ++ ([Seg.a (16 : Nat) (1 : Nat) fun x => [SV.int IntKind.u64 (0 : Int)]]
    ++ []))) = if false = true then [] else List.map Seg.shape ([Seg.a (16 : Nat) (1 : Nat) fun x => [SV.int IntKind.u64 (0 : Int)]] ++ ([Seg.a (16 : Nat) (1 : Nat)
    fun x => [SV.int IntKind.u64 (0 : Int)]] ++ []))) ∧ ((sm ((16 : Nat)) ∧ (0 : Nat) + (1 : Nat) = (codI IntKind.u64).n ∧ ∀ (i : Nat), i < (16 : Nat) → (if decide (i
    = n_1.toNat) = true then bits BinOp.or IntKind.u64 (a.low.getD n_1.toNat (0 : Int) / (2 : Int) ^ min (W ((W ((64 : Int) * clp s (0 : Int) n)).tdiv n)).toNat (64
    : Nat)) (IntKind.u64.wrap (b.low.getD n_1.toNat (0 : Int) * (2 : Int) ^ min (W ((64 : Int) - W ((W ((64 : Int) * clp s (0 : Int) n)).tdiv n))).toNat (64 : Nat)))
    else l.getD i (codI IntKind.u64).dft) = (rowL (codI IntKind.u64) (16 : Nat) fun i' => mergeL (decide (i' = n_1.toNat)) (setL ((codI IntKind.u64).enc (l.getD n_1.toNat
    (codI IntKind.u64).dft)) (0 : Nat) [SV.int IntKind.u64 (bits BinOp.or IntKind.u64 (a.low.getD n_1.toNat (0 : Int) / (2 : Int) ^ min (W ((W ((64 : Int) * clp s (0
    : Int) n)).tdiv n)).toNat (64 : Nat)) (IntKind.u64.wrap (b.low.getD n_1.toNat (0 : Int) * (2 : Int) ^ min (W ((64 : Int) - W ((W ((64 : Int) * clp s (0 : Int) n)).tdiv
    n))).toNat (64 : Nat))))]) ((codI IntKind.u64).enc (l.getD i' (codI IntKind.u64).dft))).getD i (codI IntKind.u64).dft ∧ True) ∧ (sm ((16 : Nat)) ∧ (0 : Nat) + (1
    : Nat) = (codI IntKind.u64).n ∧ ∀ (i : Nat), i < (16 : Nat) → (if decide (i = n_1.toNat) = true then bits BinOp.or IntKind.u64 (a.high.getD n_1.toNat (0 : Int) /
    (2 : Int) ^ min (W ((W ((64 : Int) * clp s (0 : Int) n)).tdiv n)).toNat (64 : Nat)) (IntKind.u64.wrap (b.high.getD n_1.toNat (0 : Int) * (2 : Int) ^ min (W ((64
    : Int) - W ((W ((64 : Int) * clp s (0 : Int) n)).tdiv n))).toNat (64 : Nat))) else l_1.getD i (codI IntKind.u64).dft) = (rowL (codI IntKind.u64) (16 : Nat) fun i'
    => mergeL (decide (i' = n_1.toNat)) (setL ((codI IntKind.u64).enc (l_1.getD n_1.toNat (codI IntKind.u64).dft)) (0 : Nat) [SV.int IntKind.u64 (bits BinOp.or IntKind.u64
    (a.high.getD n_1.toNat (0 : Int) / (2 : Int) ^ min (W ((W ((64 : Int) * clp s (0 : Int) n)).tdiv n)).toNat (64 : Nat)) (IntKind.u64.wrap (b.high.getD n_1.toNat (0
    : Int) * (2 : Int) ^ min (W ((64 : Int) - W ((W ((64 : Int) * clp s (0 : Int) n)).tdiv n))).toNat (64 : Nat))))]) ((codI IntKind.u64).enc (l_1.getD i' (codI IntKind.u64).dft))).getD
    i (codI IntKind.u64).dft ∧ True) ∧ True) ∧ True) ∧ ((k == (5 : Int)) = false → True ∧ True ∧ True ∧ True ∧ ((True ∧ True ∧ True ∧ True) ∧ (0 : Int) ≤ k ∧ k ≤ (4
    : Int) ∧ (0 : Int) ≤ n_1 ∧ n_1 < (16 : Int) ∧ (1 : Int) ≤ n ∧ n ≤ (10000 : Int) ∧ (0 : Int) ≤ clp s (0 : Int) n ∧ clp s (0 : Int) n ≤ n) ∧ True ∧ ((0 : Int) ≤ n_1
    ∧ n_1 < (16 : Int)) ∧ n_1.toNat < (16 : Nat) ∧ ((0 : Int) ≤ n_1 ∧ n_1 < (16 : Int)) ∧ n_1.toNat < (16 : Nat) ∧ True ∧ True ∧ True ∧ ((True ∧ True ∧ True) ∧ True)
    ∧ ((0 : Int) ≤ n_1 ∧ n_1 < (16 : Int)) ∧ n_1.toNat < (16 : Nat) ∧ ((0 : Int) ≤ n_1 ∧ n_1 < (16 : Int)) ∧ n_1.toNat < (16 : Nat) ∧ True ∧ True ∧ True ∧ ((True ∧ True
    ∧ True) ∧ True) ∧ ((0 : Int) ≤ n_1 ∧ n_1 < (16 : Int)) ∧ n_1.toNat < (16 : Nat) ∧ ((0 : Int) ≤ n_1 ∧ n_1 < (16 : Int)) ∧ n_1.toNat < (16 : Nat) ∧ IsT true ∧ True
    ∧ RowI zeroF (blendL k a b (clp s (0 : Int) n) n) (W (n_1 + (1 : Int))) (rowL (codI IntKind.u64) (16 : Nat) fun i' => mergeL (decide (i' = n_1.toNat)) (setL ((codI
    IntKind.u64).enc (l.getD n_1.toNat (codI IntKind.u64).dft)) (0 : Nat) [SV.int IntKind.u64 (mixS (a.low.getD n_1.toNat (0 : Int)) (b.low.getD n_1.toNat (0 : Int))
    (choS k n_1 (clp s (0 : Int) n) n))]) ((codI IntKind.u64).enc (l.getD i' (codI IntKind.u64).dft))) (rowL (codI IntKind.u64) (16 : Nat) fun i' => mergeL (decide (i'
    = n_1.toNat)) (setL ((codI IntKind.u64).enc (l_1.getD n_1.toNat (codI IntKind.u64).dft)) (0 : Nat) [SV.int IntKind.u64 (mixS (a.high.getD n_1.toNat (0 : Int)) (b.high.getD
    n_1.toNat (0 : Int)) (choS k n_1 (clp s (0 : Int) n) n))]) ((codI IntKind.u64).enc (l_1.getD i' (codI IntKind.u64).dft))) ∧ ((16 : Int) - W (n_1 + (1 : Int))).toNat
    < ((16 : Int) - n_1).toNat ∧ (k = k ∧ ((sm ((16 : Nat)) ∧ sm ((1 : Nat)) ∧ ∀ (i : Nat), i < (16 : Nat) → sm (a.low.getD i (0 : Int)) ∧ True) ∧ (sm ((16 : Nat)) ∧
    sm ((1 : Nat)) ∧ ∀ (i : Nat), i < (16 : Nat) → sm (a.high.getD i (0 : Int)) ∧ True) ∧ True) ∧ ((sm ((16 : Nat)) ∧ sm ((1 : Nat)) ∧ ∀ (i : Nat), i < (16 : Nat) →
    sm (b.low.getD i (0 : Int)) ∧ True) ∧ (sm ((16 : Nat)) ∧ sm ((1 : Nat)) ∧ ∀ (i : Nat), i < (16 : Nat) → sm (b.high.getD i (0 : Int)) ∧ True) ∧ True) ∧ sm (clp s
    (0 : Int) n) ∧ n = n ∧ True ∧ True ∧ True ∧ True ∧ True ∧ True ∧ sm ((0 : Int)) ∧ True ∧ True ∧ True ∧ True ∧ k = k ∧ sm (decide (k < (0 : Int))) ∧ True ∧ k = k
    ∧ sm (decide (k > (5 : Int))) ∧ True ∧ True ∧ n = n ∧ sm (decide (n < (1 : Int))) ∧ True ∧ n = n ∧ sm (decide (n > (10000 : Int))) ∧ True ∧ True ∧ s = s ∧ n = n
    ∧ sm (clp s (0 : Int) n) ∧ sm (W (n_1 + (1 : Int))) ∧ True ∧ True ∧ True ∧ True ∧ True ∧ True ∧ True ∧ True ∧ True ∧ True ∧ True ∧ True ∧ True ∧ True ∧ True ∧ True
    ∧ True ∧ True ∧ True ∧ True ∧ True ∧ True ∧ True ∧ True ∧ True ∧ True ∧ True ∧ True ∧ True ∧ True ∧ True ∧ True ∧ True ∧ True ∧ True ∧ True ∧ True ∧ True ∧ True
    ∧ True ∧ True ∧ True ∧ True ∧ True ∧ True ∧ True ∧ True ∧ True ∧ True ∧ True ∧ True ∧ True ∧ True ∧ True ∧ True ∧ True ∧ True ∧ True ∧ True ∧ True ∧ True ∧ True
    ∧ True ∧ True ∧ True ∧ True ∧ True ∧ True ∧ True ∧ True ∧ True ∧ True ∧ True ∧ True ∧ True ∧ True) ∧ ((if false = true then [] else List.map Seg.shape [Seg.a (16
    : Nat) (1 : Nat) fun j => [SV.int IntKind.u64 (a.low.getD j (0 : Int))], Seg.a (16 : Nat) (1 : Nat) fun j => [SV.int IntKind.u64 (a.high.getD j (0 : Int))]]) = if
    false = true then [] else List.map Seg.shape [Seg.a (16 : Nat) (1 : Nat) fun j => [SV.int IntKind.u64 (a.low.getD j (0 : Int))], Seg.a (16 : Nat) (1 : Nat) fun j
    => [SV.int IntKind.u64 (a.high.getD j (0 : Int))]]) ∧ ((sm ((16 : Nat)) ∧ sm ((1 : Nat)) ∧ ∀ (i : Nat), i < (16 : Nat) → sm (a.low.getD i (0 : Int)) ∧ True) ∧ (sm
    ((16 : Nat)) ∧ sm ((1 : Nat)) ∧ ∀ (i : Nat), i < (16 : Nat) → sm (a.high.getD i (0 : Int)) ∧ True) ∧ True) ∧ ((if false = true then [] else List.map Seg.shape [Seg.a
    (16 : Nat) (1 : Nat) fun j => [SV.int IntKind.u64 (b.low.getD j (0 : Int))], Seg.a (16 : Nat) (1 : Nat) fun j => [SV.int IntKind.u64 (b.high.getD j (0 : Int))]])
    = if false = true then [] else List.map Seg.shape [Seg.a (16 : Nat) (1 : Nat) fun j => [SV.int IntKind.u64 (b.low.getD j (0 : Int))], Seg.a (16 : Nat) (1 : Nat)
    fun j => [SV.int IntKind.u64 (b.high.getD j (0 : Int))]]) ∧ ((sm ((16 : Nat)) ∧ sm ((1 : Nat)) ∧ ∀ (i : Nat), i < (16 : Nat) → sm (b.low.getD i (0 : Int)) ∧ True)
    ∧ (sm ((16 : Nat)) ∧ sm ((1 : Nat)) ∧ ∀ (i : Nat), i < (16 : Nat) → sm (b.high.getD i (0 : Int)) ∧ True) ∧ True) ∧ ((if false = true then [] else List.map Seg.shape
    ([Seg.a (16 : Nat) (1 : Nat) fun x => [SV.int IntKind.u64 (0 : Int)]] ++ ([Seg.a (16 : Nat) (1 : Nat) fun x => [SV.int IntKind.u64 (0 : Int)]] ++ []))) = if false
    = true then [] else List.map Seg.shape ([Seg.a (16 : Nat) (1 : Nat) fun x => [SV.int IntKind.u64 (0 : Int)]] ++ ([Seg.a (16 : Nat) (1 : Nat) fun x => [SV.int IntKind.u64
    (0 : Int)]] ++ []))) ∧ ((sm ((16 : Nat)) ∧ sm ((1 : Nat)) ∧ ∀ (i : Nat), i < (16 : Nat) → sm ((0 : Int)) ∧ True) ∧ (sm ((16 : Nat)) ∧ sm ((1 : Nat)) ∧ ∀ (i : Nat),
    i < (16 : Nat) → sm ((0 : Int)) ∧ True) ∧ True) ∧ ((if false = true then [] else List.map Seg.shape ([Seg.a (16 : Nat) (1 : Nat) fun x => [SV.int IntKind.u64 (0
    : Int)]] ++ ([Seg.a (16 : Nat) (1 : Nat) fun x => [SV.int IntKind.u64 (0 : Int)]] ++ []))) = if false = true then [] else List.map Seg.shape ([Seg.a (16 : Nat) (1
    : Nat) fun x => [SV.int IntKind.u64 (0 : Int)]] ++ ([Seg.a (16 : Nat) (1 : Nat) fun x => [SV.int IntKind.u64 (0 : Int)]] ++ []))) ∧ ((sm ((16 : Nat)) ∧ (0 : Nat)
    + (1 : Nat) = (codI IntKind.u64).n ∧ ∀ (i : Nat), i < (16 : Nat) → (if decide (i = n_1.toNat) = true then mixS (a.low.getD n_1.toNat (0 : Int)) (b.low.getD n_1.toNat
    (0 : Int)) (choS k n_1 (clp s (0 : Int) n) n) else l.getD i (codI IntKind.u64).dft) = (rowL (codI IntKind.u64) (16 : Nat) fun i' => mergeL (decide (i' = n_1.toNat))
    (setL ((codI IntKind.u64).enc (l.getD n_1.toNat (codI IntKind.u64).dft)) (0 : Nat) [SV.int IntKind.u64 (mixS (a.low.getD n_1.toNat (0 : Int)) (b.low.getD n_1.toNat
    (0 : Int)) (choS k n_1 (clp s (0 : Int) n) n))]) ((codI IntKind.u64).enc (l.getD i' (codI IntKind.u64).dft))).getD i (codI IntKind.u64).dft ∧ True) ∧ (sm ((16 :
    Nat)) ∧ (0 : Nat) + (1 : Nat) = (codI IntKind.u64).n ∧ ∀ (i : Nat), i < (16 : Nat) → (if decide (i = n_1.toNat) = true then mixS (a.high.getD n_1.toNat (0 : Int))
    (b.high.getD n_1.toNat (0 : Int)) (choS k n_1 (clp s (0 : Int) n) n) else l_1.getD i (codI IntKind.u64).dft) = (rowL (codI IntKind.u64) (16 : Nat) fun i' => mergeL
    (decide (i' = n_1.toNat)) (setL ((codI IntKind.u64).enc (l_1.getD n_1.toNat (codI IntKind.u64).dft)) (0 : Nat) [SV.int IntKind.u64 (mixS (a.high.getD n_1.toNat (0
    : Int)) (b.high.getD n_1.toNat (0 : Int)) (choS k n_1 (clp s (0 : Int) n) n))]) ((codI IntKind.u64).enc (l_1.getD i' (codI IntKind.u64).dft))).getD i (codI IntKind.u64).dft
    ∧ True) ∧ True) ∧ True)) ∧ (decide (n_1 < (16 : Int)) = false → t16 ∧ t16 ∧ True ∧ (t16 ∧ t16 ∧ True) ∧ True ∧ (((sm ((16 : Nat)) ∧ (0 : Nat) + (1 : Nat) = (1 :
    Nat) ∧ ∀ (i : Nat), i < (16 : Nat) → l.getD i (codI IntKind.u64).dft = (bldS k a b s n).low.getD i (0 : Int) ∧ True) ∧ (sm ((16 : Nat)) ∧ (0 : Nat) + (1 : Nat) =
    (1 : Nat) ∧ ∀ (i : Nat), i < (16 : Nat) → l_1.getD i (codI IntKind.u64).dft = (bldS k a b s n).high.getD i (0 : Int) ∧ True) ∧ True) ∧ (0 : Int) = bldE k n ∧ True)
    ∧ True)))))) = vc21 k a b s n := by kernel_rfl
theorem vc22_eq (k : Int) (a b : Fr) (s n : Int) : (True ∧ (decide (k < (0 : Int)) = true → True ∧ t16 ∧ t16 ∧ True ∧ (t16 ∧ t16 ∧ True) ∧ True ∧ (((sm ((16 : Nat)) ∧ (0 : Nat) + (1 : Nat) = (1 : Nat) ∧ ∀ (i : Nat),
    i < (16 : Nat) → (0 : Int) = (bldS k a b s n).low.getD i (0 : Int) ∧ True) ∧ (sm ((16 : Nat)) ∧ (0 : Nat) + (1 : Nat) = (1 : Nat) ∧ ∀ (i : Nat), i < (16 : Nat) →
    (0 : Int) = (bldS k a b s n).high.getD i (0 : Int) ∧ True) ∧ True) ∧ (44 : Int) = bldE k n ∧ True) ∧ True) ∧ (decide (k < (0 : Int)) = false → True ∧ (decide (k
    > (5 : Int)) = true → t16 ∧ t16 ∧ True ∧ (t16 ∧ t16 ∧ True) ∧ True ∧ (((sm ((16 : Nat)) ∧ (0 : Nat) + (1 : Nat) = (1 : Nat) ∧ ∀ (i : Nat), i < (16 : Nat) → (0 :
    Int) = (bldS k a b s n).low.getD i (0 : Int) ∧ True) ∧ (sm ((16 : Nat)) ∧ (0 : Nat) + (1 : Nat) = (1 : Nat) ∧ ∀ (i : Nat), i < (16 : Nat) → (0 : Int) = (bldS k a
    b s n).high.getD i (0 : Int) ∧ True) ∧ True) ∧ (44 : Int) = bldE k n ∧ True) ∧ True) ∧ (decide (k > (5 : Int)) = false → (decide (n < (1 : Int)) = true → True ∧
    t16 ∧ t16 ∧ True ∧ (t16 ∧ t16 ∧ True) ∧ True ∧ (((sm ((16 : Nat)) ∧ (0 : Nat) + (1 : Nat) = (1 : Nat) ∧ ∀ (i : Nat), i < (16 : Nat) → (0 : Int) = (bldS k a b s n).low.getD
    i (0 : Int) ∧ True) ∧ (sm ((16 : Nat)) ∧ (0 : Nat) + (1 : Nat) = (1 : Nat) ∧ ∀ (i : Nat), i < (16 : Nat) → (0 : Int) = (bldS k a b s n).high.getD i (0 : Int) ∧ True)
    ∧ True) ∧ (5 : Int) = bldE k n ∧ True) ∧ True) ∧ (decide (n < (1 : Int)) = false → True ∧ (decide (n > (10000 : Int)) = true → t16 ∧ t16 ∧ True ∧ (t16 ∧ t16 ∧ True)
    ∧ True ∧ (((sm ((16 : Nat)) ∧ (0 : Nat) + (1 : Nat) = (1 : Nat) ∧ ∀ (i : Nat), i < (16 : Nat) → (0 : Int) = (bldS k a b s n).low.getD i (0 : Int) ∧ True) ∧ (sm ((16
    : Nat)) ∧ (0 : Nat) + (1 : Nat) = (1 : Nat) ∧ ∀ (i : Nat), i < (16 : Nat) → (0 : Int) = (bldS k a b s n).high.getD i (0 : Int) ∧ True) ∧ True) ∧ (5 : Int) = bldE
    k n ∧ True) ∧ True) ∧ (decide (n > (10000 : Int)) = false → True ∧ True ∧ n ≠ (0 : Int) ∧ True ∧ True ∧ (DotI (lv zeroF) (blendL k a b (clp s (0 : Int) n) n) (0
    : Int) (0 : Int) z16 z16 ∧ (k = k ∧ ((sm ((16 : Nat)) ∧ sm ((1 : Nat)) ∧ ∀ (i : Nat), i < (16 : Nat) → sm (a.low.getD i (0 : Int)) ∧ True) ∧ (sm ((16 : Nat)) ∧ sm
    ((1 : Nat)) ∧ ∀ (i : Nat), i < (16 : Nat) → sm (a.high.getD i (0 : Int)) ∧ True) ∧ True) ∧ ((sm ((16 : Nat)) ∧ sm ((1 : Nat)) ∧ ∀ (i : Nat), i < (16 : Nat) → sm
    (b.low.getD i (0 : Int)) ∧ True) ∧ (sm ((16 : Nat)) ∧ sm ((1 : Nat)) ∧ ∀ (i : Nat), i < (16 : Nat) → sm (b.high.getD i (0 : Int)) ∧ True) ∧ True) ∧ (sm (if (if n
    < s then n else s) > (0 : Int) then if n < s then n else s else (0 : Int))) ∧ n = n ∧ True ∧ True ∧ True ∧ True ∧ True ∧ True ∧ sm ((0 : Int)) ∧ True ∧ sm (W ((W
    ((64 : Int) * if (if n < s then n else s) > (0 : Int) then if n < s then n else s else (0 : Int))).tdiv n)) ∧ sm ((0 : Int)) ∧ True ∧ True ∧ k = k ∧ sm (decide (k
    < (0 : Int))) ∧ True ∧ k = k ∧ sm (decide (k > (5 : Int))) ∧ True ∧ True ∧ n = n ∧ sm (decide (n < (1 : Int))) ∧ True ∧ n = n ∧ sm (decide (n > (10000 : Int))) ∧
    True ∧ True ∧ s = s ∧ n = n ∧ (sm (if n < s then n else s)) ∧ (sm (if (if n < s then n else s) > (0 : Int) then if n < s then n else s else (0 : Int))) ∧ (sm (if
    (if n < s then n else s) > (0 : Int) then if n < s then n else s else (0 : Int))) ∧ sm (W ((64 : Int) * if (if n < s then n else s) > (0 : Int) then if n < s then
    n else s else (0 : Int))) ∧ n = n ∧ sm (W ((W ((64 : Int) * if (if n < s then n else s) > (0 : Int) then if n < s then n else s else (0 : Int))).tdiv n)) ∧ True
    ∧ True ∧ True ∧ True ∧ True ∧ True ∧ True ∧ True ∧ True ∧ True ∧ True ∧ True ∧ True ∧ True ∧ True ∧ True ∧ True ∧ True ∧ True ∧ True ∧ True ∧ True ∧ True ∧ True
    ∧ True ∧ True ∧ True ∧ True ∧ True ∧ True ∧ True ∧ True ∧ True ∧ True ∧ True ∧ True ∧ True ∧ True ∧ True ∧ True ∧ True ∧ True ∧ True ∧ True ∧ True ∧ True ∧ True
    ∧ True ∧ True ∧ True ∧ True ∧ True ∧ True ∧ True ∧ True) ∧ ((if false = true then [] else List.map Seg.shape [Seg.a (16 : Nat) (1 : Nat) fun j => [SV.int IntKind.u64
    (a.low.getD j (0 : Int))], Seg.a (16 : Nat) (1 : Nat) fun j => [SV.int IntKind.u64 (a.high.getD j (0 : Int))]]) = if false = true then [] else List.map Seg.shape
    [Seg.a (16 : Nat) (1 : Nat) fun j => [SV.int IntKind.u64 (a.low.getD j (0 : Int))], Seg.a (16 : Nat) (1 : Nat) fun j => [SV.int IntKind.u64 (a.high.getD j (0 : Int))]])
    ∧ ((sm ((16 : Nat)) ∧ sm ((1 : Nat)) ∧ ∀ (i : Nat), i < (16 : Nat) → sm (a.low.getD i (0 : Int)) ∧ True) ∧ (sm ((16 : Nat)) ∧ sm ((1 : Nat)) ∧ ∀ (i : Nat), i < (16
    : Nat) → sm (a.high.getD i (0 : Int)) ∧ True) ∧ True) ∧ ((if false = true then [] else List.map Seg.shape [Seg.a (16 : Nat) (1 : Nat) fun j => [SV.int IntKind.u64
    (b.low.getD j (0 : Int))], Seg.a (16 : Nat) (1 : Nat) fun j => [SV.int IntKind.u64 (b.high.getD j (0 : Int))]]) = if false = true then [] else List.map Seg.shape
    [Seg.a (16 : Nat) (1 : Nat) fun j => [SV.int IntKind.u64 (b.low.getD j (0 : Int))], Seg.a (16 : Nat) (1 : Nat) fun j => [SV.int IntKind.u64 (b.high.getD j (0 : Int))]])
    ∧ ((sm ((16 : Nat)) ∧ sm ((1 : Nat)) ∧ ∀ (i : Nat), i < (16 : Nat) → sm (b.low.getD i (0 : Int)) ∧ True) ∧ (sm ((16 : Nat)) ∧ sm ((1 : Nat)) ∧ ∀ (i : Nat), i < (16
    : Nat) → sm (b.high.getD i (0 : Int)) ∧ True) ∧ True) ∧ ((if false = true then [] else List.map Seg.shape ([Seg.a (16 : Nat) (1 : Nat) fun x => [SV.int IntKind.u64
    (0 : Int)]] ++ ([Seg.a (16 : Nat) (1 : Nat) fun x => [SV.int IntKind.u64 (0 : Int)]] ++ []))) = if false = true then [] else List.map Seg.shape ([Seg.a (16 : Nat)
    (1 : Nat) fun x => [SV.int IntKind.u64 (0 : Int)]] ++ ([Seg.a (16 : Nat) (1 : Nat) fun x => [SV.int IntKind.u64 (0 : Int)]] ++ []))) ∧ ((sm ((16 : Nat)) ∧ sm ((1
    : Nat)) ∧ ∀ (i : Nat), i < (16 : Nat) → sm ((0 : Int)) ∧ True) ∧ (sm ((16 : Nat)) ∧ sm ((1 : Nat)) ∧ ∀ (i : Nat), i < (16 : Nat) → sm ((0 : Int)) ∧ True) ∧ True)
    ∧ ((if false = true then [] else List.map Seg.shape ([Seg.a (16 : Nat) (1 : Nat) fun x => [SV.int IntKind.u64 (0 : Int)]] ++ ([Seg.a (16 : Nat) (1 : Nat) fun x =>
    [SV.int IntKind.u64 (0 : Int)]] ++ []))) = if false = true then [] else List.map Seg.shape ([Seg.a (16 : Nat) (1 : Nat) fun x => [SV.int IntKind.u64 (0 : Int)]]
    ++ ([Seg.a (16 : Nat) (1 : Nat) fun x => [SV.int IntKind.u64 (0 : Int)]] ++ []))) ∧ ((sm ((16 : Nat)) ∧ (1 : Nat) = (codI IntKind.u64).n ∧ ∀ (i : Nat), i < (16 :
    Nat) → (0 : Int) = z16.getD i (codI IntKind.u64).dft ∧ True) ∧ (sm ((16 : Nat)) ∧ (1 : Nat) = (codI IntKind.u64).n ∧ ∀ (i : Nat), i < (16 : Nat) → (0 : Int) = z16.getD
    i (codI IntKind.u64).dft ∧ True) ∧ True) ∧ True) ∧ ∀ (n_1 : Int) (l l_1 : List Int), DotI (lv zeroF) (blendL k a b (clp s (0 : Int) n) n) n_1 (0 : Int) l l_1 → True
    ∧ (decide (n_1 < (16 : Int)) = true → True ∧ (DotI (lv zeroF) (blendL k a b (clp s (0 : Int) n) n) n_1 (0 : Int) (rowL (codI IntKind.u64) (16 : Nat) fun j => (codI
    IntKind.u64).enc (l.getD j (codI IntKind.u64).dft)) (rowL (codI IntKind.u64) (16 : Nat) fun j => (codI IntKind.u64).enc (l_1.getD j (codI IntKind.u64).dft)) ∧ (k
    = k ∧ ((sm ((16 : Nat)) ∧ sm ((1 : Nat)) ∧ ∀ (i : Nat), i < (16 : Nat) → sm (a.low.getD i (0 : Int)) ∧ True) ∧ (sm ((16 : Nat)) ∧ sm ((1 : Nat)) ∧ ∀ (i : Nat), i
    < (16 : Nat) → sm (a.high.getD i (0 : Int)) ∧ True) ∧ True) ∧ ((sm ((16 : Nat)) ∧ sm ((1 : Nat)) ∧ ∀ (i : Nat), i < (16 : Nat) → sm (b.low.getD i (0 : Int)) ∧ True)
    ∧ (sm ((16 : Nat)) ∧ sm ((1 : Nat)) ∧ ∀ (i : Nat), i < (16 : Nat) → sm (b.high.getD i (0 : Int)) ∧ True) ∧ True) ∧ (sm (if (if n < s then n else s) > (0 : Int) then
    if n < s then n else s else (0 : Int))) ∧ n = n ∧ True ∧ True ∧ True ∧ True ∧ True ∧ True ∧ sm ((0 : Int)) ∧ True ∧ sm (W ((W ((64 : Int) * if (if n < s then n else
    s) > (0 : Int) then if n < s then n else s else (0 : Int))).tdiv n)) ∧ n_1 = n_1 ∧ sm ((0 : Int)) ∧ True ∧ k = k ∧ sm (decide (k < (0 : Int))) ∧ True ∧ k = k ∧ sm
    (decide (k > (5 : Int))) ∧ True ∧ True ∧ n = n ∧ sm (decide (n < (1 : Int))) ∧ True ∧ n = n ∧ sm (decide (n > (10000 : Int))) ∧ True ∧ True ∧ s = s ∧ n = n ∧ (sm
    (if n < s then n else s)) ∧ (sm (if (if n < s then n else s) > (0 : Int) then if n < s then n else s else (0 : Int))) ∧ (sm (if (if n < s then n else s) > (0 : Int)
    then if n < s then n else s else (0 : Int))) ∧ sm (W ((64 : Int) * if (if n < s then n else s) > (0 : Int) then if n < s then n else s else (0 : Int))) ∧ n = n ∧
    sm (W ((W ((64 : Int) * if (if n < s then n else s) > (0 : Int) then if n < s then n else s else (0 : Int))).tdiv n)) ∧ n_1 = n_1 ∧ True ∧ True ∧ True ∧ True ∧ True
    ∧ True ∧ True ∧ True ∧ True ∧ True ∧ True ∧ True ∧ True ∧ True ∧ True ∧ True ∧ True ∧ True ∧ True ∧ True ∧ True ∧ True ∧ True ∧ True ∧ True ∧ True ∧ True ∧ True
    ∧ True ∧ True ∧ True ∧ True ∧ True ∧ True ∧ True ∧ True ∧ True ∧ True ∧ True ∧ True ∧ True ∧ True ∧ True ∧ True ∧ True ∧ True ∧ True ∧ True ∧ True ∧ True ∧ True
    ∧ True ∧ True ∧ True) ∧ ((if false = true then [] else List.map Seg.shape [Seg.a (16 : Nat) (1 : Nat) fun j => [SV.int IntKind.u64 (a.low.getD j (0 : Int))], Seg.a
    (16 : Nat) (1 : Nat) fun j => [SV.int IntKind.u64 (a.high.getD j (0 : Int))]]) = if false = true then [] else List.map Seg.shape [Seg.a (16 : Nat) (1 : Nat) fun
    j => [SV.int IntKind.u64 (a.low.getD j (0 : Int))], Seg.a (16 : Nat) (1 : Nat) fun j => [SV.int IntKind.u64 (a.high.getD j (0 : Int))]]) ∧ ((sm ((16 : Nat)) ∧ sm
    ((1 : Nat)) ∧ ∀ (i : Nat), i < (16 : Nat) → sm (a.low.getD i (0 : Int)) ∧ True) ∧ (sm ((16 : Nat)) ∧ sm ((1 : Nat)) ∧ ∀ (i : Nat), i < (16 : Nat) → sm (a.high.getD
    i (0 : Int)) ∧ True) ∧ True) ∧ ((if false = true then [] else List.map Seg.shape [Seg.a (16 : Nat) (1 : Nat) fun j => [SV.int IntKind.u64 (b.low.getD j (0 : Int))],
    Seg.a (16 : Nat) (1 : Nat) fun j => [SV.int IntKind.u64 (b.high.getD j (0 : Int))]]) = if false = true then [] else List.map Seg.shape [Seg.a (16 : Nat) (1 : Nat)
    fun j => [SV.int IntKind.u64 (b.low.getD j (0 : Int))], Seg.a (16 : Nat) (1 : Nat) fun j => [SV.int IntKind.u64 (b.high.getD j (0 : Int))]]) ∧ ((sm ((16 : Nat))
    ∧ sm ((1 : Nat)) ∧ ∀ (i : Nat), i < (16 : Nat) → sm (b.low.getD i (0 : Int)) ∧ True) ∧ (sm ((16 : Nat)) ∧ sm ((1 : Nat)) ∧ ∀ (i : Nat), i < (16 : Nat) → sm (b.high.getD
    i (0 : Int)) ∧ True) ∧ True) ∧ ((if false = true then [] else List.map Seg.shape ([Seg.a (16 : Nat) (1 : Nat) fun x => [SV.int IntKind.u64 (0 : Int)]] ++ ([Seg.a
    (16 : Nat) (1 : Nat) fun x => [SV.int IntKind.u64 (0 : Int)]] ++ []))) = if false = true then [] else List.map Seg.shape ([Seg.a (16 : Nat) (1 : Nat) fun x => [SV.int
    IntKind.u64 (0 : Int)]] ++ ([Seg.a (16 : Nat) (1 : Nat) fun x => [SV.int IntKind.u64 (0 : Int)]] ++ []))) ∧ ((sm ((16 : Nat)) ∧ sm ((1 : Nat)) ∧ ∀ (i : Nat), i <
    (16 : Nat) → sm ((0 : Int)) ∧ True) ∧ (sm ((16 : Nat)) ∧ sm ((1 : Nat)) ∧ ∀ (i : Nat), i < (16 : Nat) → sm ((0 : Int)) ∧ True) ∧ True) ∧ ((if false = true then []
    else List.map Seg.shape ([Seg.a (16 : Nat) (1 : Nat) fun x => [SV.int IntKind.u64 (0 : Int)]] ++ ([Seg.a (16 : Nat) (1 : Nat) fun x => [SV.int IntKind.u64 (0 : Int)]]
    ++ []))) = if false = true then [] else List.map Seg.shape ([Seg.a (16 : Nat) (1 : Nat) fun x => [SV.int IntKind.u64 (0 : Int)]] ++ ([Seg.a (16 : Nat) (1 : Nat)
    fun x => [SV.int IntKind.u64 (0 : Int)]] ++ []))) ∧ ((sm ((16 : Nat)) ∧ sm ((codI IntKind.u64).n) ∧ ∀ (i : Nat), i < (16 : Nat) → l.getD i (codI IntKind.u64).dft
    = (rowL (codI IntKind.u64) (16 : Nat) fun j => (codI IntKind.u64).enc (l.getD j (codI IntKind.u64).dft)).getD i (codI IntKind.u64).dft ∧ True) ∧ (sm ((16 : Nat))
    ∧ sm ((codI IntKind.u64).n) ∧ ∀ (i : Nat), i < (16 : Nat) → l_1.getD i (codI IntKind.u64).dft = (rowL (codI IntKind.u64) (16 : Nat) fun j => (codI IntKind.u64).enc
    (l_1.getD j (codI IntKind.u64).dft)).getD i (codI IntKind.u64).dft ∧ True) ∧ True) ∧ True) ∧ ∀ (n_2 : Int) (l l_2 : List Int), DotI (lv zeroF) (blendL k a b (clp
    s (0 : Int) n) n) n_1 n_2 l l_2 → True ∧ (decide (n_2 < (64 : Int)) = true → (t16 ∧ t16 ∧ True) ∧ True ∧ True ∧ ((((∀ (i : Nat), i < (16 : Nat) → true = true ∧ True)
    ∧ ∀ (i : Nat), i < (16 : Nat) → true = true ∧ True) ∧ True ∧ True) ∧ okF { low := rr a.low, high := rr a.high : Fr }) ∧ True ∧ ((k == (5 : Int)) = true → True ∧
    (decide (W (n_2 + W ((W ((64 : Int) * if (if n < s then n else s) > (0 : Int) then if n < s then n else s else (0 : Int))).tdiv n)) < (64 : Int)) = true → (t16 ∧
    t16 ∧ True) ∧ True ∧ True ∧ ((((∀ (i : Nat), i < (16 : Nat) → true = true ∧ True) ∧ ∀ (i : Nat), i < (16 : Nat) → true = true ∧ True) ∧ True ∧ True) ∧ okF { low := rr a.low, high := rr a.high : Fr })
    ∧ True ∧ (t16 ∧ t16 ∧ True) ∧ True ∧ True ∧ True ∧ ((((∀ (i : Nat), i < (16 : Nat) → true = true ∧ True) ∧ ∀ (i : Nat), i < (16 : Nat) → true = true ∧ True) ∧ True
    ∧ True ∧ True) ∧ okF { low := rowL (codI IntKind.u64) (16 : Nat) fun j => (codI IntKind.u64).enc (l.getD j (codI IntKind.u64).dft), high := rowL (codI IntKind.u64) (16 : Nat) fun j => (codI IntKind.u64).enc (l_2.getD j (codI IntKind.u64).dft) : Fr })
    ∧ t16 ∧ t16 ∧ True ∧ True ∧ DotI (lv zeroF) (blendL k a b (clp s (0 : Int) n) n) n_1 (W (n_2 + (1 : Int))) (rr (setS { low := rowL (codI IntKind.u64) (16 : Nat) fun j => (codI IntKind.u64).enc (l.getD j (codI IntKind.u64).dft), high := rowL (codI IntKind.u64) (16 : Nat) fun j => (codI IntKind.u64).enc (l_2.getD j (codI IntKind.u64).dft) : Fr }
    n_2 n_1 (getS { low := rr a.low, high := rr a.high : Fr } (W (n_2 + W ((W ((64 : Int) * if (if n < s then n else s) > (0 : Int) then if n < s then n else s else
    (0 : Int))).tdiv n))) n_1)).low) (rr (setS { low := rowL (codI IntKind.u64) (16 : Nat) fun j => (codI IntKind.u64).enc (l.getD j (codI IntKind.u64).dft), high := rowL (codI IntKind.u64) (16 : Nat) fun j => (codI IntKind.u64).enc (l_2.getD j (codI IntKind.u64).dft) : Fr }
    n_2 n_1 (getS { low := rr a.low, high := rr a.high : Fr } (W (n_2 + W ((W ((64 : Int) * if (if n < s then n else s) > (0 : Int) then if n < s then n else s else
    (0 : Int))).tdiv n))) n_1)).high) ∧ ((64 : Int) - W (n_2 + (1 : Int))).toNat < ((64 : Int) - n_2).toNat ∧ (k = k ∧ ((sm ((16 : Nat)) ∧ sm ((1 : Nat)) ∧ ∀ (i : Nat),
    i < (16 : Nat) → sm (a.low.getD i (0 : Int)) ∧ True) ∧ (sm ((16 : Nat)) ∧ sm ((1 : Nat)) ∧ ∀ (i : Nat), i < (16 : Nat) → sm (a.high.getD i (0 : Int)) ∧ True) ∧ True)
    ∧ ((sm ((16 : Nat)) ∧ sm ((1 : Nat)) ∧ ∀ (i : Nat), i < (16 : Nat) → sm (b.low.getD i (0 : Int)) ∧ True) ∧ (sm ((16 : Nat)) ∧ sm ((1 : Nat)) ∧ ∀ (i : Nat), i < (16
    : Nat) → sm (b.high.getD i (0 : Int)) ∧ True) ∧ True) ∧ (sm (if (if n < s then n else s) > (0 : Int) then if n < s then n else s else (0 : Int))) ∧ n = n ∧ True
    ∧ True ∧ True ∧ True ∧ True ∧ True ∧ sm ((0 : Int)) ∧ True ∧ sm (W ((W ((64 : Int) * if (if n < s then n else s) > (0 : Int) then if n < s then n else s else (0
    : Int))).tdiv n)) ∧ n_1 = n_1 ∧ sm (W (n_2 + (1 : Int))) ∧ True ∧ k = k ∧ sm (decide (k < (0 : Int))) ∧ True ∧ k = k ∧ sm (decide (k > (5 : Int))) ∧ True ∧ True
    ∧ n = n ∧ sm (decide (n < (1 : Int))) ∧ True ∧ n = n ∧ sm (decide (n > (10000 : Int))) ∧ True ∧ True ∧ s = s ∧ n = n ∧ (sm (if n < s then n else s)) ∧ (sm (if (if
    n < s then n else s) > (0 : Int) then if n < s then n else s else (0 : Int))) ∧ (sm (if (if n < s then n else s) > (0 : Int) then if n < s then n else s else (0
    : Int))) ∧ sm (W ((64 : Int) * if (if n < s then n else s) > (0 : Int) then if n < s then n else s else (0 : Int))) ∧ n = n ∧ sm (W ((W ((64 : Int) * if (if n <
    s then n else s) > (0 : Int) then if n < s then n else s else (0 : Int))).tdiv n)) ∧ n_1 = n_1 ∧ True ∧ True ∧ True ∧ True ∧ True ∧ True ∧ True ∧ True ∧ True ∧ True
    ∧ True ∧ True ∧ True ∧ True ∧ True ∧ True ∧ True ∧ True ∧ True ∧ True ∧ True ∧ True ∧ True ∧ True ∧ True ∧ True ∧ True ∧ True ∧ True ∧ True ∧ True ∧ True ∧ True
    ∧ True ∧ True ∧ True ∧ True ∧ True ∧ True ∧ True ∧ True ∧ True ∧ True ∧ True ∧ True ∧ True ∧ True ∧ True ∧ True ∧ True ∧ True ∧ True ∧ True ∧ True) ∧ ((if false
    = true then [] else List.map Seg.shape [Seg.a (16 : Nat) (1 : Nat) fun j => [SV.int IntKind.u64 (a.low.getD j (0 : Int))], Seg.a (16 : Nat) (1 : Nat) fun j => [SV.int
    IntKind.u64 (a.high.getD j (0 : Int))]]) = if false = true then [] else List.map Seg.shape [Seg.a (16 : Nat) (1 : Nat) fun j => [SV.int IntKind.u64 (a.low.getD j
    (0 : Int))], Seg.a (16 : Nat) (1 : Nat) fun j => [SV.int IntKind.u64 (a.high.getD j (0 : Int))]]) ∧ ((sm ((16 : Nat)) ∧ sm ((1 : Nat)) ∧ ∀ (i : Nat), i < (16 : Nat)
    → sm (a.low.getD i (0 : Int)) ∧ True) ∧ (sm ((16 : Nat)) ∧ sm ((1 : Nat)) ∧ ∀ (i : Nat), i < (16 : Nat) → sm (a.high.getD i (0 : Int)) ∧ True) ∧ True) ∧ ((if false
    = true then [] else List.map Seg.shape [Seg.a (16 : Nat) (1 : Nat) fun j => [SV.int IntKind.u64 (b.low.getD j (0 : Int))], Seg.a (16 : Nat) (1 : Nat) fun j => [SV.int
    IntKind.u64 (b.high.getD j (0 : Int))]]) = if false = true then [] else List.map Seg.shape [Seg.a (16 : Nat) (1 : Nat) fun j => [SV.int IntKind.u64 (b.low.getD j
    (0 : Int))], Seg.a (16 : Nat) (1 : Nat) fun j => [SV.int IntKind.u64 (b.high.getD j (0 : Int))]]) ∧ ((sm ((16 : Nat)) ∧ sm ((1 : Nat)) ∧ ∀ (i : Nat), i < (16 : Nat)
    → sm (b.low.getD i (0 : Int)) ∧ True) ∧ (sm ((16 : Nat)) ∧ sm ((1 : Nat)) ∧ ∀ (i : Nat), i < (16 : Nat) → sm (b.high.getD i (0 : Int)) ∧ True) ∧ True) ∧ ((if false
    = true then [] else List.map Seg.shape ([Seg.a (16 : Nat) (1 : Nat) fun x => [SV.int IntKind.u64 (0 : Int)]] ++ ([Seg.a (16 : Nat) (1 : Nat) fun x => [SV.int IntKind.u64
    (0 : Int)]] ++ []))) = if false = true then [] else List.map Seg.shape ([Seg.a (16 : Nat) (1 : Nat) fun x => [SV.int IntKind.u64 (0 : Int)]] ++ ([Seg.a (16 : Nat)
    (1 : Nat) fun x => [SV.int IntKind.u64 (0 : Int)]] ++ []))) ∧ ((sm ((16 : Nat)) ∧ sm ((1 : Nat)) ∧ ∀ (i : Nat), i < (16 : Nat) → sm ((0 : Int)) ∧ True) ∧ (sm ((16
    : Nat)) ∧ sm ((1 : Nat)) ∧ ∀ (i : Nat), i < (16 : Nat) → sm ((0 : Int)) ∧ True) ∧ True) ∧ ((if false = true then [] else List.map Seg.shape ([Seg.a (16 : Nat) (1
    : Nat) fun x => [SV.int IntKind.u64 (0 : Int)]] ++ ([Seg.a (16 : Nat) (1 : Nat) fun x => [SV.int IntKind.u64 (0 : Int)]] ++ []))) = if false = true then [] else
    List.map Seg.shape ([Seg.a (16 : Nat) (1 : Nat) fun x => [SV.int IntKind.u64 (0 : Int)]] ++ ([Seg.a (16 : Nat) (1 : Nat) fun x => [SV.int IntKind.u64 (0 : Int)]]
    ++ []))) ∧ ((sm ((16 : Nat)) ∧ (1 : Nat) = (codI IntKind.u64).n ∧ ∀ (i : Nat), i < (16 : Nat) → (setS { low := rowL (codI IntKind.u64) (16 : Nat) fun j => (codI IntKind.u64).enc (l.getD j (codI IntKind.u64).dft), high := rowL (codI IntKind.u64) (16 : Nat) fun j => (codI IntKind.u64).enc (l_2.getD j (codI IntKind.u64).dft) : Fr }
    n_2 n_1 (getS { low := rr a.low, high := rr a.high : Fr } (W (n_2 + W ((W ((64 : Int) * if (if n < s then n else s) > (0 : Int) then if n < s then n else s else
    (0 : Int))).tdiv n))) n_1)).low.getD i (0 : Int) = (rr (setS { low := rowL (codI IntKind.u64) (16 : Nat) fun j => (codI IntKind.u64).enc (l.getD j (codI IntKind.u64).dft), high := rowL (codI IntKind.u64) (16 : Nat) fun j => (codI IntKind.u64).enc (l_2.getD j (codI IntKind.u64).dft) : Fr }
    n_2 n_1 (getS { low := rr a.low, high := rr a.high : Fr } (W (n_2 + W ((W ((64 : Int) * if (if n < s then n else s) > (0 : Int) then if n < s then n else s else
    (0 : Int))).tdiv n))) n_1)).low).getD i (codI IntKind.u64).dft ∧ True) ∧ (sm ((16 : Nat)) ∧ (1 : Nat) = (codI IntKind.u64).n ∧ ∀ (i : Nat), i < (16 : Nat) → (setS
    { low := rowL (codI IntKind.u64) (16 : Nat) fun j => (codI IntKind.u64).enc (l.getD j (codI IntKind.u64).dft), high := rowL (codI IntKind.u64) (16 : Nat) fun j => (codI IntKind.u64).enc (l_2.getD j (codI IntKind.u64).dft) : Fr }
    n_2 n_1 (getS { low := rr a.low, high := rr a.high : Fr } (W (n_2 + W ((W ((64 : Int) * if (if n < s then n else s) > (0 : Int) then if n < s then n else s else
    (0 : Int))).tdiv n))) n_1)).high.getD i (0 : Int) = (rr (setS { low := rowL (codI IntKind.u64) (16 : Nat) fun j => (codI IntKind.u64).enc (l.getD j (codI IntKind.u64).dft), high := rowL (codI IntKind.u64) (16 : Nat) fun j => (codI IntKind.u64).enc (l_2.getD j (codI IntKind.u64).dft) : Fr }
    n_2 n_1 (getS { low := rr a.low, high := rr a.high : Fr } (W (n_2 + W ((W ((64 : Int) * if (if n < s then n else s) > (0 : Int) then if n < s then n else s else
    (0 : Int))).tdiv n))) n_1)).high).getD i (codI IntKind.u64).dft ∧ True) ∧ True) ∧ True) ∧ (decide (W (n_2 + W ((W ((64 : Int) * if (if n < s then n else s) > (0
    : Int) then if n < s then n else s else (0 : Int))).tdiv n)) < (64 : Int)) = false → True ∧ ((k == (5 : Int)) = true → (t16 ∧ t16 ∧ True) ∧ True ∧ True ∧ ((((∀ (i
    : Nat), i < (16 : Nat) → true = true ∧ True) ∧ ∀ (i : Nat), i < (16 : Nat) → true = true ∧ True) ∧ True ∧ True) ∧ okF { low := rr b.low, high := rr b.high : Fr })
    ∧ True ∧ (t16 ∧ t16 ∧ True) ∧ True ∧ True ∧ True ∧ ((((∀ (i : Nat), i < (16 : Nat) → true = true ∧ True) ∧ ∀ (i : Nat), i < (16 : Nat) → true = true ∧ True) ∧ True
    ∧ True ∧ True) ∧ okF { low := rowL (codI IntKind.u64) (16 : Nat) fun j => (codI IntKind.u64).enc (l.getD j (codI IntKind.u64).dft), high := rowL (codI IntKind.u64) (16 : Nat) fun j => (codI IntKind.u64).enc (l_2.getD j (codI IntKind.u64).dft) : Fr })
    ∧ t16 ∧ t16 ∧ True ∧ True ∧ DotI (lv zeroF) (blendL k a b (clp s (0 : Int) n) n) n_1 (W (n_2 + (1 : Int))) (rr (setS { low := rowL (codI IntKind.u64) (16 : Nat) fun j => (codI IntKind.u64).enc (l.getD j (codI IntKind.u64).dft), high := rowL (codI IntKind.u64) (16 : Nat) fun j => (codI IntKind.u64).enc (l_2.getD j (codI IntKind.u64).dft) : Fr }
    n_2 n_1 (getS { low := rr b.low, high := rr b.high : Fr } (W (W (n_2 + W ((W ((64 : Int) * if (if n < s then n else s) > (0 : Int) then if n < s then n else s else
    (0 : Int))).tdiv n)) - (64 : Int))) n_1)).low) (rr (setS { low := rowL (codI IntKind.u64) (16 : Nat) fun j => (codI IntKind.u64).enc (l.getD j (codI IntKind.u64).dft), high := rowL (codI IntKind.u64) (16 : Nat) fun j => (codI IntKind.u64).enc (l_2.getD j (codI IntKind.u64).dft) : Fr }
    n_2 n_1 (getS { low := rr b.low, high := rr b.high : Fr } (W (W (n_2 + W ((W ((64 : Int) * if (if n < s then n else s) > (0 : Int) then if n < s then n else s else
    (0 : Int))).tdiv n)) - (64 : Int))) n_1)).high) ∧ ((64 : Int) - W (n_2 + (1 : Int))).toNat < ((64 : Int) - n_2).toNat ∧ (k = k ∧ ((sm ((16 : Nat)) ∧ sm ((1 : Nat))
    ∧ ∀ (i : Nat), i < (16 : Nat) → sm (a.low.getD i (0 : Int)) ∧ True) ∧ (sm ((16 : Nat)) ∧ sm ((1 : Nat)) ∧ ∀ (i : Nat), i < (16 : Nat) → sm (a.high.getD i (0 : Int))
    ∧ True) ∧ True) ∧ ((sm ((16 : Nat)) ∧ sm ((1 : Nat)) ∧ ∀ (i : Nat), i < (16 : Nat) → sm (b.low.getD i (0 : Int)) ∧ True) ∧ (sm ((16 : Nat)) ∧ sm ((1 : Nat)) ∧ ∀
    (i : Nat), i < (16 : Nat) → sm (b.high.getD i (0 : Int)) ∧ True) ∧ True) ∧ (sm (if (if n < s then n else s) > (0 : Int) then if n < s then n else s else (0 : Int)))
    ∧ n = n ∧ True ∧ True ∧ True ∧ True ∧ True ∧ True ∧ sm ((0 : Int)) ∧ True ∧ sm (W ((W ((64 : Int) * if (if n < s then n else s) > (0 : Int) then if n < s then n
    else s else (0 : Int))).tdiv n)) ∧ n_1 = n_1 ∧ sm (W (n_2 + (1 : Int))) ∧ True ∧ k = k ∧ sm (decide (k < (0 : Int))) ∧ True ∧ k = k ∧ sm (decide (k > (5 : Int)))
    ∧ True ∧ True ∧ n = n ∧ sm (decide (n < (1 : Int))) ∧ True ∧ n = n ∧ sm (decide (n > (10000 : Int))) ∧ True ∧ True ∧ s = s ∧ n = n ∧ (sm (if n < s then n else s))
    ∧ (sm (if (if n < s then n else s) > (0 : Int) then if n < s then n else s else (0 : Int))) ∧ (sm (if (if n < s then n else s) > (0 : Int) then if n < s then n else
    s else (0 : Int))) ∧ sm (W ((64 : Int) * if (if n < s then n else s) > (0 : Int) then if n < s then n else s else (0 : Int))) ∧ n = n ∧ sm (W ((W ((64 : Int) * if
    (if n < s then n else s) > (0 : Int) then if n < s then n else s else (0 : Int))).tdiv n)) ∧ n_1 = n_1 ∧ True ∧ True ∧ True ∧ True ∧ True ∧ True ∧ True ∧ True ∧
    True ∧ True ∧ True ∧ True ∧ True ∧ True ∧ True ∧ True ∧ True ∧ True ∧ True ∧ True ∧ True ∧ True ∧ True ∧ True ∧ True ∧ True ∧ True ∧ True ∧ True ∧ True ∧ True ∧
    True ∧ True ∧ True ∧ True ∧ True ∧ True ∧ True ∧ True ∧ True ∧ True ∧ True ∧ True ∧ True ∧ True ∧ True ∧ True ∧ True ∧ True ∧ True ∧ True ∧ True ∧ True ∧ True) ∧
    ((if false = true then [] else List.map Seg.shape [Seg.a (16 : Nat) (1 : Nat) fun j => [SV.int IntKind.u64 (a.low.getD j (0 : Int))], Seg.a (16 : Nat) (1 : Nat)
    fun j => [SV.int IntKind.u64 (a.high.getD j (0 : Int))]]) = if false = true then [] else List.map Seg.shape [Seg.a (16 : Nat) (1 : Nat) fun j => [SV.int IntKind.u64
    (a.low.getD j (0 : Int))], Seg.a (16 : Nat) (1 : Nat) fun j => [SV.int IntKind.u64 (a.high.getD j (0 : Int))]]) ∧ ((sm ((16 : Nat)) ∧ sm ((1 : Nat)) ∧ ∀ (i : Nat),
    i < (16 : Nat) → sm (a.low.getD i (0 : Int)) ∧ True) ∧ (sm ((16 : Nat)) ∧ sm ((1 : Nat)) ∧ ∀ (i : Nat), i < (16 : Nat) → sm (a.high.getD i (0 : Int)) ∧ True) ∧ True)
    ∧ ((if false = true then [] else List.map Seg.shape [Seg.a (16 : Nat) (1 : Nat) fun j => [SV.int IntKind.u64 (b.low.getD j (0 : Int))], Seg.a (16 : Nat) (1 : Nat)
    fun j => [SV.int IntKind.u64 (b.high.getD j (0 : Int))]]) = if false = true then [] else List.map Seg.shape [Seg.a (16 : Nat) (1 : Nat) fun j => [SV.int IntKind.u64
    (b.low.getD j (0 : Int))], Seg.a (16 : Nat) (1 : Nat) fun j => [SV.int IntKind.u64 (b.high.getD j (0 : Int))]]) ∧ ((sm ((16 : Nat)) ∧ sm ((1 : Nat)) ∧ ∀ (i : Nat),
    i < (16 : Nat) → sm (b.low.getD i (0 : Int)) ∧ True) ∧ (sm ((16 : Nat)) ∧ sm ((1 : Nat)) ∧ ∀ (i : Nat), i < (16 : Nat) → sm (b.high.getD i (0 : Int)) ∧ True) ∧ True)
    ∧ ((if false = true then [] else List.map Seg.shape ([Seg.a (16 : Nat) (1 : Nat) fun x => [SV.int IntKind.u64 (0 : Int)]] ++ ([Seg.a (16 : Nat) (1 : Nat) fun x =>
    [SV.int IntKind.u64 (0 : Int)]] ++ []))) = if false = true then [] else List.map Seg.shape ([Seg.a (16 : Nat) (1 : Nat) fun x => [SV.int IntKind.u64 (0 : Int)]]
    ++ ([Seg.a (16 : Nat) (1 : Nat) fun x => [SV.int IntKind.u64 (0 : Int)]] ++ []))) ∧ ((sm ((16 : Nat)) ∧ sm ((1 : Nat)) ∧ ∀ (i : Nat), i < (16 : Nat) → sm ((0 : Int))
    ∧ True) ∧ (sm ((16 : Nat)) ∧ sm ((1 : Nat)) ∧ ∀ (i : Nat), i < (16 : Nat) → sm ((0 : Int)) ∧ True) ∧ True) ∧ ((if false = true then [] else List.map Seg.shape ([Seg.a
    (16 : Nat) (1 : Nat) fun x => [SV.int IntKind.u64 (0 : Int)]] ++ ([Seg.a (16 : Nat) (1 : Nat) fun x => [SV.int IntKind.u64 (0 : Int)]] ++ []))) = if false = true
    then [] else List.map Seg.shape ([Seg.a (16 : Nat) (1 : Nat) fun x => [SV.int IntKind.u64 (0 : Int)]] ++ ([Seg.a (16 : Nat) (1 : Nat) fun x => [SV.int IntKind.u64
    (0 : Int)]] ++ []))) ∧ ((sm ((16 : Nat)) ∧ (1 : Nat) = (codI IntKind.u64).n ∧ ∀ (i : Nat), i < (16 : Nat) → (setS { low := rowL (codI IntKind.u64) (16 : Nat) fun j => (codI IntKind.u64).enc (l.getD j (codI IntKind.u64).dft), high := rowL (codI IntKind.u64) (16 : Nat) fun j => (codI IntKind.u64).enc (l_2.getD j (codI IntKind.u64).dft) : Fr }
    n_2 n_1 (getS { low := rr b.low, high := rr b.high : Fr } (W (W (n_2 + W ((W ((64 : Int) * if (if n < s then n else s) > (0 : Int) then if n < s then n else s else
    (0 : Int))).tdiv n)) - (64 : Int))) n_1)).low.getD i (0 : Int) = (rr (setS { low := rowL (codI IntKind.u64) (16 : Nat) fun j => (codI IntKind.u64).enc (l.getD j (codI IntKind.u64).dft), high := rowL (codI IntKind.u64) (16 : Nat) fun j => (codI IntKind.u64).enc (l_2.getD j (codI IntKind.u64).dft) : Fr }
    n_2 n_1 (getS { low := rr b.low, high := rr b.high : Fr } (W (W (n_2 + W ((W ((64 : Int) * if (if n < s then n else s) > (0 : Int) then if n < s then n else s else
    (0 : Int))).tdiv n)) - (64 : Int))) n_1)).low).getD i (codI IntKind.u64).dft ∧ True) ∧ (sm ((16 : Nat)) ∧ (1 : Nat) = (codI IntKind.u64).n ∧ ∀ (i : Nat), i < (16
    : Nat) → (setS { low := rowL (codI IntKind.u64) (16 : Nat) fun j => (codI IntKind.u64).enc (l.getD j (codI IntKind.u64).dft), high := rowL (codI IntKind.u64) (16 : Nat) fun j => (codI IntKind.u64).enc (l_2.getD j (codI IntKind.u64).dft) : Fr }
    n_2 n_1 (getS { low := rr b.low, high := rr b.high : Fr } (W (W (n_2 + W ((W ((64 : Int) * if (if n < s then n else s) > (0 : Int) then if n < s then n else s else
    (0 : Int))).tdiv n)) - (64 : Int))) n_1)).high.getD i (0 : Int) = (rr (setS { low := rowL (codI IntKind.u64) (16 : Nat) fun j => (codI IntKind.u64).enc (l.getD j (codI IntKind.u64).dft), high := rowL (codI IntKind.u64) (16 : Nat) fun j => (codI IntKind.u64).enc (l_2.getD j (codI IntKind.u64).dft) : Fr }
    n_2 n_1 (getS { low := rr b.low, high := rr b.high : Fr } (W (W (n_2 + W ((W ((64 : Int) * if (if n < s then n else s) > (0 : Int) then if n < s then n else s else
    (0 : Int))).tdiv n)) - (64 : Int))) n_1)).high).getD i (codI IntKind.u64).dft ∧ True) ∧ True) ∧ True) ∧ ((k == (5 : Int)) = false → True ∧ True ∧ True ∧ True ∧ True
    ∧ ((True ∧ True ∧ True ∧ True ∧ True) ∧ (0 : Int) ≤ n_2 ∧ n_2 < (64 : Int) ∧ (0 : Int) ≤ n_1 ∧ n_1 < (16 : Int) ∧ (1 : Int) ≤ n ∧ n ≤ (10000 : Int) ∧ ((0 : Int)
    ≤ if (if n < s then n else s) > (0 : Int) then if n < s then n else s else (0 : Int)) ∧ (if (if n < s then n else s) > (0 : Int) then if n < s then n else s else
    (0 : Int)) ≤ n) ∧ True ∧ (fromS k n_2 n_1 (if (if n < s then n else s) > (0 : Int) then if n < s then n else s else (0 : Int)) n = true → (t16 ∧ t16 ∧ True) ∧ True
    ∧ True ∧ ((((∀ (i : Nat), i < (16 : Nat) → true = true ∧ True) ∧ ∀ (i : Nat), i < (16 : Nat) → true = true ∧ True) ∧ True ∧ True) ∧ okF { low := rr b.low, high := rr b.high : Fr })
    ∧ True ∧ (t16 ∧ t16 ∧ True) ∧ True ∧ True ∧ True ∧ ((((∀ (i : Nat), i < (16 : Nat) → true = true ∧ True) ∧ ∀ (i : Nat), i < (16 : Nat) → true = true ∧ True) ∧ True
    ∧ True ∧ True) ∧ okF { low := rowL (codI IntKind.u64) (16 : Nat) fun j => (codI IntKind.u64).enc (l.getD j (codI IntKind.u64).dft), high := rowL (codI IntKind.u64) (16 : Nat) fun j => (codI IntKind.u64).enc (l_2.getD j (codI IntKind.u64).dft) : Fr })
    ∧ t16 ∧ t16 ∧ True ∧ True ∧ DotI (lv zeroF) (blendL k a b (clp s (0 : Int) n) n) n_1 (W (n_2 + (1 : Int))) (rr (setS { low := rowL (codI IntKind.u64) (16 : Nat) fun j => (codI IntKind.u64).enc (l.getD j (codI IntKind.u64).dft), high := rowL (codI IntKind.u64) (16 : Nat) fun j => (codI IntKind.u64).enc (l_2.getD j (codI IntKind.u64).dft) : Fr }
    n_2 n_1 (getS { low := rr b.low, high := rr b.high : Fr } n_2 n_1)).low) (rr (setS { low := rowL (codI IntKind.u64) (16 : Nat) fun j => (codI IntKind.u64).enc (l.getD j (codI IntKind.u64).dft), high := rowL (codI IntKind.u64) (16 : Nat) fun j => (codI IntKind.u64).enc (l_2.getD j (codI IntKind.u64).dft) : Fr }
    n_2 n_1 (getS { low := rr b.low, high := rr b.high : Fr } n_2 n_1)).high) ∧ ((64 : Int) - W (n_2 + (1 : Int))).toNat < ((64 : Int) - n_2).toNat ∧ (k = k ∧ ((sm ((16
    : Nat)) ∧ sm ((1 : Nat)) ∧ ∀ (i : Nat), i < (16 : Nat) → sm (a.low.getD i (0 : Int)) ∧ True) ∧ (sm ((16 : Nat)) ∧ sm ((1 : Nat)) ∧ ∀ (i : Nat), i < (16 : Nat) →
    sm (a.high.getD i (0 : Int)) ∧ True) ∧ True) ∧ ((sm ((16 : Nat)) ∧ sm ((1 : Nat)) ∧ ∀ (i : Nat), i < (16 : Nat) → sm (b.low.getD i (0 : Int)) ∧ True) ∧ (sm ((16
    : Nat)) ∧ sm ((1 : Nat)) ∧ ∀ (i : Nat), i < (16 : Nat) → sm (b.high.getD i (0 : Int)) ∧ True) ∧ True) ∧ (sm (if (if n < s then n else s) > (0 : Int) then if n <
    s then n else s else (0 : Int))) ∧ n = n ∧ True ∧ True ∧ True ∧ True ∧ True ∧ True ∧ sm ((0 : Int)) ∧ True ∧ sm (W ((W ((64 : Int) * if (if n < s then n else s)
    > (0 : Int) then if n < s then n else s else (0 : Int))).tdiv n)) ∧ n_1 = n_1 ∧ sm (W (n_2 + (1 : Int))) ∧ True ∧ k = k ∧ sm (decide (k < (0 : Int))) ∧ True ∧ k
    = k ∧ sm (decide (k > (5 : Int))) ∧ True ∧ True ∧ n = n ∧ sm (decide (n < (1 : Int))) ∧ True ∧ n = n ∧ sm (decide (n > (10000 : Int))) ∧ True ∧ True ∧ s = s ∧ n
    = n ∧ (sm (if n < s then n else s)) ∧ (sm (if (if n < s then n else s) > (0 : Int) then if n < s then n else s else (0 : Int))) ∧ (sm (if (if n < s then n else s)
    > (0 : Int) then if n < s then n else s else (0 : Int))) ∧ sm (W ((64 : Int) * if (if n < s then n else s) > (0 : Int) then if n < s then n else s else (0 : Int)))
    ∧ n = n ∧ sm (W ((W ((64 : Int) * if (if n < s then n else s) > (0 : Int) then if n < s then n else s else (0 : Int))).tdiv n)) ∧ n_1 = n_1 ∧ True ∧ True ∧ True
    ∧ True ∧ True ∧ True ∧ True ∧ True ∧ True ∧ True ∧ True ∧ True ∧ True ∧ True ∧ True ∧ True ∧ True ∧ True ∧ True ∧ True ∧ True ∧ True ∧ True ∧ True ∧ True ∧ True
    ∧ True ∧ True ∧ True ∧ True ∧ True ∧ True ∧ True ∧ True ∧ True ∧ True ∧ True ∧ True ∧ True ∧ True ∧ True ∧ True ∧ True ∧ True ∧ True ∧ True ∧ True ∧ True ∧ True
    ∧ True ∧ True ∧ True ∧ True ∧ True) ∧ ((if false = true then [] else List.map Seg.shape [Seg.a (16 : Nat) (1 : Nat) fun j => [SV.int IntKind.u64 (a.low.getD j (0
    : Int))], Seg.a (16 : Nat) (1 : Nat) fun j => [SV.int IntKind.u64 (a.high.getD j (0 : Int))]]) = if false = true then [] else List.map Seg.shape [Seg.a (16 : Nat)
    (1 : Nat) fun j => [SV.int IntKind.u64 (a.low.getD j (0 : Int))], Seg.a (16 : Nat) (1 : Nat) fun j => [SV.int IntKind.u64 (a.high.getD j (0 : Int))]]) ∧ ((sm ((16
    : Nat)) ∧ sm ((1 : Nat)) ∧ ∀ (i : Nat), i < (16 : Nat) → sm (a.low.getD i (0 : Int)) ∧ True) ∧ (sm ((16 : Nat)) ∧ sm ((1 : Nat)) ∧ ∀ (i : Nat), i < (16 : Nat) →
    sm (a.high.getD i (0 : Int)) ∧ True) ∧ True) ∧ ((if false = true then [] else List.map Seg.shape [Seg.a (16 : Nat) (1 : Nat) fun j => [SV.int IntKind.u64 (b.low.getD
    j (0 : Int))], Seg.a (16 : Nat) (1 : Nat) fun j => [SV.int IntKind.u64 (b.high.getD j (0 : Int))]]) = if false = true then [] else List.map Seg.shape [Seg.a (16
    : Nat) (1 : Nat) fun j => [SV.int IntKind.u64 (b.low.getD j (0 : Int))], Seg.a (16 : Nat) (1 : Nat) fun j => [SV.int IntKind.u64 (b.high.getD j (0 : Int))]]) ∧ ((sm
    ((16 : Nat)) ∧ sm ((1 : Nat)) ∧ ∀ (i : Nat), i < (16 : Nat) → sm (b.low.getD i (0 : Int)) ∧ True) ∧ (sm ((16 : Nat)) ∧ sm ((1 : Nat)) ∧ ∀ (i : Nat), i < (16 : Nat)
    → sm (b.high.getD i (0 : Int)) ∧ True) ∧ True) ∧ ((if false = true then [] else List.map Seg.shape ([Seg.a (16 : Nat) (1 : Nat) fun x => [SV.int IntKind.u64 (0 :
    Int)]] ++ ([Seg.a (16 : Nat) (1 : Nat) fun x => [SV.int IntKind.u64 (0 : Int)]] ++ []))) = if false = true then [] else List.map Seg.shape ([Seg.a (16 : Nat) (1
    : Nat) fun x => [SV.int IntKind.u64 (0 : Int)]] ++ ([Seg.a (16 : Nat) (1 : Nat) fun x => [SV.int IntKind.u64 (0 : Int)]] ++ []))) ∧ ((sm ((16 : Nat)) ∧ sm ((1 :
    Nat)) ∧ ∀ (i : Nat), i < (16 : Nat) → sm ((0 : Int)) ∧ True) ∧ (sm ((16 : Nat)) ∧ sm ((1 : Nat)) ∧ ∀ (i : Nat), i < (16 : Nat) → sm ((0 : Int)) ∧ True) ∧ True) ∧
    ((if false = true then [] else List.map Seg.shape ([Seg.a (16 : Nat) (1 : Nat) fun x => [SV.int IntKind.u64 (0 : Int)]] ++ ([Seg.a (16 : Nat) (1 : Nat) fun x =>
    [SV.int IntKind.u64 (0 : Int)]] ++ []))) = if false = true then [] else List.map Seg.shape ([Seg.a (16 : Nat) (1 : Nat) fun x => [SV.int IntKind.u64 (0 : Int)]]
    ++ ([Seg.a (16 : Nat) (1 : Nat) fun x => [SV.int IntKind.u64 (0 : Int)]] ++ []))) ∧ ((sm ((16 : Nat)) ∧ (1 : Nat) = (codI IntKind.u64).n ∧ ∀ (i : Nat), i < (16 :
    Nat) → (setS { low := rowL (codI IntKind.u64) (16 : Nat) fun j => (codI IntKind.u64).enc (l.getD j (codI IntKind.u64).dft), high := rowL (codI IntKind.u64) (16 : Nat) fun j => (codI IntKind.u64).enc (l_2.getD j (codI IntKind.u64).dft) : Fr }
    n_2 n_1 (getS { low := rr b.low, high := rr b.high : Fr } n_2 n_1)).low.getD i (0 : Int) = (rr (setS { low := rowL (codI IntKind.u64) (16 : Nat) fun j => (codI IntKind.u64).enc (l.getD j (codI IntKind.u64).dft), high := rowL (codI IntKind.u64) (16 : Nat) fun j => (codI IntKind.u64).enc (l_2.getD j (codI IntKind.u64).dft) : Fr }
    n_2 n_1 (getS { low := rr b.low, high := rr b.high : Fr } n_2 n_1)).low).getD i (codI IntKind.u64).dft ∧ True) ∧ (sm ((16 : Nat)) ∧ (1 : Nat) = (codI IntKind.u64).n
    ∧ ∀ (i : Nat), i < (16 : Nat) → (setS { low := rowL (codI IntKind.u64) (16 : Nat) fun j => (codI IntKind.u64).enc (l.getD j (codI IntKind.u64).dft), high := rowL (codI IntKind.u64) (16 : Nat) fun j => (codI IntKind.u64).enc (l_2.getD j (codI IntKind.u64).dft) : Fr }
    n_2 n_1 (getS { low := rr b.low, high := rr b.high : Fr } n_2 n_1)).high.getD i (0 : Int) = (rr (setS { low := rowL (codI IntKind.u64) (16 : Nat) fun j => (codI IntKind.u64).enc (l.getD j (codI IntKind.u64).dft), high := rowL (codI IntKind.u64) (16 : Nat) fun j => (codI IntKind.u64).enc (l_2.getD j (codI IntKind.u64).dft) : Fr }
    n_2 n_1 (getS { low := rr b.low, high := rr b.high : Fr } n_2 n_1)).high).getD i (codI IntKind.u64).dft ∧ True) ∧ True) ∧ True) ∧ (fromS k n_2 n_1 (if (if n < s
    then n else s) > (0 : Int) then if n < s then n else s else (0 : Int)) n = false → (t16 ∧ t16 ∧ True) ∧ True ∧ True ∧ True ∧ ((((∀ (i : Nat), i < (16 : Nat) → true
    = true ∧ True) ∧ ∀ (i : Nat), i < (16 : Nat) → true = true ∧ True) ∧ True ∧ True ∧ True) ∧ okF { low := rowL (codI IntKind.u64) (16 : Nat) fun j => (codI IntKind.u64).enc (l.getD j (codI IntKind.u64).dft), high := rowL (codI IntKind.u64) (16 : Nat) fun j => (codI IntKind.u64).enc (l_2.getD j (codI IntKind.u64).dft) : Fr })
    ∧ t16 ∧ t16 ∧ True ∧ True ∧ DotI (lv zeroF) (blendL k a b (clp s (0 : Int) n) n) n_1 (W (n_2 + (1 : Int))) (rr (setS { low := rowL (codI IntKind.u64) (16 : Nat) fun j => (codI IntKind.u64).enc (l.getD j (codI IntKind.u64).dft), high := rowL (codI IntKind.u64) (16 : Nat) fun j => (codI IntKind.u64).enc (l_2.getD j (codI IntKind.u64).dft) : Fr }
    n_2 n_1 (getS { low := rr a.low, high := rr a.high : Fr } n_2 n_1)).low) (rr (setS { low := rowL (codI IntKind.u64) (16 : Nat) fun j => (codI IntKind.u64).enc (l.getD j (codI IntKind.u64).dft), high := rowL (codI IntKind.u64) (16 : Nat) fun j => (codI IntKind.u64).enc (l_2.getD j (codI IntKind.u64).dft) : Fr }
    n_2 n_1 (getS { low := rr a.low, high := rr a.high : Fr } n_2 n_1)).high) ∧ ((64 : Int) - W (n_2 + (1 : Int))).toNat < ((64 : Int) - n_2).toNat ∧ (k = k ∧ ((sm ((16
    : Nat)) ∧ sm ((1 : Nat)) ∧ ∀ (i : Nat), i < (16 : Nat) → sm (a.low.getD i (0 : Int)) ∧ True) ∧ (sm ((16 : Nat)) ∧ sm ((1 : Nat)) ∧ ∀ (i : Nat), i < (16 : Nat) →
    sm (a.high.getD i (0 : Int)) ∧ True) ∧ True) ∧ ((sm ((16 : Nat)) ∧ sm ((1 : Nat)) ∧ ∀ (i : Nat), i < (16 : Nat) → sm (b.low.getD i (0 : Int)) ∧ True) ∧ (sm ((16
    : Nat)) ∧ sm ((1 : Nat)) ∧ ∀ (i : Nat), i < (16 : Nat) → sm (b.high.getD i (0 : Int)) ∧ True) ∧ True) ∧ (sm (if (if n < s then n else s) > (0 : Int) then if n <
    s then n else s else (0 : Int))) ∧ n = n ∧ True ∧ True ∧ True ∧ True ∧ True ∧ True ∧ sm ((0 : Int)) ∧ True ∧ sm (W ((W ((64 : Int) * if (if n < s then n else s)
    > (0 : Int) then if n < s then n else s else (0 : Int))).tdiv n)) ∧ n_1 = n_1 ∧ sm (W (n_2 + (1 : Int))) ∧ True ∧ k = k ∧ sm (decide (k < (0 : Int))) ∧ True ∧ k
    = k ∧ sm (decide (k > (5 : Int))) ∧ True ∧ True ∧ n = n ∧ sm (decide (n < (1 : Int))) ∧ True ∧ n = n ∧ sm (decide (n > (10000 : Int))) ∧ True ∧ True ∧ s = s ∧ n
    = n ∧ (sm (if n < s then n else s)) ∧ (sm (if (if n < s then n else s) > (0 : Int) then if n < s then n else s else (0 : Int))) ∧ (sm (if (if n < s then n else s)
    > (0 : Int) then if n < s then n else s else (0 : Int))) ∧ sm (W ((64 : Int) * if (if n < s then n else s) > (0 : Int) then if n < s then n else s else (0 : Int)))
    ∧ n = n ∧ sm (W ((W ((64 : Int) * if (if n < s then n else s) > (0 : Int) then if n < s then n else s else (0 : Int))).tdiv n)) ∧ n_1 = n_1 ∧ True ∧ True ∧ True
    ∧ True ∧ True ∧ True ∧ True ∧ True ∧ True ∧ True ∧ True ∧ True ∧ True ∧ True ∧ True ∧ True ∧ True ∧ True ∧ True ∧ True ∧ True ∧ True ∧ True ∧ True ∧ True ∧ True
    ∧ True ∧ True ∧ True ∧ True ∧ True ∧ True ∧ True ∧ True ∧ True ∧ True ∧ True ∧ True ∧ True ∧ True ∧ True ∧ True ∧ True ∧ True ∧ True ∧ True ∧ True ∧ True ∧ True
    ∧ True ∧ True ∧ True ∧ True ∧ True) ∧ ((if false = true then [] else List.map Seg.shape [Seg.a (16 : Nat) (1 : Nat) fun j => [SV.int IntKind.u64 (a.low.getD j (0
    : Int))], Seg.a (16 : Nat) (1 : Nat) fun j => [SV.int IntKind.u64 (a.high.getD j (0 : Int))]]) = if false = true then [] else List.map Seg.shape [Seg.a (16 : Nat)
    (1 : Nat) fun j => [SV.int IntKind.u64 (a.low.getD j (0 : Int))], Seg.a (16 : Nat) (1 : Nat) fun j => [SV.int IntKind.u64 (a.high.getD j (0 : Int))]]) ∧ ((sm ((16
    : Nat)) ∧ sm ((1 : Nat)) ∧ ∀ (i : Nat), i < (16 : Nat) → sm (a.low.getD i (0 : Int)) ∧ True) ∧ (sm ((16 : Nat)) ∧ sm ((1 : Nat)) ∧ ∀ (i : Nat), i < (16 : Nat) →
    sm (a.high.getD i (0 : Int)) ∧ True) ∧ True) ∧ ((if false = true then [] else List.map Seg.shape [Seg.a (16 : Nat) (1 : Nat) fun j => [SV.int IntKind.u64 (b.low.getD
    j (0 : Int))], Seg.a (16 : Nat) (1 : Nat) fun j => [SV.int IntKind.u64 (b.high.getD j (0 : Int))]]) = if false = true then [] else List.map Seg.shape [Seg.a (16
    : Nat) (1 : Nat) fun j => [SV.int IntKind.u64 (b.low.getD j (0 : Int))], Seg.a (16 : Nat) (1 : Nat) fun j => [SV.int IntKind.u64 (b.high.getD j (0 : Int))]]) ∧ ((sm
    ((16 : Nat)) ∧ sm ((1 : Nat)) ∧ ∀ (i : Nat), i < (16 : Nat) → sm (b.low.getD i (0 : Int)) ∧ True) ∧ (sm ((16 : Nat)) ∧ sm ((1 : Nat)) ∧ ∀ (i : Nat), i < (16 : Nat)
    → sm (b.high.getD i (0 : Int)) ∧ True) ∧ True) ∧ ((if false = true then [] else List.map Seg.shape ([Seg.a (16 : Nat) (1 : Nat) fun x => [SV.int IntKind.u64 (0 :
    Int)]] ++ ([Seg.a (16 : Nat) (1 : Nat) fun x => [SV.int IntKind.u64 (0 : Int)]] ++ []))) = if false = true then [] else List.map Seg.shape ([Seg.a (16 : Nat) (1
    : Nat) fun x => [SV.int IntKind.u64 (0 : Int)]] ++ ([Seg.a (16 : Nat) (1 : Nat) fun x => [SV.int IntKind.u64 (0 : Int)]] ++ []))) ∧ ((sm ((16 : Nat)) ∧ sm ((1 :
    Nat)) ∧ ∀ (i : Nat), i < (16 : Nat) → sm ((0 : Int)) ∧ True) ∧ (sm ((16 : Nat)) ∧ sm ((1 : Nat)) ∧ ∀ (i : Nat), i < (16 : Nat) → sm ((0 : Int)) ∧ True) ∧ True) ∧
    ((if false = true then [] else List.map Seg.shape ([Seg.a (16 : Nat) (1 : Nat) fun x => [SV.int IntKind.u64 (0 : Int)]] ++ ([Seg.a (16 : Nat) (1 : Nat) fun x =>
    [SV.int IntKind.u64 (0 : Int)]] ++ []))) = if false = true then [] else List.map Seg.shape ([Seg.a (16 : Nat) (1 : Nat) fun x => [SV.int IntKind.u64 (0 : Int)]]
    ++ ([Seg.a (16 : Nat) (1 : Nat) fun x => [SV.int IntKind.u64 (0 : Int)]] ++ []))) ∧ ((sm ((16 : Nat)) ∧ (1 : Nat) = (codI IntKind.u64).n ∧ ∀ (i : Nat), i < (16 :
    Nat) → (setS { low := rowL (codI IntKind.u64) (16 : Nat) fun j => (codI IntKind.u64).enc (l.getD j (codI IntKind.u64).dft), high := rowL (codI IntKind.u64) (16 : Nat) fun j => (codI IntKind.u64).enc (l_2.getD j (codI IntKind.u64).dft) : Fr }
    n_2 n_1 (getS { low := rr a.low, high := rr a.high : Fr } n_2 n_1)).low.getD i (0 : Int) = (rr (setS { low := rowL (codI IntKind.u64) (16 : Nat) fun j => (codI IntKind.u64).enc (l.getD j (codI IntKind.u64).dft), high := rowL (codI IntKind.u64) (16 : Nat) fun j => (codI IntKind.u64).enc (l_2.getD j (codI IntKind.u64).dft) : Fr }
    n_2 n_1 (getS { low := rr a.low, high := rr a.high : Fr } n_2 n_1)).low).getD i (codI IntKind.u64).dft ∧ True) ∧ (sm ((16 : Nat)) ∧ (1 : Nat) = (codI IntKind.u64).n
    ∧ ∀ (i : Nat), i < (16 : Nat) → (setS { low := rowL (codI IntKind.u64) (16 : Nat) fun j => (codI IntKind.u64).enc (l.getD j (codI IntKind.u64).dft), high := rowL (codI IntKind.u64) (16 : Nat) fun j => (codI IntKind.u64).enc (l_2.getD j (codI IntKind.u64).dft) : Fr }
    n_2 n_1 (getS { low := rr a.low, high := rr a.high : Fr } n_2 n_1)).high.getD i (0 : Int) = (rr (setS { low := rowL (codI IntKind.u64) (16 : Nat) fun j => (codI IntKind.u64).enc (l.getD j (codI IntKind.u64).dft), high := rowL (codI IntKind.u64) (16 : Nat) fun j => (codI IntKind.u64).enc (l_2.getD j (codI IntKind.u64).dft) : Fr }
    n_2 n_1 (getS { low := rr a.low, high := rr a.high : Fr } n_2 n_1)).high).getD i (codI IntKind.u64).dft ∧ True) ∧ True) ∧ True)))) ∧ ((k == (5 : Int)) = false →
    True ∧ True ∧ ((k == (5 : Int)) = true → (t16 ∧ t16 ∧ True) ∧ True ∧ True ∧ ((((∀ (i : Nat), i < (16 : Nat) → true = true ∧ True) ∧ ∀ (i : Nat), i < (16 : Nat) →
    true = true ∧ True) ∧ True ∧ True) ∧ okF { low := rr b.low, high := rr b.high : Fr }) ∧ True ∧ (t16 ∧ t16 ∧ True) ∧ True ∧ True ∧ True ∧ ((((∀ (i : Nat), i < (16
    : Nat) → true = true ∧ True) ∧ ∀ (i : Nat), i < (16 : Nat) → true = true ∧ True) ∧ True ∧ True ∧ True) ∧ okF { low := rowL (codI IntKind.u64) (16 : Nat) fun j => (codI IntKind.u64).enc (l.getD j (codI IntKind.u64).dft), high := rowL (codI IntKind.u64) (16 : Nat) fun j => (codI IntKind.u64).enc (l_2.getD j (codI IntKind.u64).dft) : Fr })
    ∧ t16 ∧ t16 ∧ True ∧ True ∧ DotI (lv zeroF) (blendL k a b (clp s (0 : Int) n) n) n_1 (W (n_2 + (1 : Int))) (rr (setS { low := rowL (codI IntKind.u64) (16 : Nat) fun j => (codI IntKind.u64).enc (l.getD j (codI IntKind.u64).dft), high := rowL (codI IntKind.u64) (16 : Nat) fun j => (codI IntKind.u64).enc (l_2.getD j (codI IntKind.u64).dft) : Fr }
    n_2 n_1 (getS { low := rr b.low, high := rr b.high : Fr } (W (W (n_2 + W ((W ((64 : Int) * if (if n < s then n else s) > (0 : Int) then if n < s then n else s else
    (0 : Int))).tdiv n)) - (64 : Int))) n_1)).low) (rr (setS { low := rowL (codI IntKind.u64) (16 : Nat) fun j => (codI IntKind.u64).enc (l.getD j (codI IntKind.u64).dft), high := rowL (codI IntKind.u64) (16 : Nat) fun j => (codI IntKind.u64).enc (l_2.getD j (codI IntKind.u64).dft) : Fr }
    n_2 n_1 (getS { low := rr b.low, high := rr b.high : Fr } (W (W (n_2 + W ((W ((64 : Int) * if (if n < s then n else s) > (0 : Int) then if n < s then n else s else
    (0 : Int))).tdiv n)) - (64 : Int))) n_1)).high) ∧ ((64 : Int) - W (n_2 + (1 : Int))).toNat < ((64 : Int) - n_2).toNat ∧ (k = k ∧ ((sm ((16 : Nat)) ∧ sm ((1 : Nat))
    ∧ ∀ (i : Nat), i < (16 : Nat) → sm (a.low.getD i (0 : Int)) ∧ True) ∧ (sm ((16 : Nat)) ∧ sm ((1 : Nat)) ∧ ∀ (i : Nat), i < (16 : Nat) → sm (a.high.getD i (0 : Int))
    ∧ True) ∧ True) ∧ ((sm ((16 : Nat)) ∧ sm ((1 : Nat)) ∧ ∀ (i : Nat), i < (16 : Nat) → sm (b.low.getD i (0 : Int)) ∧ True) ∧ (sm ((16 : Nat)) ∧ sm ((1 : Nat)) ∧ ∀
    (i : Nat), i < (16 : Nat) → sm (b.high.getD i (0 : Int)) ∧ True) ∧ True) ∧ (sm (if (if n < s then n else s) > (0 : Int) then if n < s then n else s else (0 : Int)))
    ∧ n = n ∧ True ∧ True ∧ True ∧ True ∧ True ∧ True ∧ sm ((0 : Int)) ∧ True ∧ sm (W ((W ((64 : Int) * if (if n < s then n else s) > (0 : Int) then if n < s then n
    else s else (0 : Int))).tdiv n)) ∧ n_1 = n_1 ∧ sm (W (n_2 + (1 : Int))) ∧ True ∧ k = k ∧ sm (decide (k < (0 : Int))) ∧ True ∧ k = k ∧ sm (decide (k > (5 : Int)))
    ∧ True ∧ True ∧ n = n ∧ sm (decide (n < (1 : Int))) ∧ True ∧ n = n ∧ sm (decide (n > (10000 : Int))) ∧ True ∧ True ∧ s = s ∧ n = n ∧ (sm (if n < s then n else s))
    ∧ (sm (if (if n < s then n else s) > (0 : Int) then if n < s then n else s else (0 : Int))) ∧ (sm (if (if n < s then n else s) > (0 : Int) then if n < s then n else
    s else (0 : Int))) ∧ sm (W ((64 : Int) * if (if n < s then n else s) > (0 : Int) then if n < s then n else s else (0 : Int))) ∧ n = n ∧ sm (W ((W ((64 : Int) * if
    (if n < s then n else s) > (0 : Int) then if n < s then n else s else (0 : Int))).tdiv n)) ∧ n_1 = n_1 ∧ True ∧ True ∧ True ∧ True ∧ True ∧ True ∧ True ∧ True ∧
    True ∧ True ∧ True ∧ True ∧ True ∧ True ∧ True ∧ True ∧ True ∧ True ∧ True ∧ True ∧ True ∧ True ∧ True ∧ True ∧ True ∧ True ∧ True ∧ True ∧ True ∧ True ∧ True ∧
    True ∧ True ∧ True ∧ True ∧ True ∧ True ∧ True ∧ True ∧ True ∧ True ∧ True ∧ True ∧ True ∧ True ∧ True ∧ True ∧ True ∧ True ∧ True ∧ True ∧ True ∧ True ∧ True) ∧
    ((if false = true then [] else List.map Seg.shape [Seg.a (16 : Nat) (1 : Nat) fun j => [SV.int IntKind.u64 (a.low.getD j (0 : Int))], Seg.a (16 : Nat) (1 : Nat)
    fun j => [SV.int IntKind.u64 (a.high.getD j (0 : Int))]]) = if false = true then [] else List.map Seg.shape [Seg.a (16 : Nat) (1 : Nat) fun j => [SV.int IntKind.u64
    (a.low.getD j (0 : Int))], Seg.a (16 : Nat) (1 : Nat) fun j => [SV.int IntKind.u64 (a.high.getD j (0 : Int))]]) ∧ ((sm ((16 : Nat)) ∧ sm ((1 : Nat)) ∧ ∀ (i : Nat),
    i < (16 : Nat) → sm (a.low.getD i (0 : Int)) ∧ True) ∧ (sm ((16 : Nat)) ∧ sm ((1 : Nat)) ∧ ∀ (i : Nat), i < (16 : Nat) → sm (a.high.getD i (0 : Int)) ∧ True) ∧ True)
    ∧ ((if false = true then [] else List.map Seg.shape [Seg.a (16 : Nat) (1 : Nat) fun j => [SV.int IntKind.u64 (b.low.getD j (0 : Int))], Seg.a (16 : Nat) (1 : Nat)
    fun j => [SV.int IntKind.u64 (b.high.getD j (0 : Int))]]) = if false = true then [] else List.map Seg.shape [Seg.a (16 : Nat) (1 : Nat) fun j => [SV.int IntKind.u64
    (b.low.getD j (0 : Int))], Seg.a (16 : Nat) (1 : Nat) fun j => [SV.int IntKind.u64 (b.high.getD j (0 : Int))]]) ∧ ((sm ((16 : Nat)) ∧ sm ((1 : Nat)) ∧ ∀ (i : Nat),
    i < (16 : Nat) → sm (b.low.getD i (0 : Int)) ∧ True) ∧ (sm ((16 : Nat)) ∧ sm ((1 : Nat)) ∧ ∀ (i : Nat), i < (16 : Nat) → sm (b.high.getD i (0 : Int)) ∧ True) ∧ True)
    ∧ ((if false = true then [] else List.map Seg.shape ([Seg.a (16 : Nat) (1 : Nat) fun x => [SV.int IntKind.u64 (0 : Int)]] ++ ([Seg.a (16 : Nat) (1 : Nat) fun x =>
    [SV.int IntKind.u64 (0 : Int)]] ++ []))) = if false = true then [] else List.map Seg.shape ([Seg.a (16 : Nat) (1 : Nat) fun x => [SV.int IntKind.u64 (0 : Int)]]
    ++ ([Seg.a (16 : Nat) (1 : Nat) fun x => [SV.int IntKind.u64 (0 : Int)]] ++ []))) ∧ ((sm ((16 : Nat)) ∧ sm ((1 : Nat)) ∧ ∀ (i : Nat), i < (16 : Nat) → sm ((0 : Int))
    ∧ True) ∧ (sm ((16 : Nat)) ∧ sm ((1 : Nat)) ∧ ∀ (i : Nat), i < (16 : Nat) → sm ((0 : Int)) ∧ True) ∧ True) ∧ ((if false = true then [] else List.map Seg.shape ([Seg.a
    (16 : Nat) (1 : Nat) fun x => [SV.int IntKind.u64 (0 : Int)]] ++ ([Seg.a (16 : Nat) (1 : Nat) fun x => [SV.int IntKind.u64 (0 : Int)]] ++ []))) = if false = true
    then [] else List.map Seg.shape ([Seg.a (16 : Nat) (1 : Nat) fun x => [SV.int IntKind.u64 (0 : Int)]] ++ ([Seg.a (16 : Nat) (1 : Nat) fun x => [SV.int IntKind.u64
    (0 : Int)]] ++ []))) ∧ ((sm ((16 : Nat)) ∧ (1 : Nat) = (codI IntKind.u64).n ∧ ∀ (i : Nat), i < (16 : Nat) → (setS { low := rowL (codI IntKind.u64) (16 : Nat) fun j => (codI IntKind.u64).enc (l.getD j (codI IntKind.u64).dft), high := rowL (codI IntKind.u64) (16 : Nat) fun j => (codI IntKind.u64).enc (l_2.getD j (codI IntKind.u64).dft) : Fr }
    n_2 n_1 (getS { low := rr b.low, high := rr b.high : Fr } (W (W (n_2 + W ((W ((64 : Int) * if (if n < s then n else s) > (0 : Int) then if n < s then n else s else
    (0 : Int))).tdiv n)) - (64 : Int))) n_1)).low.getD i (0 : Int) = (rr (setS { low := rowL (codI IntKind.u64) (16 : Nat) fun j => (codI IntKind.u64).enc (l.getD j (codI IntKind.u64).dft), high := rowL (codI IntKind.u64) (16 : Nat) fun j => (codI IntKind.u64).enc (l_2.getD j (codI IntKind.u64).dft) : Fr }
    n_2 n_1 (getS { low := rr b.low, high := rr b.high : Fr } (W (W (n_2 + W ((W ((64 : Int) * if (if n < s then n else s) > (0 : Int) then if n < s then n else s else
    (0 : Int))).tdiv n)) - (64 : Int))) n_1)).low).getD i (codI IntKind.u64).dft ∧ True) ∧ (sm ((16 : Nat)) ∧ (1 : Nat) = (codI IntKind.u64).n ∧ ∀ (i : Nat), i < (16
    : Nat) → (setS { low := rowL (codI IntKind.u64) (16 : Nat) fun j => (codI IntKind.u64).enc (l.getD j (codI IntKind.u64).dft), high := rowL (codI IntKind.u64) (16 : Nat) fun j => (codI IntKind.u64).enc (l_2.getD j (codI IntKind.u64).dft) : Fr }
    n_2 n_1 (getS { low := rr b.low, high := rr b.high : Fr } (W (W (n_2 + W ((W ((64 : Int) * if (if n < s then n else s) > (0 : Int) then if n < s then n else s else
    (0 : Int))).tdiv n)) - (64 : Int))) n_1)).high.getD i (0 : Int) = (rr (setS { low := rowL (codI IntKind.u64) (16 : Nat) fun j => (codI IntKind.u64).enc (l.getD j (codI IntKind.u64).dft), high := rowL (codI IntKind.u64) (16 : Nat) fun j => (codI IntKind.u64).enc (l_2.getD j (codI IntKind.u64).dft) : Fr }
    n_2 n_1 (getS { low := rr b.low, high := rr b.high : Fr } (W (W (n_2 + W ((W ((64 : Int) * if (if n < s then n else s) > (0 : Int) then if n < s then n else s else
    (0 : Int))).tdiv n)) - (64 : Int))) n_1)).high).getD i (codI IntKind.u64).dft ∧ True) ∧ True) ∧ True) ∧ ((k == (5 : Int)) = false → True ∧ True ∧ True ∧ True ∧ True
    ∧ ((True ∧ True ∧ True ∧ True ∧ True) ∧ (0 : Int) ≤ n_2 ∧ n_2 < (64 : Int) ∧ (0 : Int) ≤ n_1 ∧ n_1 < (16 : Int) ∧ (1 : Int) ≤ n ∧ n ≤ (10000 : Int) ∧ ((0 : Int)
    ≤ if (if n < s then n else s) > (0 : Int) then if n < s then n else s else (0 : Int)) ∧ (if (if n < s then n else s) > (0 : Int) then if n < s then n else s else
    (0 : Int)) ≤ n) ∧ True ∧ (fromS k n_2 n_1 (if (if n < s then n else s) > (0 : Int) then if n < s then n else s else (0 : Int)) n = true → (t16 ∧ t16 ∧ True) ∧ True
    ∧ True ∧ ((((∀ (i : Nat), i < (16 : Nat) → true = true ∧ True) ∧ ∀ (i : Nat), i < (16 : Nat) → true = true ∧ True) ∧ True ∧ True) ∧ okF { low := rr b.low, high := rr b.high : Fr })
    ∧ True ∧ (t16 ∧ t16 ∧ True) ∧ True ∧ True ∧ True ∧ ((((∀ (i : Nat), i < (16 : Nat) → true = true ∧ True) ∧ ∀ (i : Nat), i < (16 : Nat) → true = true ∧ True) ∧ True
    ∧ True ∧ True) ∧ okF { low := rowL (codI IntKind.u64) (16 : Nat) fun j => (codI IntKind.u64).enc (l.getD j (codI IntKind.u64).dft), high := rowL (codI IntKind.u64) (16 : Nat) fun j => (codI IntKind.u64).enc (l_2.getD j (codI IntKind.u64).dft) : Fr })
    ∧ t16 ∧ t16 ∧ True ∧ True ∧ DotI (lv zeroF) (blendL k a b (clp s (0 : Int) n) n) n_1 (W (n_2 + (1 : Int))) (rr (setS { low := rowL (codI IntKind.u64) (16 : Nat) fun j => (codI IntKind.u64).enc (l.getD j (codI IntKind.u64).dft), high := rowL (codI IntKind.u64) (16 : Nat) fun j => (codI IntKind.u64).enc (l_2.getD j (codI IntKind.u64).dft) : Fr }
    n_2 n_1 (getS { low := rr b.low, high := rr b.high : Fr } n_2 n_1)).low) (rr (setS { low := rowL (codI IntKind.u64) (16 : Nat) fun j => (codI IntKind.u64).enc (l.getD j (codI IntKind.u64).dft), high := rowL (codI IntKind.u64) (16 : Nat) fun j => (codI IntKind.u64).enc (l_2.getD j (codI IntKind.u64).dft) : Fr }
    n_2 n_1 (getS { low := rr b.low, high := rr b.high : Fr } n_2 n_1)).high) ∧ ((64 : Int) - W (n_2 + (1 : Int))).toNat < ((64 : Int) - n_2).toNat ∧ (k = k ∧ ((sm ((16
    : Nat)) ∧ sm ((1 : Nat)) ∧ ∀ (i : Nat), i < (16 : Nat) → sm (a.low.getD i (0 : Int)) ∧ True) ∧ (sm ((16 : Nat)) ∧ sm ((1 : Nat)) ∧ ∀ (i : Nat), i < (16 : Nat) →
    sm (a.high.getD i (0 : Int)) ∧ True) ∧ True) ∧ ((sm ((16 : Nat)) ∧ sm ((1 : Nat)) ∧ ∀ (i : Nat), i < (16 : Nat) → sm (b.low.getD i (0 : Int)) ∧ True) ∧ (sm ((16
    : Nat)) ∧ sm ((1 : Nat)) ∧ ∀ (i : Nat), i < (16 : Nat) → sm (b.high.getD i (0 : Int)) ∧ True) ∧ True) ∧ (sm (if (if n < s then n else s) > (0 : Int) then if n <
    s then n else s else (0 : Int))) ∧ n = n ∧ True ∧ True ∧ True ∧ True ∧ True ∧ True ∧ sm ((0 : Int)) ∧ True ∧ sm (W ((W ((64 : Int) * if (if n < s then n else s)
    > (0 : Int) then if n < s then n else s else (0 : Int))).tdiv n)) ∧ n_1 = n_1 ∧ sm (W (n_2 + (1 : Int))) ∧ True ∧ k = k ∧ sm (decide (k < (0 : Int))) ∧ True ∧ k
    = k ∧ sm (decide (k > (5 : Int))) ∧ True ∧ True ∧ n = n ∧ sm (decide (n < (1 : Int))) ∧ True ∧ n = n ∧ sm (decide (n > (10000 : Int))) ∧ True ∧ True ∧ s = s ∧ n
    = n ∧ (sm (if n < s then n else s)) ∧ (sm (if (if n < s then n else s) > (0 : Int) then if n < s then n else s else (0 : Int))) ∧ (sm (if (if n < s then n else s)
    > (0 : Int) then if n < s then n else s else (0 : Int))) ∧ sm (W ((64 : Int) * if (if n < s then n else s) > (0 : Int) then if n < s then n else s else (0 : Int)))
    ∧ n = n ∧ sm (W ((W ((64 : Int) * if (if n < s then n else s) > (0 : Int) then if n < s then n else s else (0 : Int))).tdiv n)) ∧ n_1 = n_1 ∧ True ∧ True ∧ True
    ∧ True ∧ True ∧ True ∧ True ∧ True ∧ True ∧ True ∧ True ∧ True ∧ True ∧ True ∧ True ∧ True ∧ True ∧ True ∧ True ∧ True ∧ True ∧ True ∧ True ∧ True ∧ True ∧ True
    ∧ True ∧ True ∧ True ∧ True ∧ True ∧ True ∧ True ∧ True ∧ True ∧ True ∧ True ∧ True ∧ True ∧ True ∧ True ∧ True ∧ True ∧ True ∧ True ∧ True ∧ True ∧ True ∧ True
    ∧ True ∧ True ∧ True ∧ True ∧ True) ∧ ((if false = true then [] else List.map Seg.shape [Seg.a (16 : Nat) (1 : Nat) fun j => [SV.int IntKind.u64 (a.low.getD j (0
    : Int))], Seg.a (16 : Nat) (1 : Nat) fun j => [SV.int IntKind.u64 (a.high.getD j (0 : Int))]]) = if false = true then [] else List.map Seg.shape [Seg.a (16 : Nat)
    (1 : Nat) fun j => [SV.int IntKind.u64 (a.low.getD j (0 : Int))], Seg.a (16 : Nat) (1 : Nat) fun j => [SV.int IntKind.u64 (a.high.getD j (0 : Int))]]) ∧ ((sm ((16
    : Nat)) ∧ sm ((1 : Nat)) ∧ ∀ (i : Nat), i < (16 : Nat) → sm (a.low.getD i (0 : Int)) ∧ True) ∧ (sm ((16 : Nat)) ∧ sm ((1 : Nat)) ∧ ∀ (i : Nat), i < (16 : Nat) →
    sm (a.high.getD i (0 : Int)) ∧ True) ∧ True) ∧ ((if false = true then [] else List.map Seg.shape [Seg.a (16 : Nat) (1 : Nat) fun j => [SV.int IntKind.u64 (b.low.getD
    j (0 : Int))], Seg.a (16 : Nat) (1 : Nat) fun j => [SV.int IntKind.u64 (b.high.getD j (0 : Int))]]) = if false = true then [] else List.map Seg.shape [Seg.a (16
    : Nat) (1 : Nat) fun j => [SV.int IntKind.u64 (b.low.getD j (0 : Int))], Seg.a (16 : Nat) (1 : Nat) fun j => [SV.int IntKind.u64 (b.high.getD j (0 : Int))]]) ∧ ((sm
    ((16 : Nat)) ∧ sm ((1 : Nat)) ∧ ∀ (i : Nat), i < (16 : Nat) → sm (b.low.getD i (0 : Int)) ∧ True) ∧ (sm ((16 : Nat)) ∧ sm ((1 : Nat)) ∧ ∀ (i : Nat), i < (16 : Nat)
    → sm (b.high.getD i (0 : Int)) ∧ True) ∧ True) ∧ ((if false = true then [] else List.map Seg.shape ([Seg.a (16 : Nat) (1 : Nat) fun x => [SV.int IntKind.u64 (0 :
    Int)]] ++ ([Seg.a (16 : Nat) (1 : Nat) fun x => [SV.int IntKind.u64 (0 : Int)]] ++ []))) = if false = true then [] else List.map Seg.shape ([Seg.a (16 : Nat) (1
    : Nat) fun x => [SV.int IntKind.u64 (0 : Int)]] ++ ([Seg.a (16 : Nat) (1 : Nat) fun x => [SV.int IntKind.u64 (0 : Int)]] ++ []))) ∧ ((sm ((16 : Nat)) ∧ sm ((1 :
    Nat)) ∧ ∀ (i : Nat), i < (16 : Nat) → sm ((0 : Int)) ∧ True) ∧ (sm ((16 : Nat)) ∧ sm ((1 : Nat)) ∧ ∀ (i : Nat), i < (16 : Nat) → sm ((0 : Int)) ∧ True) ∧ True) ∧
    ((if false = true then [] else List.map Seg.shape ([Seg.a (16 : Nat) (1 : Nat) fun x => [SV.int IntKind.u64 (0 : Int)]] ++ ([Seg.a (16 : Nat) (1 : Nat) fun x =>
    [SV.int IntKind.u64 (0 : Int)]] ++ []))) = if false = true then [] else List.map Seg.shape ([Seg.a (16 : Nat) (1 : Nat) fun x => [SV.int IntKind.u64 (0 : Int)]]
    ++ ([Seg.a (16 : Nat) (1 : Nat) fun x => [SV.int IntKind.u64 (0 : Int)]] ++ []))) ∧ ((sm ((16 : Nat)) ∧ (1 : Nat) = (codI IntKind.u64).n ∧ ∀ (i : Nat), i < (16 :
    Nat) → (setS { low := rowL (codI IntKind.u64) (16 : Nat) fun j => (codI IntKind.u64).enc (l.getD j (codI IntKind.u64).dft), high := rowL (codI IntKind.u64) (16 : Nat) fun j => (codI IntKind.u64).enc (l_2.getD j (codI IntKind.u64).dft) : Fr }
    n_2 n_1 (getS { low := rr b.low, high := rr b.high : Fr } n_2 n_1)).low.getD i (0 : Int) = (rr (setS { low := rowL (codI IntKind.u64) (16 : Nat) fun j => (codI IntKind.u64).enc (l.getD j (codI IntKind.u64).dft), high := rowL (codI IntKind.u64) (16 : Nat) fun j => (codI IntKind.u64).enc (l_2.getD j (codI IntKind.u64).dft) : Fr }
    n_2 n_1 (getS { low := rr b.low, high := rr b.high : Fr } n_2 n_1)).low).getD i (codI IntKind.u64).dft ∧ True) ∧ (sm ((16 : Nat)) ∧ (1 : Nat) = (codI IntKind.u64).n
    ∧ ∀ (i : Nat), i < (16 : Nat) → (setS { low := rowL (codI IntKind.u64) (16 : Nat) fun j => (codI IntKind.u64).enc (l.getD j (codI IntKind.u64).dft), high := rowL (codI IntKind.u64) (16 : Nat) fun j => (codI IntKind.u64).enc (l_2.getD j (codI IntKind.u64).dft) : Fr }
    n_2 n_1 (getS { low := rr b.low, high := rr b.high : Fr } n_2 n_1)).high.getD i (0 : Int) = (rr (setS { low := rowL (codI IntKind.u64) (16 : Nat) fun j => (codI IntKind.u64).enc (l.getD j (codI IntKind.u64).dft), high := rowL (codI IntKind.u64) (16 : Nat) fun j => (codI IntKind.u64).enc (l_2.getD j (codI IntKind.u64).dft) : Fr }
    n_2 n_1 (getS { low := rr b.low, high := rr b.high : Fr } n_2 n_1)).high).getD i (codI IntKind.u64).dft ∧ True) ∧ True) ∧ True) ∧ (fromS k n_2 n_1 (if (if n < s
    then n else s) > (0 : Int) then if n < s then n else s else (0 : Int)) n = false → (t16 ∧ t16 ∧ True) ∧ True ∧ True ∧ True ∧ ((((∀ (i : Nat), i < (16 : Nat) → true
    = true ∧ True) ∧ ∀ (i : Nat), i < (16 : Nat) → true = true ∧ True) ∧ True ∧ True ∧ True) ∧ okF { low := rowL (codI IntKind.u64) (16 : Nat) fun j => (codI IntKind.u64).enc (l.getD j (codI IntKind.u64).dft), high := rowL (codI IntKind.u64) (16 : Nat) fun j => (codI IntKind.u64).enc (l_2.getD j (codI IntKind.u64).dft) : Fr })
    ∧ t16 ∧ t16 ∧ True ∧ True ∧ DotI (lv zeroF) (blendL k a b (clp s (0 : Int) n) n) n_1 (W (n_2 + (1 : Int))) (rr (setS { low := rowL (codI IntKind.u64) (16 : Nat) fun j => (codI IntKind.u64).enc (l.getD j (codI IntKind.u64).dft), high := rowL (codI IntKind.u64) (16 : Nat) fun j => (codI IntKind.u64).enc (l_2.getD j (codI IntKind.u64).dft) : Fr }
    n_2 n_1 (getS { low := rr a.low, high := rr a.high : Fr } n_2 n_1)).low) (rr (setS { low := rowL (codI IntKind.u64) (16 : Nat) fun j => (codI IntKind.u64).enc (l.getD j (codI IntKind.u64).dft), high := rowL (codI IntKind.u64) (16 : Nat) fun j => (codI IntKind.u64).enc (l_2.getD j (codI IntKind.u64).dft) : Fr }
    n_2 n_1 (getS { low := rr a.low, high := rr a.high : Fr } n_2 n_1)).high) ∧ ((64 : Int) - W (n_2 + (1 : Int))).toNat < ((64 : Int) - n_2).toNat ∧ (k = k ∧ ((sm ((16
    : Nat)) ∧ sm ((1 : Nat)) ∧ ∀ (i : Nat), i < (16 : Nat) → sm (a.low.getD i (0 : Int)) ∧ True) ∧ (sm ((16 : Nat)) ∧ sm ((1 : Nat)) ∧ ∀ (i : Nat), i < (16 : Nat) →
    sm (a.high.getD i (0 : Int)) ∧ True) ∧ True) ∧ ((sm ((16 : Nat)) ∧ sm ((1 : Nat)) ∧ ∀ (i : Nat), i < (16 : Nat) → sm (b.low.getD i (0 : Int)) ∧ True) ∧ (sm ((16
    : Nat)) ∧ sm ((1 : Nat)) ∧ ∀ (i : Nat), i < (16 : Nat) → sm (b.high.getD i (0 : Int)) ∧ True) ∧ True) ∧ (sm (if (if n < s then n else s) > (0 : Int) then if n <
    s then n else s else (0 : Int))) ∧ n = n ∧ True ∧ True ∧ True ∧ True ∧ True ∧ True ∧ sm ((0 : Int)) ∧ True ∧ sm (W ((W ((64 : Int) * if (if n < s then n else s)
    > (0 : Int) then if n < s then n else s else (0 : Int))).tdiv n)) ∧ n_1 = n_1 ∧ sm (W (n_2 + (1 : Int))) ∧ True ∧ k = k ∧ sm (decide (k < (0 : Int))) ∧ True ∧ k
    = k ∧ sm (decide (k > (5 : Int))) ∧ True ∧ True ∧ n = n ∧ sm (decide (n < (1 : Int))) ∧ True ∧ n = n ∧ sm (decide (n > (10000 : Int))) ∧ True ∧ True ∧ s = s ∧ n
    = n ∧ (sm (if n < s then n else s)) ∧ (sm (if (if n < s then n else s) > (0 : Int) then if n < s then n else s else (0 : Int))) ∧ (sm (if (if n < s then n else s)
    > (0 : Int) then if n < s then n else s else (0 : Int))) ∧ sm (W ((64 : Int) * if (if n < s then n else s) > (0 : Int) then if n < s then n else s else (0 : Int)))
    ∧ n = n ∧ sm (W ((W ((64 : Int) * if (if n < s then n else s) > (0 : Int) then if n < s then n else s else (0 : Int))).tdiv n)) ∧ n_1 = n_1 ∧ True ∧ True ∧ True
    ∧ True ∧ True ∧ True ∧ True ∧ True ∧ True ∧ True ∧ True ∧ True ∧ True ∧ True ∧ True ∧ True ∧ True ∧ True ∧ True ∧ True ∧ True ∧ True ∧ True ∧ True ∧ True ∧ True
    ∧ True ∧ True ∧ True ∧ True ∧ True ∧ True ∧ True ∧ True ∧ True ∧ True ∧ True ∧ True ∧ True ∧ True ∧ True ∧ True ∧ True ∧ True ∧ True ∧ True ∧ True ∧ True ∧ True
    ∧ True ∧ True ∧ True ∧ True ∧ True) ∧ ((if false = true then [] else List.map Seg.shape [Seg.a (16 : Nat) (1 : Nat) fun j => [SV.int IntKind.u64 (a.low.getD j (0
    : Int))], Seg.a (16 : Nat) (1 : Nat) fun j => [SV.int IntKind.u64 (a.high.getD j (0 : Int))]]) = if false = true then [] else List.map Seg.shape [Seg.a (16 : Nat)
    (1 : Nat) fun j => [SV.int IntKind.u64 (a.low.getD j (0 : Int))], Seg.a (16 : Nat) (1 : Nat) fun j => [SV.int IntKind.u64 (a.high.getD j (0 : Int))]]) ∧ ((sm ((16
    : Nat)) ∧ sm ((1 : Nat)) ∧ ∀ (i : Nat), i < (16 : Nat) → sm (a.low.getD i (0 : Int)) ∧ True) ∧ (sm ((16 : Nat)) ∧ sm ((1 : Nat)) ∧ ∀ (i : Nat), i < (16 : Nat) →
    sm (a.high.getD i (0 : Int)) ∧ True) ∧ True) ∧ ((if false = true then [] else List.map Seg.shape [Seg.a (16 : Nat) (1 : Nat) fun j => [SV.int IntKind.u64 (b.low.getD
    j (0 : Int))], Seg.a (16 : Nat) (1 : Nat) fun j => [SV.int IntKind.u64 (b.high.getD j (0 : Int))]]) = if false = true then [] else List.map Seg.shape [Seg.a (16
    : Nat) (1 : Nat) fun j => [SV.int IntKind.u64 (b.low.getD j (0 : Int))], Seg.a (16 : Nat) (1 : Nat) fun j => [SV.int IntKind.u64 (b.high.getD j (0 : Int))]]) ∧ ((sm
    ((16 : Nat)) ∧ sm ((1 : Nat)) ∧ ∀ (i : Nat), i < (16 : Nat) → sm (b.low.getD i (0 : Int)) ∧ True) ∧ (sm ((16 : Nat)) ∧ sm ((1 : Nat)) ∧ ∀ (i : Nat), i < (16 : Nat)
    → sm (b.high.getD i (0 : Int)) ∧ True) ∧ True) ∧ ((if false = true then [] else List.map Seg.shape ([Seg.a (16 : Nat) (1 : Nat) fun x => [SV.int IntKind.u64 (0 :
    Int)]] ++ ([Seg.a (16 : Nat) (1 : Nat) fun x => [SV.int IntKind.u64 (0 : Int)]] ++ []))) = if false = true then [] else List.map Seg.shape ([Seg.a (16 : Nat) (1
    : Nat) fun x => [SV.int IntKind.u64 (0 : Int)]] ++ ([Seg.a (16 : Nat) (1 : Nat) fun x => [SV.int IntKind.u64 (0 : Int)]] ++ []))) ∧ ((sm ((16 : Nat)) ∧ sm ((1 :
    Nat)) ∧ ∀ (i : Nat), i < (16 : Nat) → sm ((0 : Int)) ∧ True) ∧ (sm ((16 : Nat)) ∧ sm ((1 : Nat)) ∧ ∀ (i : Nat), i < (16 : Nat) → sm ((0 : Int)) ∧ True) ∧ True) ∧
    ((if false = true then [] else List.map Seg.shape ([Seg.a (16 : Nat) (1 : Nat) fun x => [SV.int IntKind.u64 (0 : Int)]] ++ ([Seg.a (16 : Nat) (1 : Nat) fun x =>
    [SV.int IntKind.u64 (0 : Int)]] ++ []))) = if false = true then [] else List.map Seg.shape ([Seg.a (16 : Nat) (1 : Nat) fun x => [SV.int IntKind.u64 (0 : Int)]]
    ++ ([Seg.a (16 : Nat) (1 : Nat) fun x => [SV.int IntKind.u64 (0 : Int)]] ++ []))) ∧ ((sm ((16 : Nat)) ∧ (1 : Nat) = (codI IntKind.u64).n ∧ ∀ (i : Nat), i < (16 :
    Nat) → (setS { low := rowL (codI IntKind.u64) (16 : Nat) fun j => (codI IntKind.u64).enc (l.getD j (codI IntKind.u64).dft), high := rowL (codI IntKind.u64) (16 : Nat) fun j => (codI IntKind.u64).enc (l_2.getD j (codI IntKind.u64).dft) : Fr }
    n_2 n_1 (getS { low := rr a.low, high := rr a.high : Fr } n_2 n_1)).low.getD i (0 : Int) = (rr (setS { low := rowL (codI IntKind.u64) (16 : Nat) fun j => (codI IntKind.u64).enc (l.getD j (codI IntKind.u64).dft), high := rowL (codI IntKind.u64) (16 : Nat) fun j => (codI IntKind.u64).enc (l_2.getD j (codI IntKind.u64).dft) : Fr }
    n_2 n_1 (getS { low := rr a.low, high := rr a.high : Fr } n_2 n_1)).low).getD i (codI IntKind.u64).dft ∧ True) ∧ (sm ((16 : Nat)) ∧ (1 : Nat) = (codI IntKind.u64).n
    ∧ ∀ (i : Nat), i < (16 : Nat) → (setS { low := rowL (codI IntKind.u64) (16 : Nat) fun j => (codI IntKind.u64).enc (l.getD j (codI IntKind.u64).dft), high := rowL (codI IntKind.u64) (16 : Nat) fun j => (codI IntKind.u64).enc (l_2.getD j (codI IntKind.u64).dft) : Fr }
    n_2 n_1 (getS { low := rr a.low, high := rr a.high : Fr } n_2 n_1)).high.getD i (0 : Int) = (rr (setS { low := rowL (codI IntKind.u64) (16 : Nat) fun j => (codI IntKind.u64).enc (l.getD j (codI IntKind.u64).dft), high := rowL (codI IntKind.u64) (16 : Nat) fun j => (codI IntKind.u64).enc (l_2.getD j (codI IntKind.u64).dft) : Fr }
    n_2 n_1 (getS { low := rr a.low, high := rr a.high : Fr } n_2 n_1)).high).getD i (codI IntKind.u64).dft ∧ True) ∧ True) ∧ True)))) ∧ (decide (n_2 < (64 : Int)) =
    false → True ∧ DotI (lv zeroF) (blendL k a b (clp s (0 : Int) n) n) (W (n_1 + (1 : Int))) (0 : Int) (rowL (codI IntKind.u64) (16 : Nat) fun j => (codI IntKind.u64).enc
    (l.getD j (codI IntKind.u64).dft)) (rowL (codI IntKind.u64) (16 : Nat) fun j => (codI IntKind.u64).enc (l_2.getD j (codI IntKind.u64).dft)) ∧ ((16 : Int) - W (n_1
    + (1 : Int))).toNat < ((16 : Int) - n_1).toNat ∧ (k = k ∧ ((sm ((16 : Nat)) ∧ sm ((1 : Nat)) ∧ ∀ (i : Nat), i < (16 : Nat) → sm (a.low.getD i (0 : Int)) ∧ True)
    ∧ (sm ((16 : Nat)) ∧ sm ((1 : Nat)) ∧ ∀ (i : Nat), i < (16 : Nat) → sm (a.high.getD i (0 : Int)) ∧ True) ∧ True) ∧ ((sm ((16 : Nat)) ∧ sm ((1 : Nat)) ∧ ∀ (i : Nat),
    i < (16 : Nat) → sm (b.low.getD i (0 : Int)) ∧ True) ∧ (sm ((16 : Nat)) ∧ sm ((1 : Nat)) ∧ ∀ (i : Nat), i < (16 : Nat) → sm (b.high.getD i (0 : Int)) ∧ True) ∧ True)
    ∧ (sm (if (if n < s then n else s) > (0 : Int) then if n < s then n else s else (0 : Int))) ∧ n = n ∧ True ∧ True ∧ True ∧ True ∧ True ∧ True ∧ sm ((0 : Int)) ∧
    True ∧ sm (W ((W ((64 : Int) * if (if n < s then n else s) > (0 : Int) then if n < s then n else s else (0 : Int))).tdiv n)) ∧ sm (W (n_1 + (1 : Int))) ∧ True ∧
    True ∧ k = k ∧ sm (decide (k < (0 : Int))) ∧ True ∧ k = k ∧ sm (decide (k > (5 : Int))) ∧ True ∧ True ∧ n = n ∧ sm (decide (n < (1 : Int))) ∧ True ∧ n = n ∧ sm (decide
    (n > (10000 : Int))) ∧ True ∧ True ∧ s = s ∧ n = n ∧ (sm (if n < s then n else s)) ∧ (sm (if (if n < s then n else s) > (0 : Int) then if n < s then n else s else
    (0 : Int))) ∧ (sm (if (if n < s then n else s) > (0 : Int) then if n < s then n else s else (0 : Int))) ∧ sm (W ((64 : Int) * if (if n < s then n else s) > (0 :
    Int) then if n < s then n else s else (0 : Int))) ∧ n = n ∧ sm (W ((W ((64 : Int) * if (if n < s then n else s) > (0 : Int) then if n < s then n else s else (0 :
    Int))).tdiv n)) ∧ True ∧ True ∧ True ∧ True ∧ True ∧ True ∧ True ∧ True ∧ True ∧ True ∧ True ∧ True ∧ True ∧ True ∧ True ∧ True ∧ True ∧ True ∧ True ∧ True ∧ True
    ∧ True ∧ True ∧ True ∧ True ∧ True ∧ True ∧ True ∧ True ∧ True ∧ True ∧ True ∧ True ∧ True ∧ True ∧ True ∧ True ∧ True ∧ True ∧ True ∧ True ∧ True ∧ True ∧ True
    ∧ True ∧ True ∧ True ∧ True ∧ True ∧ True ∧ True ∧ True ∧ True ∧ True ∧ True) ∧ ((if false = true then [] else List.map Seg.shape [Seg.a (16 : Nat) (1 : Nat) fun
    j => [SV.int IntKind.u64 (a.low.getD j (0 : Int))], Seg.a (16 : Nat) (1 : Nat) fun j => [SV.int IntKind.u64 (a.high.getD j (0 : Int))]]) = if false = true then []
    else List.map Seg.shape [Seg.a (16 : Nat) (1 : Nat) fun j => [SV.int IntKind.u64 (a.low.getD j (0 : Int))], Seg.a (16 : Nat) (1 : Nat) fun j => [SV.int IntKind.u64
    (a.high.getD j (0 : Int))]]) ∧ ((sm ((16 : Nat)) ∧ sm ((1 : Nat)) ∧ ∀ (i : Nat), i < (16 : Nat) → sm (a.low.getD i (0 : Int)) ∧ True) ∧ (sm ((16 : Nat)) ∧ sm ((1
    : Nat)) ∧ ∀ (i : Nat), i < (16 : Nat) → sm (a.high.getD i (0 : Int)) ∧ True) ∧ True) ∧ ((if false = true then [] else List.map Seg.shape [Seg.a (16 : Nat) (1 : Nat)
    fun j => [SV.int IntKind.u64 (b.low.getD j (0 : Int))], Seg.a (16 : Nat) (1 : Nat) fun j => [SV.int IntKind.u64 (b.high.getD j (0 : Int))]]) = if false = true then
    [] else List.map Seg.shape [Seg.a (16 : Nat) (1 : Nat) fun j => [SV.int IntKind.u64 (b.low.getD j (0 : Int))], Seg.a (16 : Nat) (1 : Nat) fun j => [SV.int IntKind.u64
    (b.high.getD j (0 : Int))]]) ∧ ((sm ((16 : Nat)) ∧ sm ((1 : Nat)) ∧ ∀ (i : Nat), i < (16 : Nat) → sm (b.low.getD i (0 : Int)) ∧ True) ∧ (sm ((16 : Nat)) ∧ sm ((1
    : Nat)) ∧ ∀ (i : Nat), i < (16 : Nat) → sm (b.high.getD i (0 : Int)) ∧ True) ∧ True) ∧ ((if false = true then [] else List.map Seg.shape ([Seg.a (16 : Nat) (1 :
    Nat) fun x => [SV.int IntKind.u64 (0 : Int)]] ++ ([Seg.a (16 : Nat) (1 : Nat) fun x => [SV.int IntKind.u64 (0 : Int)]] ++ []))) = if false = true then [] else List.map
    Seg.shape ([Seg.a (16 : Nat) (1 : Nat) fun x => [SV.int IntKind.u64 (0 : Int)]] ++ ([Seg.a (16 : Nat) (1 : Nat) fun x => [SV.int IntKind.u64 (0 : Int)]] ++ [])))
    ∧ ((sm ((16 : Nat)) ∧ sm ((1 : Nat)) ∧ ∀ (i : Nat), i < (16 : Nat) → sm ((0 : Int)) ∧ True) ∧ (sm ((16 : Nat)) ∧ sm ((1 : Nat)) ∧ ∀ (i : Nat), i < (16 : Nat) → sm
    ((0 : Int)) ∧ True) ∧ True) ∧ ((if false = true then [] else List.map Seg.shape ([Seg.a (16 : Nat) (1 : Nat) fun x => [SV.int IntKind.u64 (0 : Int)]] ++ ([Seg.a
    (16 : Nat) (1 : Nat) fun x => [SV.int IntKind.u64 (0 : Int)]] ++ []))) = if false = true then [] else List.map Seg.shape ([Seg.a (16 : Nat) (1 : Nat) fun x => [SV.int
    IntKind.u64 (0 : Int)]] ++ ([Seg.a (16 : Nat) (1 : Nat) fun x => [SV.int IntKind.u64 (0 : Int)]] ++ []))) ∧ ((sm ((16 : Nat)) ∧ sm ((codI IntKind.u64).n) ∧ ∀ (i
    : Nat), i < (16 : Nat) → l.getD i (codI IntKind.u64).dft = (rowL (codI IntKind.u64) (16 : Nat) fun j => (codI IntKind.u64).enc (l.getD j (codI IntKind.u64).dft)).getD
    i (codI IntKind.u64).dft ∧ True) ∧ (sm ((16 : Nat)) ∧ sm ((codI IntKind.u64).n) ∧ ∀ (i : Nat), i < (16 : Nat) → l_2.getD i (codI IntKind.u64).dft = (rowL (codI IntKind.u64)
    (16 : Nat) fun j => (codI IntKind.u64).enc (l_2.getD j (codI IntKind.u64).dft)).getD i (codI IntKind.u64).dft ∧ True) ∧ True) ∧ True)) ∧ (decide (n_1 < (16 : Int))
    = false → t16 ∧ t16 ∧ True ∧ (t16 ∧ t16 ∧ True) ∧ True ∧ (((sm ((16 : Nat)) ∧ (0 : Nat) + (1 : Nat) = (1 : Nat) ∧ ∀ (i : Nat), i < (16 : Nat) → l.getD i (codI IntKind.u64).dft
    = (bldS k a b s n).low.getD i (0 : Int) ∧ True) ∧ (sm ((16 : Nat)) ∧ (0 : Nat) + (1 : Nat) = (1 : Nat) ∧ ∀ (i : Nat), i < (16 : Nat) → l_1.getD i (codI IntKind.u64).dft
    = (bldS k a b s n).high.getD i (0 : Int) ∧ True) ∧ True) ∧ (0 : Int) = bldE k n ∧ True) ∧ True)))))) = vc22 k a b s n := by kernel_rfl
theorem ofB_congr {p q : Nat → Bool} (h : ∀ j, j < 64 → p j = q j) : ofB p = ofB q := bit_ext (ofB_isU _) (ofB_isU _) fun j hj => by rw [bit_ofB _ hj, bit_ofB _ hj, h j hj]
theorem ofB_false {p : Nat → Bool} (h : ∀ j, j < 64 → p j = false) : 0 = ofB p := bit_ext isU_zero (ofB_isU _) fun j hj => by rw [bit_ofB _ hj, h j hj, bit_zero]
theorem ofB_true {p : Nat → Bool} (h : ∀ j, j < 64 → p j = true) : 18446744073709551615 = ofB p := bit_ext ⟨by omega, by omega⟩ (ofB_isU _) fun j hj => by
  rw [bit_ofB _ hj, h j hj]; revert j; decide
theorem ofB_or {p : Nat → Bool} {x : Nat} (hx : x < 64) : bits BinOp.or IntKind.u64 (ofB p) (IntKind.u64.wrap (2 ^ min x 64)) = ofB fun j => p j || decide (x = j) :=
  bit_ext (bits_isU _ _ _) (ofB_isU _) fun j hj => by rw [bit_or, bit_ofB _ hj, bit_ofB _ hj, Nat.min_eq_left (by omega), unit_bit hj]
theorem k48 : TabOK Try.prog T48 := fn_tabA k18 hm Try.func48 (by kernel_rfl) (by kernel_rfl) sII.ok (by kernel_rfl) (fun a => A48 a.1 a.2) fun a hp => by
  have h : vc48 a.1 a.2 := by
    rw [← vc48_eq]
    obtain ⟨a, b⟩ := a
    dsimp only at hp ⊢
    simp [-List.getD_eq_getElem?_getD, W_def]
    refine ⟨?_, fun x set hI => ⟨fun h1 => ?_, fun h1 => ?_⟩⟩
    · simp only [colI]
      refine ⟨by split <;> omega, by split <;> omega, ofB_false fun j hj => decide_eq_false (by split <;> omega)⟩
    · simp only [colI] at hI ⊢
      obtain ⟨i0, i1, rfl⟩ := hI
      have hx : x < 64 ∧ x ≤ b := by split at h1 <;> omega
      have w1 : W (x + 1) = x + 1 := W_id (by omega) (by omega)
      rw [w1, ofB_or (by omega)]
      refine ⟨by omega, ⟨by omega, by omega, ofB_congr fun j hj => ?_⟩, by omega⟩
      rw [← Bool.decide_or]
      exact decide_eq_decide.2 (by omega)
    · simp only [colI, colS] at hI ⊢
      obtain ⟨i0, i1, rfl⟩ := hI
      refine ofB_congr fun j hj => decide_eq_decide.2 ?_
      split at h1 <;> omega
  exact h
theorem div_bd {m c n : Int} (hm : 0 ≤ m) (h0 : 0 ≤ c) (h1 : c ≤ n) (h2 : 1 ≤ n) : 0 ≤ m * c / n ∧ m * c / n ≤ m := by
  constructor
  · exact Int.ediv_nonneg (Int.mul_nonneg hm h0) (by omega)
  · refine Int.ediv_le_of_le_mul (by omega) ?_
    exact Int.mul_le_mul_of_nonneg_left h1 hm
theorem dv {m c n : Int} (hm : 0 ≤ m) (hm2 : m ≤ 2000) (h0 : 0 ≤ c) (h1 : c ≤ n) (h2 : 1 ≤ n) (h3 : n ≤ 10000) : W ((W (m * c)).tdiv n) = m * c / n := by
  have b := div_bd hm h0 h1 h2
  have b1 : 0 ≤ m * c := Int.mul_nonneg hm h0
  have b2 : m * c ≤ 2000 * 10000 := Int.le_trans (Int.mul_le_mul_of_nonneg_left (by omega) hm) (Int.mul_le_mul_of_nonneg_right hm2 (by omega) : m * 10000 ≤ 2000 * 10000)
  rw [W_id (n := m * c) (by omega) (by omega), Int.tdiv_eq_ediv_of_nonneg b1, W_id (by omega) (by omega)]
theorem k41 : TabOK Try.prog T41 := fn_tabA k48 hm Try.func41 (by kernel_rfl) (by kernel_rfl) sIIII.ok (by kernel_rfl) (fun a => A41 a.1 a.2.1 a.2.2.1 a.2.2.2) fun a hp => by
  have h : vc41 a.1 a.2.1 a.2.2.1 a.2.2.2 := by
    rw [← vc41_eq]
    obtain ⟨k, y, s, n⟩ := a
    obtain ⟨k0, k1, y0, y1, n0, n1, s0, s1⟩ := hp
    dsimp only at k0 k1 y0 y1 n0 n1 s0 s1 ⊢
    simp [-List.getD_eq_getElem?_getD, W_def]
    have d64 := div_bd (m := 64) (by omega) s0 s1 n0
    have d16 := div_bd (m := 16) (by omega) s0 s1 n0
    have d32 := div_bd (m := 32) (by omega) s0 s1 n0
    have d1024 := div_bd (m := 1024) (by omega) s0 s1 n0
    rw [dv (m := 64) (by omega) (by omega) s0 s1 n0 n1, dv (m := 16) (by omega) (by omega) s0 s1 n0 n1, dv (m := 32) (by omega) (by omega) s0 s1 n0 n1, dv (m := 1024) (by omega) (by omega) s0 s1 n0 n1]
    rw [W_id (n := 64 * s / n - 1) (by omega) (by omega), W_id (n := 16 - 16 * s / n) (by omega) (by omega), W_id (n := 32 - 32 * s / n) (by omega) (by omega), W_id (n := 31 + 32 * s / n) (by omega) (by omega)]
    refine ⟨fun hk => ?_, fun hk0 => ⟨fun hk => ⟨by omega, by omega, ?_⟩, fun hk1 => ⟨fun hk => ⟨by omega, fun h => ?_, fun h => ?_⟩, fun hk2 => ⟨fun hk => ⟨by omega, by omega, ?_⟩, fun hk3 => ⟨fun hk => ⟨?_, fun x set hI => ⟨fun h1 => ?_, fun h1 => ?_⟩⟩, fun hk => by omega⟩⟩⟩⟩⟩
    · subst hk
      simp only [choS, fromS]
      exact ⟨fun h => ofB_true fun j hj => by simpa using h, fun h => ofB_false fun j hj => by simpa using h⟩
    · subst hk
      simp only [choS, fromS, colS]
      exact ofB_congr fun j hj => decide_eq_decide.2 (by omega)
    · subst hk
      simp only [choS, fromS]
      exact ofB_true fun j hj => decide_eq_true h
    · subst hk
      simp only [choS, fromS]
      exact ofB_false fun j hj => decide_eq_false (by simp; omega)
    · subst hk
      simp only [choS, fromS, colS]
      exact ofB_congr fun j hj => decide_eq_decide.2 (by omega)
    · simp only [choI]
      exact ⟨by omega, by omega, ofB_false fun j hj => by rw [decide_eq_false (by omega)]; rfl⟩
    · simp only [choI] at hI ⊢
      obtain ⟨i0, i1, rfl⟩ := hI
      have w1 : W (x + 1) = x + 1 := W_id (by omega) (by omega)
      have w2 : W (389 * W (W (64 * y) + x)) = 389 * (64 * y + x) := by rw [W_id (n := 64 * y) (by omega) (by omega), W_id (n := 64 * y + x) (by omega) (by omega), W_id (by omega) (by omega)]
      rw [w1, w2, ofB_or (by omega), Int.tmod_eq_emod_of_nonneg (by omega)]
      refine ⟨by omega, fun h2 => ⟨i0, ⟨by omega, by omega, ofB_congr fun j hj => ?_⟩, by omega⟩, fun h2 => ⟨⟨by omega, by omega, ofB_congr fun j hj => ?_⟩, by omega⟩⟩
      · by_cases e : x.toNat = j
        · have : (j : Int) = x := by omega
          simp only [fromS, this, e]
          simp; exact ⟨by omega, h2⟩
        · have : decide ((j : Int) < x + 1) = decide ((j : Int) < x) := decide_eq_decide.2 (by omega)
          simp [e, this]
      · by_cases e : x.toNat = j
        · have : (j : Int) = x := by omega
          simp only [fromS, this]
          simp; exact fun _ => h2
        · have : decide ((j : Int) < x + 1) = decide ((j : Int) < x) := decide_eq_decide.2 (by omega)
          simp [this]
    · subst hk
      simp only [choI, choS] at hI ⊢
      obtain ⟨i0, i1, rfl⟩ := hI
      exact ofB_congr fun j hj => by rw [decide_eq_true (by omega)]; rfl
  exact h
theorem k43 : TabOK Try.prog T43 := fn_tabA k41 hm Try.func43 (by kernel_rfl) (by kernel_rfl) sIIIII.ok (by kernel_rfl) (fun _ => []) fun a hp => by
  have h : vc43 a.1 a.2.1 a.2.2.1 a.2.2.2.1 a.2.2.2.2 := by
    rw [← vc43_eq]
    obtain ⟨k, x, y, s, n⟩ := a
    obtain ⟨x0, x1, y0, y1, n0, n1, s0, s1⟩ := hp
    dsimp only at x0 x1 y0 y1 n0 n1 s0 s1 ⊢
    simp [-List.getD_eq_getElem?_getD, W_def]
    have d64 := div_bd (m := 64) (by omega) s0 s1 n0
    have d16 := div_bd (m := 16) (by omega) s0 s1 n0
    have d32 := div_bd (m := 32) (by omega) s0 s1 n0
    have d1024 := div_bd (m := 1024) (by omega) s0 s1 n0
    have w2 : W (389 * W (W (64 * y) + x)) = 389 * (64 * y + x) := by rw [W_id (n := 64 * y) (by omega) (by omega), W_id (n := 64 * y + x) (by omega) (by omega), W_id (by omega) (by omega)]
    rw [dv (m := 64) (by omega) (by omega) s0 s1 n0 n1, dv (m := 16) (by omega) (by omega) s0 s1 n0 n1, dv (m := 32) (by omega) (by omega) s0 s1 n0 n1, dv (m := 1024) (by omega) (by omega) s0 s1 n0 n1, w2, Int.tmod_eq_emod_of_nonneg (by omega)]
    rw [W_id (n := 16 - 16 * s / n) (by omega) (by omega), W_id (n := 32 - 32 * s / n) (by omega) (by omega), W_id (n := 31 + 32 * s / n) (by omega) (by omega)]
    refine ⟨fun hk => ⟨by omega, ?_⟩, fun hk1 => ⟨fun hk => ⟨by omega, ?_⟩, fun hk2 => ⟨fun hk => ⟨by omega, fun h => ?_, fun h => ?_⟩, fun hk3 => ⟨fun hk => ⟨by omega, ?_⟩, fun hk => ?_⟩⟩⟩⟩
    · simp [fromS, hk]
    · simp [fromS, hk]
    · simp [fromS, hk, h]
    · simp [fromS, hk]; omega
    · simp [fromS, hk]
    · simp only [fromS, hk1, hk2, hk3, hk, if_false]; rfl
  exact h
theorem bld_lev (k : Int) (a b : Fr) (s n : Int) : lev (blendL k a b s n) := fun y x => by
  simp only [blendL]; split
  · split <;> exact getS_bd _ _ _
  · split <;> exact lv_bd _ _ _
theorem zero_low (i : Nat) : 0 = zeroF.low.getD i 0 := (z16_at i).symm
theorem zero_high (i : Nat) : 0 = zeroF.high.getD i 0 := (z16_at i).symm
theorem bldE_k {k n : Int} (h : k < 0 ∨ 5 < k) : bldE k n = 44 := by simp only [bldE, if_pos h]
theorem bldE_n {k n : Int} (h : ¬ (k < 0 ∨ 5 < k)) (h2 : n < 1 ∨ 10000 < n) : bldE k n = 5 := by simp only [bldE, if_neg h, if_pos h2]
theorem bldE_0 {k n : Int} (h : ¬ (k < 0 ∨ 5 < k)) (h2 : ¬ (n < 1 ∨ 10000 < n)) : bldE k n = 0 := by simp only [bldE, if_neg h, if_neg h2]
theorem bld_bad {k : Int} {a b : Fr} {s n e : Int} (he : bldE k n = e) (h0 : e ≠ 0) : ((∀ i : Nat, i < 16 → 0 = (bldS k a b s n).low.getD i 0) ∧ ∀ i : Nat, i < 16 → 0 = (bldS k a b s n).high.getD i 0) ∧ e = bldE k n := by
  have : bldE k n ≠ 0 := by rw [he]; exact h0
  simp only [bldS, if_neg this]
  exact ⟨⟨fun i _ => zero_low i, fun i _ => zero_high i⟩, he.symm⟩
theorem push_bits {k : Int} (hk : k = 5) {a b : Fr} {s n : Int} {y j : Nat} (hj : j < 64) (hy : y < 16) (h0 : 0 ≤ 64 * s / n) (h1 : 64 * s / n ≤ 64) {la lb' : Int} (ha : isU la) (hb : isU lb') :
    bit (bits BinOp.or IntKind.u64 (la / 2 ^ min (64 * s / n).toNat 64) (IntKind.u64.wrap (lb' * 2 ^ min (64 - 64 * s / n).toNat 64))) j = if (j : Int) + 64 * s / n < 64 then bit la ((j : Int) + 64 * s / n).toNat else bit lb' ((j : Int) + 64 * s / n - 64).toNat := by
  rw [bit_or, bit_div ha, bit_shl hb _ hj, Nat.min_eq_left (by omega), Nat.min_eq_left (by omega)]
  by_cases e : (j : Int) + 64 * s / n < 64
  · rw [if_pos e, decide_eq_false (by omega)]
    have : (64 * s / n).toNat + j = ((j : Int) + 64 * s / n).toNat := by omega
    rw [this]; simp
  · rw [if_neg e, decide_eq_true (by omega), bit_ge _ (by omega)]
    have : j - (64 - 64 * s / n).toNat = ((j : Int) + 64 * s / n - 64).toNat := by omega
    rw [this]; simp
theorem push_low {k : Int} (hk : k = 5) {a b : Fr} (oa : okF a) (ob : okF b) {s n : Int} {y : Nat} (hy : y < 16) (h0 : 0 ≤ 64 * s / n) (h1 : 64 * s / n ≤ 64) :
    bits BinOp.or IntKind.u64 (a.low.getD y 0 / 2 ^ min (64 * s / n).toNat 64) (IntKind.u64.wrap (b.low.getD y 0 * 2 ^ min (64 - 64 * s / n).toNat 64)) = (mkL (blendL k a b s n)).low.getD y 0 := by
  refine low_eq hy (bits_isU _ _ _) fun j hj => ?_
  rw [push_bits hk (a := a) (b := b) hj hy h0 h1 (ok_low oa hy) (ok_low ob hy), lb_def, lb_def]
  simp only [blendL, if_pos hk]
  by_cases e : (j : Int) + 64 * s / n < 64
  · rw [if_pos e, if_pos e, getS_l, isD_iff.2 (by omega)]; rfl
  · rw [if_neg e, if_neg e, getS_l, isD_iff.2 (by omega)]; rfl
theorem push_high {k : Int} (hk : k = 5) {a b : Fr} (oa : okF a) (ob : okF b) {s n : Int} {y : Nat} (hy : y < 16) (h0 : 0 ≤ 64 * s / n) (h1 : 64 * s / n ≤ 64) :
    bits BinOp.or IntKind.u64 (a.high.getD y 0 / 2 ^ min (64 * s / n).toNat 64) (IntKind.u64.wrap (b.high.getD y 0 * 2 ^ min (64 - 64 * s / n).toNat 64)) = (mkL (blendL k a b s n)).high.getD y 0 := by
  refine high_eq hy (bits_isU _ _ _) fun j hj => ?_
  rw [push_bits hk (a := a) (b := b) hj hy h0 h1 (ok_high oa hy) (ok_high ob hy), hb_def, hb_def]
  simp only [blendL, if_pos hk]
  by_cases e : (j : Int) + 64 * s / n < 64
  · rw [if_pos e, if_pos e, getS_h, isD_iff.2 (by omega)]; rfl
  · rw [if_neg e, if_neg e, getS_h, isD_iff.2 (by omega)]; rfl
theorem cho_low {k : Int} (hk : k ≠ 5) (a b : Fr) {y : Int} (y0 : 0 ≤ y) (hy : y.toNat < 16) (s n : Int) : mixS (a.low.getD y.toNat 0) (b.low.getD y.toNat 0) (choS k y s n) = (mkL (blendL k a b s n)).low.getD y.toNat 0 := by
  refine low_eq hy (mix_isU _ _ _) fun j hj => ?_
  rw [bit_mix hj, lb_def, lb_def]
  simp only [blendL, if_neg hk, choS]
  rw [bit_ofB _ hj, Int.toNat_of_nonneg y0]
  cases fromS k j y s n <;> exact lb_lv _ _ _
theorem cho_high {k : Int} (hk : k ≠ 5) (a b : Fr) {y : Int} (y0 : 0 ≤ y) (hy : y.toNat < 16) (s n : Int) : mixS (a.high.getD y.toNat 0) (b.high.getD y.toNat 0) (choS k y s n) = (mkL (blendL k a b s n)).high.getD y.toNat 0 := by
  refine high_eq hy (mix_isU _ _ _) fun j hj => ?_
  rw [bit_mix hj, hb_def, hb_def]
  simp only [blendL, if_neg hk, choS]
  rw [bit_ofB _ hj, Int.toNat_of_nonneg y0]
  cases fromS k j y s n <;> exact hb_lv _ _ _
theorem clp_bd {s n : Int} (h : 1 ≤ n) : 0 ≤ clp s 0 n ∧ clp s 0 n ≤ n := by simp only [clp]; omega
theorem k21 : TabOK Try.prog T21 := fn_tabA k43 hm Try.func21 (by kernel_rfl) (by kernel_rfl) sIFFII.ok (by kernel_rfl) (fun a => A1 33 3 zeroF (blendL a.1 a.2.1 a.2.2.1 (clp a.2.2.2.1 0 a.2.2.2.2) a.2.2.2.2)) fun a hp => by
  have h : vc21 a.1 a.2.1 a.2.2.1 a.2.2.2.1 a.2.2.2.2 := by
    rw [← vc21_eq]
    obtain ⟨k, a, b, s, n⟩ := a
    dsimp only at hp ⊢
    obtain ⟨l1, l2⟩ := okF_len hp.1
    obtain ⟨l3, l4⟩ := okF_len hp.2
    simp [-List.getD_eq_getElem?_getD, W_def, rr_eq l1, rr_eq l2, rr_eq l3, rr_eq l4, rr_def]
    refine ⟨fun h => bld_bad (bldE_k (by omega)) (by omega), fun k0 => ⟨fun h => bld_bad (bldE_k (by omega)) (by omega), fun k1 => ⟨fun h => bld_bad (bldE_n (by omega) (by omega)) (by omega), fun n0 => ⟨fun h => bld_bad (bldE_n (by omega) (by omega)) (by omega), fun n1 => ⟨⟨RowI_zero zeroF_ok, fun i hi => (z16_at i).symm⟩, fun y lo hi hI => ⟨fun h1 => ?_, fun h1 => ?_⟩⟩⟩⟩⟩⟩
    · obtain ⟨c0, c1⟩ := clp_bd (s := s) n0
      have hd := div_bd (m := 64) (by omega) c0 c1 n0
      rw [dv (m := 64) (by omega) (by omega) c0 c1 n0 n1, W_id (n := 64 - 64 * clp s 0 n / n) (by omega) (by omega)]
      obtain ⟨i0, i1, i2, i3, i4, -, -⟩ := RowI_facts hI h1
      rw [setU i2, setU i3, setU i2, setU i3, i4]
      refine ⟨fun hk => ?_, fun hk => ?_⟩
      · exact ⟨by omega, ⟨i0, h1⟩, h1, hd.1, ⟨i0, h1⟩, h1, by omega, ⟨i0, h1⟩, h1, ⟨i0, h1⟩, h1, hd.1, ⟨i0, h1⟩, h1, by omega, ⟨i0, h1⟩, h1, RowI_next hI h1 (push_low hk hp.1 hp.2 i1 hd.1 hd.2) (push_high hk hp.1 hp.2 i1 hd.1 hd.2), by omega,
          fun i hi => (getU_set (by omega)).symm, fun i hi => (getU_set (by omega)).symm⟩
      · exact ⟨⟨k0, by omega, i0, h1, n0, n1, c0, c1⟩, ⟨i0, h1⟩, h1, ⟨i0, h1⟩, h1, ⟨i0, h1⟩, h1, ⟨i0, h1⟩, h1, ⟨i0, h1⟩, h1, ⟨i0, h1⟩, h1, RowI_next hI h1 (cho_low hk a b i0 i1 _ _) (cho_high hk a b i0 i1 _ _), by omega,
          fun i hi => (getU_set (by omega)).symm, fun i hi => (getU_set (by omega)).symm⟩
    · have := RowI_end hI h1
      have e := bldE_0 (k := k) (n := n) (by omega) (by omega)
      simp only [bldS, if_pos e]
      exact ⟨this, e.symm⟩
  exact h
theorem dot_step {F L : Nat → Nat → Int} {y x v : Int} {lo hi : List Int} (hI : DotI F L y x lo hi) (hy : y < 16) (hx : x < 64) (hF : lev F) (hL : lev L) (hv : 0 ≤ v ∧ v ≤ 3) (e : v = L y.toNat x.toNat) :
    okF ⟨rr lo, rr hi⟩ ∧ DotI F L y (W (x + 1)) (rr (setS ⟨rr lo, rr hi⟩ x y v).low) (rr (setS ⟨rr lo, rr hi⟩ x y v).high) ∧ max (64 - W (x + 1)) 0 < 64 - x ∧
      (∀ i : Nat, i < 16 → (setS ⟨rr lo, rr hi⟩ x y v).low.getD i 0 = (rr (setS ⟨rr lo, rr hi⟩ x y v).low).getD i 0) ∧ ∀ i : Nat, i < 16 → (setS ⟨rr lo, rr hi⟩ x y v).high.getD i 0 = (rr (setS ⟨rr lo, rr hi⟩ x y v).high).getD i 0 := by
  obtain ⟨a1, a2, a3, a4, a5, a6, a8⟩ := DotI_facts hI
  have hW : W (x + 1) = x + 1 := W_id (by omega) (by omega)
  rw [rr_eq a5, rr_eq a6, hW]
  have ok := okF_len (setS_ok a8 x y v)
  rw [rr_eq ok.1, rr_eq ok.2]
  exact ⟨a8, DotI_set hI hy hx hF hL (by rw [lvS_id hv, e]), by omega, fun _ _ => rfl, fun _ _ => rfl⟩
theorem clp_if (s : Int) {n : Int} (hn : 1 ≤ n) : (if 0 < if n < s then n else s then if n < s then n else s else 0) = clp s 0 n := by
  simp only [clp]
  by_cases h : n < s
  · rw [if_pos h]; split <;> omega
  · rw [if_neg h]; split <;> omega
theorem getS_in {f : Fr} {x y : Int} (x0 : 0 ≤ x) (x1 : x < 64) (y0 : 0 ≤ y) (y1 : y < 16) : getS f x y = lv f y.toNat x.toNat := by
  have : isD x y = true := isD_iff.2 ⟨x0, x1, y0, y1⟩
  simp only [getS, this, if_true]
theorem k22 : TabOK Try.prog T22 := fn_tabA k21 hm Try.func22 (by kernel_rfl) (by kernel_rfl) sIFFII.ok (by kernel_rfl) (fun a => A2 14 15 3 (lv zeroF) (blendL a.1 a.2.1 a.2.2.1 (clp a.2.2.2.1 0 a.2.2.2.2) a.2.2.2.2)) fun a hp => by
  have h : vc22 a.1 a.2.1 a.2.2.1 a.2.2.2.1 a.2.2.2.2 := by
    rw [← vc22_eq]
    obtain ⟨k, a, b, s, n⟩ := a
    dsimp only at hp ⊢
    obtain ⟨l1, l2⟩ := okF_len hp.1
    obtain ⟨l3, l4⟩ := okF_len hp.2
    simp [-List.getD_eq_getElem?_getD, W_def, rr_eq l1, rr_eq l2, rr_eq l3, rr_eq l4, rr_def]
    refine ⟨fun h => bld_bad (bldE_k (by omega)) (by omega), fun k0 => ⟨fun h => bld_bad (bldE_k (by omega)) (by omega), fun k1 => ⟨fun h => bld_bad (bldE_n (by omega) (by omega)) (by omega), fun n0 => ⟨fun h => bld_bad (bldE_n (by omega) (by omega)) (by omega), fun n1 => ⟨by omega, ⟨DotI_zero zeroF_ok, fun i hi => (z16_at i).symm⟩, fun y lo hi hI => ⟨fun h1 => ?_, fun h1 => ?_⟩⟩⟩⟩⟩⟩
    · obtain ⟨c0, c1⟩ := clp_bd (s := s) n0
      simp only [clp_if s n0]
      have hd := div_bd (m := 64) (by omega) c0 c1 n0
      rw [dv (m := 64) (by omega) (by omega) c0 c1 n0 n1]
      obtain ⟨y0, a2, a3, a4, a5, a6, a8⟩ := DotI_facts hI
      rw [rr_eq a5, rr_eq a6]
      refine ⟨⟨hI, fun _ _ => rfl, fun _ _ => rfl⟩, fun x lo hi hI => ⟨fun h2 => ⟨hp.1, ?_⟩, fun h2 => ?_⟩⟩
      · obtain ⟨-, -, x0, -, -, -, -⟩ := DotI_facts hI
        have L := bld_lev k a b (clp s 0 n) n
        rw [W_id (n := x + 64 * clp s 0 n / n) (by omega) (by omega), W_id (n := x + 64 * clp s 0 n / n - 64) (by omega) (by omega)]
        have eX : ((x.toNat : Nat) : Int) = x := Int.toNat_of_nonneg x0
        have eY : ((y.toNat : Nat) : Int) = y := Int.toNat_of_nonneg y0
        have A1 : k = 5 → x + 64 * clp s 0 n / n < 64 → getS a (x + 64 * clp s 0 n / n) y = blendL k a b (clp s 0 n) n y.toNat x.toNat := fun hk h => by
          simp only [blendL, if_pos hk, eX, eY, if_pos h]
        have A2 : k = 5 → ¬ x + 64 * clp s 0 n / n < 64 → getS b (x + 64 * clp s 0 n / n - 64) y = blendL k a b (clp s 0 n) n y.toNat x.toNat := fun hk h => by
          simp only [blendL, if_pos hk, eX, eY, if_neg h]
        have A3 : ¬ k = 5 → fromS k x y (clp s 0 n) n = true → getS b x y = blendL k a b (clp s 0 n) n y.toNat x.toNat := fun hk h => by
          simp only [blendL, if_neg hk, eX, eY, h, if_true]; exact getS_in x0 h2 y0 h1
        have A4 : ¬ k = 5 → fromS k x y (clp s 0 n) n = false → getS a x y = blendL k a b (clp s 0 n) n y.toNat x.toNat := fun hk h => by
          simp only [blendL, if_neg hk, eX, eY, h]; exact getS_in x0 h2 y0 h1
        have pc : 0 ≤ x ∧ x < 64 ∧ 0 ≤ y ∧ y < 16 ∧ 1 ≤ n ∧ n ≤ 10000 ∧ 0 ≤ clp s 0 n ∧ clp s 0 n ≤ n := ⟨x0, h2, y0, h1, n0, n1, c0, c1⟩
        refine ⟨fun hk => ⟨fun h => ⟨hp.1, dot_step hI h1 h2 (lv_lev _) L (getS_bd _ _ _) (A1 hk h)⟩, fun h => ⟨fun _ => ⟨hp.2, dot_step hI h1 h2 (lv_lev _) L (getS_bd _ _ _) (A2 hk (by omega))⟩, fun h => absurd hk h⟩⟩,
          fun hk => ⟨fun h => absurd h hk, fun _ => ⟨pc, fun h => ⟨hp.2, dot_step hI h1 h2 (lv_lev _) L (getS_bd _ _ _) (A3 hk h)⟩, fun h => dot_step hI h1 h2 (lv_lev _) L (getS_bd _ _ _) (A4 hk h)⟩⟩⟩
      · obtain ⟨a1, a2, a3, a4, a5, a6, a8⟩ := DotI_facts hI
        have hW : W (y + 1) = y + 1 := W_id (by omega) (by omega)
        rw [rr_eq a5, rr_eq a6, hW]
        exact ⟨DotI_row hI h1 h2, by omega, fun _ _ => rfl, fun _ _ => rfl⟩
    · have := DotI_end hI h1
      have e := bldE_0 (k := k) (n := n) (by omega) (by omega)
      simp only [bldS, if_pos e, ← this]
      exact ⟨⟨fun _ _ => trivial, fun _ _ => trivial⟩, e.symm⟩
  exact h
end Go.Proofs.Do
