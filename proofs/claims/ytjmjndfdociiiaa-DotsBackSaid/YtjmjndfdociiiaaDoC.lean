import Derived.Test.YtjmjndfdociiiaaDoB
namespace Go.Proofs.Do
set_option linter.unusedVariables false
set_option linter.unusedSimpArgs false
open Go Go.Sx Go.Proofs
set_option maxRecDepth 100000
-- ABBR: [(0 : Int), (0 : Int), (0 : Int), (0 : Int), (0 : Int), (0 : Int), (0 : Int), (0 : Int), (0 : Int), (0 : Int), (0 : Int), (0 : Int), (0 : Int), (0 : Int), (0 : Int), (0 : Int)] ==> z16
-- ABBR: (rowL (codI IntKind.u64) (16 : Nat) fun j => [SV.int IntKind.u64 (f.low.getD j (0 : Int))]) ==> (rr f.low)
-- ABBR: (rowL (codI IntKind.u64) (16 : Nat) fun j => [SV.int IntKind.u64 (f.high.getD j (0 : Int))]) ==> (rr f.high)
def z16 : List Int := List.replicate 16 0
/-- A loop over rows: the rows below i are the new ones. -/
def RowI (F : Fr) (L : Nat → Nat → Int) (i : Int) (lo hi : List Int) : Prop := 0 ≤ i ∧ i ≤ 16 ∧ lo.length = 16 ∧ hi.length = 16 ∧ ∀ y : Nat, y < 16 → lo.getD y 0 = (if (y : Int) < i then (mkL L).low.getD y 0 else F.low.getD y 0) ∧ hi.getD y 0 = (if (y : Int) < i then (mkL L).high.getD y 0 else F.high.getD y 0)
/-- A loop over dots: those ahead of (y, x) are the new ones. -/
def preL (F L : Nat → Nat → Int) (y x : Int) : Nat → Nat → Int := fun b a => if (b : Int) < y ∨ ((b : Int) = y ∧ (a : Int) < x) then L b a else F b a
def DotI (F L : Nat → Nat → Int) (y x : Int) (lo hi : List Int) : Prop := 0 ≤ y ∧ y ≤ 16 ∧ 0 ≤ x ∧ x ≤ 64 ∧ lo.length = 16 ∧ hi.length = 16 ∧ (⟨lo, hi⟩ : Fr) = mkL (preL F L y x)
attribute [irreducible] RowI preL DotI
abbrev X3 := Int × List Int × List Int
def A1 (t b : Nat) (F : Fr) (L : Nat → Nat → Int) : List Ann := [⟨.unit, .list [.int .i64 (.tm t), .arrL (codI .u64) 16 b 0, .arrL (codI .u64) 16 b 1], fun _ (x : X3) => RowI F L x.1 x.2.1 x.2.2, fun _ (x : X3) => (16 - x.1).toNat⟩]
def A2 (t u b : Nat) (F L : Nat → Nat → Int) : List Ann := [⟨.unit, .list [.int .i64 (.tm t), .arrL (codI .u64) 16 b 0, .arrL (codI .u64) 16 b 1], fun _ (x : X3) => DotI F L x.1 0 x.2.1 x.2.2, fun _ (x : X3) => (16 - x.1).toNat⟩,
  ⟨.int .i64 (.tm t), .list [.int .i64 (.tm u), .arrL (codI .u64) 16 b 0, .arrL (codI .u64) 16 b 1], fun (y : Int) (x : X3) => DotI F L y x.1 x.2.1 x.2.2, fun _ (x : X3) => (64 - x.1).toNat⟩]
def zeroF : Fr := ⟨z16, z16⟩
def fillL (n : Int) : Nat → Nat → Int := fun _ _ => lvS n
def fillS (n : Int) : Fr := mkL (fillL n)
def invL (f : Fr) : Nat → Nat → Int := fun y x => 3 - lv f y x
def invS (f : Fr) : Fr := mkL (invL f)
attribute [irreducible] fillL fillS invL invS
def cFill : Ctr := ctr sI.dec (fun _ => True) (fun a => encF (fillS a))
def T23 : List (Nat × Ctr) := (23, cFill) :: T28
def vc23 (n : Int) : Prop := cva T28 Try.f23 (A1 8 1 zeroF (fillL n)) [iS n] (encF (fillS n))
def T29 : List (Nat × Ctr) := (29, cFill) :: T23
def vc29 (n : Int) : Prop := cva T23 Try.f29 (A2 4 5 1 (lv zeroF) (fillL n)) [iS n] (encF (fillS n))
def cInv : Ctr := ctr sF.dec (fun a => okF a) (fun a => encF (invS a))
def T30 : List (Nat × Ctr) := (30, cInv) :: T29
def vc30 (f : Fr) : Prop := cva T29 Try.f30 (A1 4 0 f (invL f)) [encF f] (encF (invS f))
def T31 : List (Nat × Ctr) := (31, cInv) :: T30
def vc31 (f : Fr) : Prop := cva T30 Try.f31 (A1 3 0 f (invL f)) [encF f] (encF (invS f))
theorem vc23_eq (n : Int) : (True ∧ True ∧ True ∧ True ∧ ((True ∧ True ∧ True) ∧ True) ∧ True ∧ True ∧ True ∧ (RowI zeroF (fillL n) (0 : Int) z16 z16 ∧ (n = n ∧ True ∧ True ∧ clp n (0 : Int) (3 : Int) = clp n (0 : Int) (3 : Int) ∧ True ∧ True ∧ n = n ∧ clp n (0 : Int) (3 : Int) = clp n (0 : Int) (3 : Int) ∧ (0 : Int) = (0 : Int) ∧ True ∧ True ∧ True ∧ True ∧ True ∧ True ∧ True ∧ True ∧ True ∧ True ∧ True ∧ True ∧ True ∧ True ∧ True ∧ True ∧ True ∧ True ∧ True) ∧ ((if false = true then [] else List.map Seg.shape ([Seg.a (16 : Nat) (1 : Nat) fun x => [SV.int IntKind.u64 (0 : Int)]] ++ ([Seg.a (16 : Nat) (1 : Nat) fun x => [SV.int IntKind.u64 (0 : Int)]] ++ []))) = if false = true then [] else List.map Seg.shape ([Seg.a (16 : Nat) (1 : Nat) fun x => [SV.int IntKind.u64 (0 : Int)]] ++ ([Seg.a (16 : Nat) (1 : Nat) fun x => [SV.int IntKind.u64 (0 : Int)]] ++ []))) ∧ (((16 : Nat) = (16 : Nat) ∧ (1 : Nat) = (1 : Nat) ∧ ∀ (i : Nat), i < (16 : Nat) → (0 : Int) = (0 : Int) ∧ True) ∧ ((16 : Nat) = (16 : Nat) ∧ (1 : Nat) = (1 : Nat) ∧ ∀ (i : Nat), i < (16 : Nat) → (0 : Int) = (0 : Int) ∧ True) ∧ True) ∧ ((if false = true then [] else List.map Seg.shape ([Seg.a (16 : Nat) (1 : Nat) fun x => [SV.int IntKind.u64 (0 : Int)]] ++ ([Seg.a (16 : Nat) (1 : Nat) fun x => [SV.int IntKind.u64 (0 : Int)]] ++ []))) = if false = true then [] else List.map Seg.shape ([Seg.a (16 : Nat) (1 : Nat) fun x => [SV.int IntKind.u64 (0 : Int)]] ++ ([Seg.a (16 : Nat) (1 : Nat) fun x => [SV.int IntKind.u64 (0 : Int)]] ++ []))) ∧ (((16 : Nat) = (16 : Nat) ∧ (1 : Nat) = (codI IntKind.u64).n ∧ ∀ (i : Nat), i < (16 : Nat) → (0 : Int) = z16.getD i (codI IntKind.u64).dft ∧ True) ∧ ((16 : Nat) = (16 : Nat) ∧ (1 : Nat) = (codI IntKind.u64).n ∧ ∀ (i : Nat), i < (16 : Nat) → (0 : Int) = z16.getD i (codI IntKind.u64).dft ∧ True) ∧ True) ∧ True) ∧ ∀ (n_1 : Int) (l l_1 : List Int), RowI zeroF (fillL n) n_1 l l_1 → True ∧ (decide (n_1 < (16 : Int)) = true → True ∧ (0 : Int) ≤ (1 : Int) ∧ ((0 : Int) ≤ n_1 ∧ n_1 < (16 : Int)) ∧ n_1.toNat < (16 : Nat) ∧ ((0 : Int) ≤ n_1 ∧ n_1 < (16 : Int)) ∧ n_1.toNat < (16 : Nat) ∧ True ∧ True ∧ RowI zeroF (fillL n) (IntKind.i64.wrap (n_1 + (1 : Int))) (rowL (codI IntKind.u64) (16 : Nat) fun i' => mergeL (decide (i' = n_1.toNat)) (setL ((codI IntKind.u64).enc (l.getD n_1.toNat (codI IntKind.u64).dft)) (0 : Nat) [SV.int IntKind.u64 (IntKind.u64.wrap ((0 : Int) - IntKind.u64.wrap (bits BinOp.and IntKind.i64 (clp n (0 : Int) (3 : Int)) (1 : Int))))]) ((codI IntKind.u64).enc (l.getD i' (codI IntKind.u64).dft))) (rowL (codI IntKind.u64) (16 : Nat) fun i' => mergeL (decide (i' = n_1.toNat)) (setL ((codI IntKind.u64).enc (l_1.getD n_1.toNat (codI IntKind.u64).dft)) (0 : Nat) [SV.int IntKind.u64 (IntKind.u64.wrap ((0 : Int) - IntKind.u64.wrap (clp n (0 : Int) (3 : Int) / (2 : Int) ^ min (1 : Nat) (64 : Nat))))]) ((codI IntKind.u64).enc (l_1.getD i' (codI IntKind.u64).dft))) ∧ ((16 : Int) - IntKind.i64.wrap (n_1 + (1 : Int))).toNat < ((16 : Int) - n_1).toNat ∧ (n = n ∧ True ∧ True ∧ clp n (0 : Int) (3 : Int) = clp n (0 : Int) (3 : Int) ∧ True ∧ True ∧ n = n ∧ clp n (0 : Int) (3 : Int) = clp n (0 : Int) (3 : Int) ∧ IntKind.i64.wrap (n_1 + (1 : Int)) = IntKind.i64.wrap (n_1 + (1 : Int)) ∧ True ∧ True ∧ True ∧ True ∧ True ∧ True ∧ True ∧ True ∧ True ∧ True ∧ True ∧ True ∧ True ∧ True ∧ True ∧ True ∧ True ∧ True ∧ True) ∧ ((if false = true then [] else List.map Seg.shape ([Seg.a (16 : Nat) (1 : Nat) fun x => [SV.int IntKind.u64 (0 : Int)]] ++ ([Seg.a (16 : Nat) (1 : Nat) fun x => [SV.int IntKind.u64 (0 : Int)]] ++ []))) = if false = true then [] else List.map Seg.shape ([Seg.a (16 : Nat) (1 : Nat) fun x => [SV.int IntKind.u64 (0 : Int)]] ++ ([Seg.a (16 : Nat) (1 : Nat) fun x => [SV.int IntKind.u64 (0 : Int)]] ++ []))) ∧ (((16 : Nat) = (16 : Nat) ∧ (1 : Nat) = (1 : Nat) ∧ ∀ (i : Nat), i < (16 : Nat) → (0 : Int) = (0 : Int) ∧ True) ∧ ((16 : Nat) = (16 : Nat) ∧ (1 : Nat) = (1 : Nat) ∧ ∀ (i : Nat), i < (16 : Nat) → (0 : Int) = (0 : Int) ∧ True) ∧ True) ∧ ((if false = true then [] else List.map Seg.shape ([Seg.a (16 : Nat) (1 : Nat) fun x => [SV.int IntKind.u64 (0 : Int)]] ++ ([Seg.a (16 : Nat) (1 : Nat) fun x => [SV.int IntKind.u64 (0 : Int)]] ++ []))) = if false = true then [] else List.map Seg.shape ([Seg.a (16 : Nat) (1 : Nat) fun x => [SV.int IntKind.u64 (0 : Int)]] ++ ([Seg.a (16 : Nat) (1 : Nat) fun x => [SV.int IntKind.u64 (0 : Int)]] ++ []))) ∧ (((16 : Nat) = (16 : Nat) ∧ (0 : Nat) + (1 : Nat) = (codI IntKind.u64).n ∧ ∀ (i : Nat), i < (16 : Nat) → (if decide (i = n_1.toNat) = true then IntKind.u64.wrap ((0 : Int) - IntKind.u64.wrap (bits BinOp.and IntKind.i64 (clp n (0 : Int) (3 : Int)) (1 : Int))) else l.getD i (codI IntKind.u64).dft) = (rowL (codI IntKind.u64) (16 : Nat) fun i' => mergeL (decide (i' = n_1.toNat)) (setL ((codI IntKind.u64).enc (l.getD n_1.toNat (codI IntKind.u64).dft)) (0 : Nat) [SV.int IntKind.u64 (IntKind.u64.wrap ((0 : Int) - IntKind.u64.wrap (bits BinOp.and IntKind.i64 (clp n (0 : Int) (3 : Int)) (1 : Int))))]) ((codI IntKind.u64).enc (l.getD i' (codI IntKind.u64).dft))).getD i (codI IntKind.u64).dft ∧ True) ∧ ((16 : Nat) = (16 : Nat) ∧ (0 : Nat) + (1 : Nat) = (codI IntKind.u64).n ∧ ∀ (i : Nat), i < (16 : Nat) → (if decide (i = n_1.toNat) = true then IntKind.u64.wrap ((0 : Int) - IntKind.u64.wrap (clp n (0 : Int) (3 : Int) / (2 : Int) ^ min (1 : Nat) (64 : Nat))) else l_1.getD i (codI IntKind.u64).dft) = (rowL (codI IntKind.u64) (16 : Nat) fun i' => mergeL (decide (i' = n_1.toNat)) (setL ((codI IntKind.u64).enc (l_1.getD n_1.toNat (codI IntKind.u64).dft)) (0 : Nat) [SV.int IntKind.u64 (IntKind.u64.wrap ((0 : Int) - IntKind.u64.wrap (clp n (0 : Int) (3 : Int) / (2 : Int) ^ min (1 : Nat) (64 : Nat))))]) ((codI IntKind.u64).enc (l_1.getD i' (codI IntKind.u64).dft))).getD i (codI IntKind.u64).dft ∧ True) ∧ True) ∧ True) ∧ (decide (n_1 < (16 : Int)) = false → (∀ (i : Nat), i < (16 : Nat) → true = true) ∧ (∀ (i : Nat), i < (16 : Nat) → true = true) ∧ True ∧ ((∀ (i : Nat), i < (16 : Nat) → true = true) ∧ (∀ (i : Nat), i < (16 : Nat) → true = true) ∧ True) ∧ (((16 : Nat) = (16 : Nat) ∧ (0 : Nat) + (1 : Nat) = (1 : Nat) ∧ ∀ (i : Nat), i < (16 : Nat) → l.getD i (codI IntKind.u64).dft = (fillS n).low.getD i (0 : Int) ∧ True) ∧ ((16 : Nat) = (16 : Nat) ∧ (0 : Nat) + (1 : Nat) = (1 : Nat) ∧ ∀ (i : Nat), i < (16 : Nat) → l_1.getD i (codI IntKind.u64).dft = (fillS n).high.getD i (0 : Int) ∧ True) ∧ True) ∧ True)) = vc23 n := by kernel_rfl
theorem vc29_eq (n : Int) : (True ∧ True ∧ True ∧ (DotI (lv zeroF) (fillL n) (0 : Int) (0 : Int) z16 z16 ∧ (n = n ∧ True ∧ True ∧ True ∧ (0 : Int) = (0 : Int) ∧ True ∧ True ∧ True ∧ True ∧ True ∧ True ∧ True ∧ True ∧ True ∧ True ∧ True ∧ True ∧ True ∧ True ∧ True ∧ True) ∧ ((if false = true then [] else List.map Seg.shape ([Seg.a (16 : Nat) (1 : Nat) fun x => [SV.int IntKind.u64 (0 : Int)]] ++ ([Seg.a (16 : Nat) (1 : Nat) fun x => [SV.int IntKind.u64 (0 : Int)]] ++ []))) = if false = true then [] else List.map Seg.shape ([Seg.a (16 : Nat) (1 : Nat) fun x => [SV.int IntKind.u64 (0 : Int)]] ++ ([Seg.a (16 : Nat) (1 : Nat) fun x => [SV.int IntKind.u64 (0 : Int)]] ++ []))) ∧ (((16 : Nat) = (16 : Nat) ∧ (1 : Nat) = (1 : Nat) ∧ ∀ (i : Nat), i < (16 : Nat) → (0 : Int) = (0 : Int) ∧ True) ∧ ((16 : Nat) = (16 : Nat) ∧ (1 : Nat) = (1 : Nat) ∧ ∀ (i : Nat), i < (16 : Nat) → (0 : Int) = (0 : Int) ∧ True) ∧ True) ∧ ((if false = true then [] else List.map Seg.shape ([Seg.a (16 : Nat) (1 : Nat) fun x => [SV.int IntKind.u64 (0 : Int)]] ++ ([Seg.a (16 : Nat) (1 : Nat) fun x => [SV.int IntKind.u64 (0 : Int)]] ++ []))) = if false = true then [] else List.map Seg.shape ([Seg.a (16 : Nat) (1 : Nat) fun x => [SV.int IntKind.u64 (0 : Int)]] ++ ([Seg.a (16 : Nat) (1 : Nat) fun x => [SV.int IntKind.u64 (0 : Int)]] ++ []))) ∧ (((16 : Nat) = (16 : Nat) ∧ (1 : Nat) = (codI IntKind.u64).n ∧ ∀ (i : Nat), i < (16 : Nat) → (0 : Int) = z16.getD i (codI IntKind.u64).dft ∧ True) ∧ ((16 : Nat) = (16 : Nat) ∧ (1 : Nat) = (codI IntKind.u64).n ∧ ∀ (i : Nat), i < (16 : Nat) → (0 : Int) = z16.getD i (codI IntKind.u64).dft ∧ True) ∧ True) ∧ True) ∧ ∀ (n_1 : Int) (l l_1 : List Int), DotI (lv zeroF) (fillL n) n_1 (0 : Int) l l_1 → True ∧ (decide (n_1 < (16 : Int)) = true → True ∧ (DotI (lv zeroF) (fillL n) n_1 (0 : Int) (rowL (codI IntKind.u64) (16 : Nat) fun j => (codI IntKind.u64).enc (l.getD j (codI IntKind.u64).dft)) (rowL (codI IntKind.u64) (16 : Nat) fun j => (codI IntKind.u64).enc (l_1.getD j (codI IntKind.u64).dft)) ∧ (n = n ∧ True ∧ True ∧ True ∧ n_1 = n_1 ∧ (0 : Int) = (0 : Int) ∧ n_1 = n_1 ∧ True ∧ True ∧ True ∧ True ∧ True ∧ True ∧ True ∧ True ∧ True ∧ True ∧ True ∧ True ∧ True ∧ True) ∧ ((if false = true then [] else List.map Seg.shape ([Seg.a (16 : Nat) (1 : Nat) fun x => [SV.int IntKind.u64 (0 : Int)]] ++ ([Seg.a (16 : Nat) (1 : Nat) fun x => [SV.int IntKind.u64 (0 : Int)]] ++ []))) = if false = true then [] else List.map Seg.shape ([Seg.a (16 : Nat) (1 : Nat) fun x => [SV.int IntKind.u64 (0 : Int)]] ++ ([Seg.a (16 : Nat) (1 : Nat) fun x => [SV.int IntKind.u64 (0 : Int)]] ++ []))) ∧ (((16 : Nat) = (16 : Nat) ∧ (1 : Nat) = (1 : Nat) ∧ ∀ (i : Nat), i < (16 : Nat) → (0 : Int) = (0 : Int) ∧ True) ∧ ((16 : Nat) = (16 : Nat) ∧ (1 : Nat) = (1 : Nat) ∧ ∀ (i : Nat), i < (16 : Nat) → (0 : Int) = (0 : Int) ∧ True) ∧ True) ∧ ((if false = true then [] else List.map Seg.shape ([Seg.a (16 : Nat) (1 : Nat) fun x => [SV.int IntKind.u64 (0 : Int)]] ++ ([Seg.a (16 : Nat) (1 : Nat) fun x => [SV.int IntKind.u64 (0 : Int)]] ++ []))) = if false = true then [] else List.map Seg.shape ([Seg.a (16 : Nat) (1 : Nat) fun x => [SV.int IntKind.u64 (0 : Int)]] ++ ([Seg.a (16 : Nat) (1 : Nat) fun x => [SV.int IntKind.u64 (0 : Int)]] ++ []))) ∧ (((16 : Nat) = (16 : Nat) ∧ (codI IntKind.u64).n = (codI IntKind.u64).n ∧ ∀ (i : Nat), i < (16 : Nat) → l.getD i (codI IntKind.u64).dft = (rowL (codI IntKind.u64) (16 : Nat) fun j => (codI IntKind.u64).enc (l.getD j (codI IntKind.u64).dft)).getD i (codI IntKind.u64).dft ∧ True) ∧ ((16 : Nat) = (16 : Nat) ∧ (codI IntKind.u64).n = (codI IntKind.u64).n ∧ ∀ (i : Nat), i < (16 : Nat) → l_1.getD i (codI IntKind.u64).dft = (rowL (codI IntKind.u64) (16 : Nat) fun j => (codI IntKind.u64).enc (l_1.getD j (codI IntKind.u64).dft)).getD i (codI IntKind.u64).dft ∧ True) ∧ True) ∧ True) ∧ ∀ (n_2 : Int) (l l_2 : List Int), DotI (lv zeroF) (fillL n) n_1 n_2 l l_2 → True ∧ (decide (n_2 < (64 : Int)) = true → ((∀ (i : Nat), i < (16 : Nat) → true = true) ∧ (∀ (i : Nat), i < (16 : Nat) → true = true) ∧ True) ∧ True ∧ True ∧ True ∧ ((((∀ (i : Nat), i < (16 : Nat) → true = true ∧ True) ∧ ∀ (i : Nat), i < (16 : Nat) → true = true ∧ True) ∧ True ∧ True ∧ True) ∧ okF { low := rowL (codI IntKind.u64) (16 : Nat) fun j => (codI IntKind.u64).enc (l.getD j (codI IntKind.u64).dft), high := rowL (codI IntKind.u64) (16 : Nat) fun j => (codI IntKind.u64).enc (l_2.getD j (codI IntKind.u64).dft) : Fr }) ∧ (∀ (i : Nat), i < (16 : Nat) → true = true) ∧ (∀ (i : Nat), i < (16 : Nat) → true = true) ∧ True ∧ True ∧ DotI (lv zeroF) (fillL n) n_1 (IntKind.i64.wrap (n_2 + (1 : Int))) (rowL (codI IntKind.u64) (16 : Nat) fun j => [SV.int IntKind.u64 ((setS { low := rowL (codI IntKind.u64) (16 : Nat) fun j => (codI IntKind.u64).enc (l.getD j (codI IntKind.u64).dft), high := rowL (codI IntKind.u64) (16 : Nat) fun j => (codI IntKind.u64).enc (l_2.getD j (codI IntKind.u64).dft) : Fr } n_2 n_1 n).low.getD j (0 : Int))]) (rowL (codI IntKind.u64) (16 : Nat) fun j => [SV.int IntKind.u64 ((setS { low := rowL (codI IntKind.u64) (16 : Nat) fun j => (codI IntKind.u64).enc (l.getD j (codI IntKind.u64).dft), high := rowL (codI IntKind.u64) (16 : Nat) fun j => (codI IntKind.u64).enc (l_2.getD j (codI IntKind.u64).dft) : Fr } n_2 n_1 n).high.getD j (0 : Int))]) ∧ ((64 : Int) - IntKind.i64.wrap (n_2 + (1 : Int))).toNat < ((64 : Int) - n_2).toNat ∧ (n = n ∧ True ∧ True ∧ True ∧ n_1 = n_1 ∧ IntKind.i64.wrap (n_2 + (1 : Int)) = IntKind.i64.wrap (n_2 + (1 : Int)) ∧ n_1 = n_1 ∧ True ∧ True ∧ True ∧ True ∧ True ∧ True ∧ True ∧ True ∧ True ∧ True ∧ True ∧ True ∧ True ∧ True) ∧ ((if false = true then [] else List.map Seg.shape ([Seg.a (16 : Nat) (1 : Nat) fun x => [SV.int IntKind.u64 (0 : Int)]] ++ ([Seg.a (16 : Nat) (1 : Nat) fun x => [SV.int IntKind.u64 (0 : Int)]] ++ []))) = if false = true then [] else List.map Seg.shape ([Seg.a (16 : Nat) (1 : Nat) fun x => [SV.int IntKind.u64 (0 : Int)]] ++ ([Seg.a (16 : Nat) (1 : Nat) fun x => [SV.int IntKind.u64 (0 : Int)]] ++ []))) ∧ (((16 : Nat) = (16 : Nat) ∧ (1 : Nat) = (1 : Nat) ∧ ∀ (i : Nat), i < (16 : Nat) → (0 : Int) = (0 : Int) ∧ True) ∧ ((16 : Nat) = (16 : Nat) ∧ (1 : Nat) = (1 : Nat) ∧ ∀ (i : Nat), i < (16 : Nat) → (0 : Int) = (0 : Int) ∧ True) ∧ True) ∧ ((if false = true then [] else List.map Seg.shape ([Seg.a (16 : Nat) (1 : Nat) fun x => [SV.int IntKind.u64 (0 : Int)]] ++ ([Seg.a (16 : Nat) (1 : Nat) fun x => [SV.int IntKind.u64 (0 : Int)]] ++ []))) = if false = true then [] else List.map Seg.shape ([Seg.a (16 : Nat) (1 : Nat) fun x => [SV.int IntKind.u64 (0 : Int)]] ++ ([Seg.a (16 : Nat) (1 : Nat) fun x => [SV.int IntKind.u64 (0 : Int)]] ++ []))) ∧ (((16 : Nat) = (16 : Nat) ∧ (1 : Nat) = (codI IntKind.u64).n ∧ ∀ (i : Nat), i < (16 : Nat) → (setS { low := rowL (codI IntKind.u64) (16 : Nat) fun j => (codI IntKind.u64).enc (l.getD j (codI IntKind.u64).dft), high := rowL (codI IntKind.u64) (16 : Nat) fun j => (codI IntKind.u64).enc (l_2.getD j (codI IntKind.u64).dft) : Fr } n_2 n_1 n).low.getD i (0 : Int) = (rowL (codI IntKind.u64) (16 : Nat) fun j => [SV.int IntKind.u64 ((setS { low := rowL (codI IntKind.u64) (16 : Nat) fun j => (codI IntKind.u64).enc (l.getD j (codI IntKind.u64).dft), high := rowL (codI IntKind.u64) (16 : Nat) fun j => (codI IntKind.u64).enc (l_2.getD j (codI IntKind.u64).dft) : Fr } n_2 n_1 n).low.getD j (0 : Int))]).getD i (codI IntKind.u64).dft ∧ True) ∧ ((16 : Nat) = (16 : Nat) ∧ (1 : Nat) = (codI IntKind.u64).n ∧ ∀ (i : Nat), i < (16 : Nat) → (setS { low := rowL (codI IntKind.u64) (16 : Nat) fun j => (codI IntKind.u64).enc (l.getD j (codI IntKind.u64).dft), high := rowL (codI IntKind.u64) (16 : Nat) fun j => (codI IntKind.u64).enc (l_2.getD j (codI IntKind.u64).dft) : Fr } n_2 n_1 n).high.getD i (0 : Int) = (rowL (codI IntKind.u64) (16 : Nat) fun j => [SV.int IntKind.u64 ((setS { low := rowL (codI IntKind.u64) (16 : Nat) fun j => (codI IntKind.u64).enc (l.getD j (codI IntKind.u64).dft), high := rowL (codI IntKind.u64) (16 : Nat) fun j => (codI IntKind.u64).enc (l_2.getD j (codI IntKind.u64).dft) : Fr } n_2 n_1 n).high.getD j (0 : Int))]).getD i (codI IntKind.u64).dft ∧ True) ∧ True) ∧ True) ∧ (decide (n_2 < (64 : Int)) = false → True ∧ DotI (lv zeroF) (fillL n) (IntKind.i64.wrap (n_1 + (1 : Int))) (0 : Int) (rowL (codI IntKind.u64) (16 : Nat) fun j => (codI IntKind.u64).enc (l.getD j (codI IntKind.u64).dft)) (rowL (codI IntKind.u64) (16 : Nat) fun j => (codI IntKind.u64).enc (l_2.getD j (codI IntKind.u64).dft)) ∧ ((16 : Int) - IntKind.i64.wrap (n_1 + (1 : Int))).toNat < ((16 : Int) - n_1).toNat ∧ (n = n ∧ True ∧ True ∧ True ∧ IntKind.i64.wrap (n_1 + (1 : Int)) = IntKind.i64.wrap (n_1 + (1 : Int)) ∧ True ∧ True ∧ True ∧ True ∧ True ∧ True ∧ True ∧ True ∧ True ∧ True ∧ True ∧ True ∧ True ∧ True ∧ True ∧ True) ∧ ((if false = true then [] else List.map Seg.shape ([Seg.a (16 : Nat) (1 : Nat) fun x => [SV.int IntKind.u64 (0 : Int)]] ++ ([Seg.a (16 : Nat) (1 : Nat) fun x => [SV.int IntKind.u64 (0 : Int)]] ++ []))) = if false = true then [] else List.map Seg.shape ([Seg.a (16 : Nat) (1 : Nat) fun x => [SV.int IntKind.u64 (0 : Int)]] ++ ([Seg.a (16 : Nat) (1 : Nat) fun x => [SV.int IntKind.u64 (0 : Int)]] ++ []))) ∧ (((16 : Nat) = (16 : Nat) ∧ (1 : Nat) = (1 : Nat) ∧ ∀ (i : Nat), i < (16 : Nat) → (0 : Int) = (0 : Int) ∧ True) ∧ ((16 : Nat) = (16 : Nat) ∧ (1 : Nat) = (1 : Nat) ∧ ∀ (i : Nat), i < (16 : Nat) → (0 : Int) = (0 : Int) ∧ True) ∧ True) ∧ ((if false = true then [] else List.map Seg.shape ([Seg.a (16 : Nat) (1 : Nat) fun x => [SV.int IntKind.u64 (0 : Int)]] ++ ([Seg.a (16 : Nat) (1 : Nat) fun x => [SV.int IntKind.u64 (0 : Int)]] ++ []))) = if false = true then [] else List.map Seg.shape ([Seg.a (16 : Nat) (1 : Nat) fun x => [SV.int IntKind.u64 (0 : Int)]] ++ ([Seg.a (16 : Nat) (1 : Nat) fun x => [SV.int IntKind.u64 (0 : Int)]] ++ []))) ∧ (((16 : Nat) = (16 : Nat) ∧ (codI IntKind.u64).n = (codI IntKind.u64).n ∧ ∀ (i : Nat), i < (16 : Nat) → l.getD i (codI IntKind.u64).dft = (rowL (codI IntKind.u64) (16 : Nat) fun j => (codI IntKind.u64).enc (l.getD j (codI IntKind.u64).dft)).getD i (codI IntKind.u64).dft ∧ True) ∧ ((16 : Nat) = (16 : Nat) ∧ (codI IntKind.u64).n = (codI IntKind.u64).n ∧ ∀ (i : Nat), i < (16 : Nat) → l_2.getD i (codI IntKind.u64).dft = (rowL (codI IntKind.u64) (16 : Nat) fun j => (codI IntKind.u64).enc (l_2.getD j (codI IntKind.u64).dft)).getD i (codI IntKind.u64).dft ∧ True) ∧ True) ∧ True)) ∧ (decide (n_1 < (16 : Int)) = false → (∀ (i : Nat), i < (16 : Nat) → true = true) ∧ (∀ (i : Nat), i < (16 : Nat) → true = true) ∧ True ∧ ((∀ (i : Nat), i < (16 : Nat) → true = true) ∧ (∀ (i : Nat), i < (16 : Nat) → true = true) ∧ True) ∧ (((16 : Nat) = (16 : Nat) ∧ (0 : Nat) + (1 : Nat) = (1 : Nat) ∧ ∀ (i : Nat), i < (16 : Nat) → l.getD i (codI IntKind.u64).dft = (fillS n).low.getD i (0 : Int) ∧ True) ∧ ((16 : Nat) = (16 : Nat) ∧ (0 : Nat) + (1 : Nat) = (1 : Nat) ∧ ∀ (i : Nat), i < (16 : Nat) → l_1.getD i (codI IntKind.u64).dft = (fillS n).high.getD i (0 : Int) ∧ True) ∧ True) ∧ True)) = vc29 n := by kernel_rfl
theorem vc30_eq (f : Fr) : (True ∧ True ∧ (RowI f (invL f) (0 : Int) (rr f.low) (rr f.high) ∧ ((((16 : Nat) = (16 : Nat) ∧ (1 : Nat) = (1 : Nat) ∧ ∀ (i : Nat), i < (16 : Nat) → f.low.getD i (0 : Int) = f.low.getD i (0 : Int) ∧ True) ∧ ((16 : Nat) = (16 : Nat) ∧ (1 : Nat) = (1 : Nat) ∧ ∀ (i : Nat), i < (16 : Nat) → f.high.getD i (0 : Int) = f.high.getD i (0 : Int) ∧ True) ∧ True) ∧ True ∧ True ∧ True ∧ (0 : Int) = (0 : Int) ∧ True ∧ True ∧ True ∧ True ∧ True ∧ True ∧ True ∧ True ∧ True ∧ True ∧ True ∧ True ∧ True ∧ True ∧ True ∧ True ∧ True ∧ True ∧ True ∧ True ∧ True) ∧ ((if false = true then [] else List.map Seg.shape [Seg.a (16 : Nat) (1 : Nat) fun j => [SV.int IntKind.u64 (f.low.getD j (0 : Int))], Seg.a (16 : Nat) (1 : Nat) fun j => [SV.int IntKind.u64 (f.high.getD j (0 : Int))]]) = if false = true then [] else List.map Seg.shape [Seg.a (16 : Nat) (1 : Nat) fun j => [SV.int IntKind.u64 (f.low.getD j (0 : Int))], Seg.a (16 : Nat) (1 : Nat) fun j => [SV.int IntKind.u64 (f.high.getD j (0 : Int))]]) ∧ (((16 : Nat) = (16 : Nat) ∧ (1 : Nat) = (codI IntKind.u64).n ∧ ∀ (i : Nat), i < (16 : Nat) → f.low.getD i (0 : Int) = (rr f.low).getD i (codI IntKind.u64).dft ∧ True) ∧ ((16 : Nat) = (16 : Nat) ∧ (1 : Nat) = (codI IntKind.u64).n ∧ ∀ (i : Nat), i < (16 : Nat) → f.high.getD i (0 : Int) = (rr f.high).getD i (codI IntKind.u64).dft ∧ True) ∧ True) ∧ ((if false = true then [] else List.map Seg.shape ([Seg.a (16 : Nat) (1 : Nat) fun x => [SV.int IntKind.u64 (0 : Int)]] ++ ([Seg.a (16 : Nat) (1 : Nat) fun x => [SV.int IntKind.u64 (0 : Int)]] ++ []))) = if false = true then [] else List.map Seg.shape ([Seg.a (16 : Nat) (1 : Nat) fun x => [SV.int IntKind.u64 (0 : Int)]] ++ ([Seg.a (16 : Nat) (1 : Nat) fun x => [SV.int IntKind.u64 (0 : Int)]] ++ []))) ∧ (((16 : Nat) = (16 : Nat) ∧ (1 : Nat) = (1 : Nat) ∧ ∀ (i : Nat), i < (16 : Nat) → (0 : Int) = (0 : Int) ∧ True) ∧ ((16 : Nat) = (16 : Nat) ∧ (1 : Nat) = (1 : Nat) ∧ ∀ (i : Nat), i < (16 : Nat) → (0 : Int) = (0 : Int) ∧ True) ∧ True) ∧ True) ∧ ∀ (n : Int) (l l_1 : List Int), RowI f (invL f) n l l_1 → True ∧ (decide (n < (16 : Int)) = true → True ∧ ((0 : Int) ≤ n ∧ n < (16 : Int)) ∧ n.toNat < (16 : Nat) ∧ ((0 : Int) ≤ n ∧ n < (16 : Int)) ∧ n.toNat < (16 : Nat) ∧ ((0 : Int) ≤ n ∧ n < (16 : Int)) ∧ n.toNat < (16 : Nat) ∧ ((0 : Int) ≤ n ∧ n < (16 : Int)) ∧ n.toNat < (16 : Nat) ∧ IsT true ∧ True ∧ RowI f (invL f) (IntKind.i64.wrap (n + (1 : Int))) (rowL (codI IntKind.u64) (16 : Nat) fun i' => mergeL (decide (i' = n.toNat)) (setL ((codI IntKind.u64).enc (l.getD n.toNat (codI IntKind.u64).dft)) (0 : Nat) [SV.int IntKind.u64 (bits BinOp.xor IntKind.u64 (18446744073709551615 : Int) (l.getD n.toNat (codI IntKind.u64).dft))]) ((codI IntKind.u64).enc (l.getD i' (codI IntKind.u64).dft))) (rowL (codI IntKind.u64) (16 : Nat) fun i' => mergeL (decide (i' = n.toNat)) (setL ((codI IntKind.u64).enc (l_1.getD n.toNat (codI IntKind.u64).dft)) (0 : Nat) [SV.int IntKind.u64 (bits BinOp.xor IntKind.u64 (18446744073709551615 : Int) (l_1.getD n.toNat (codI IntKind.u64).dft))]) ((codI IntKind.u64).enc (l_1.getD i' (codI IntKind.u64).dft))) ∧ ((16 : Int) - IntKind.i64.wrap (n + (1 : Int))).toNat < ((16 : Int) - n).toNat ∧ ((((16 : Nat) = (16 : Nat) ∧ (1 : Nat) = (1 : Nat) ∧ ∀ (i : Nat), i < (16 : Nat) → f.low.getD i (0 : Int) = f.low.getD i (0 : Int) ∧ True) ∧ ((16 : Nat) = (16 : Nat) ∧ (1 : Nat) = (1 : Nat) ∧ ∀ (i : Nat), i < (16 : Nat) → f.high.getD i (0 : Int) = f.high.getD i (0 : Int) ∧ True) ∧ True) ∧ True ∧ True ∧ True ∧ IntKind.i64.wrap (n + (1 : Int)) = IntKind.i64.wrap (n + (1 : Int)) ∧ True ∧ True ∧ True ∧ True ∧ True ∧ True ∧ True ∧ True ∧ True ∧ True ∧ True ∧ True ∧ True ∧ True ∧ True ∧ True ∧ True ∧ True ∧ True ∧ True ∧ True) ∧ ((if false = true then [] else List.map Seg.shape [Seg.a (16 : Nat) (1 : Nat) fun j => [SV.int IntKind.u64 (f.low.getD j (0 : Int))], Seg.a (16 : Nat) (1 : Nat) fun j => [SV.int IntKind.u64 (f.high.getD j (0 : Int))]]) = if false = true then [] else List.map Seg.shape [Seg.a (16 : Nat) (1 : Nat) fun j => [SV.int IntKind.u64 (f.low.getD j (0 : Int))], Seg.a (16 : Nat) (1 : Nat) fun j => [SV.int IntKind.u64 (f.high.getD j (0 : Int))]]) ∧ (((16 : Nat) = (16 : Nat) ∧ (0 : Nat) + (1 : Nat) = (codI IntKind.u64).n ∧ ∀ (i : Nat), i < (16 : Nat) → (if decide (i = n.toNat) = true then bits BinOp.xor IntKind.u64 (18446744073709551615 : Int) (l.getD n.toNat (codI IntKind.u64).dft) else l.getD i (codI IntKind.u64).dft) = (rowL (codI IntKind.u64) (16 : Nat) fun i' => mergeL (decide (i' = n.toNat)) (setL ((codI IntKind.u64).enc (l.getD n.toNat (codI IntKind.u64).dft)) (0 : Nat) [SV.int IntKind.u64 (bits BinOp.xor IntKind.u64 (18446744073709551615 : Int) (l.getD n.toNat (codI IntKind.u64).dft))]) ((codI IntKind.u64).enc (l.getD i' (codI IntKind.u64).dft))).getD i (codI IntKind.u64).dft ∧ True) ∧ ((16 : Nat) = (16 : Nat) ∧ (0 : Nat) + (1 : Nat) = (codI IntKind.u64).n ∧ ∀ (i : Nat), i < (16 : Nat) → (if decide (i = n.toNat) = true then bits BinOp.xor IntKind.u64 (18446744073709551615 : Int) (l_1.getD n.toNat (codI IntKind.u64).dft) else l_1.getD i (codI IntKind.u64).dft) = (rowL (codI IntKind.u64) (16 : Nat) fun i' => mergeL (decide (i' = n.toNat)) (setL ((codI IntKind.u64).enc (l_1.getD n.toNat (codI IntKind.u64).dft)) (0 : Nat) [SV.int IntKind.u64 (bits BinOp.xor IntKind.u64 (18446744073709551615 : Int) (l_1.getD n.toNat (codI IntKind.u64).dft))]) ((codI IntKind.u64).enc (l_1.getD i' (codI IntKind.u64).dft))).getD i (codI IntKind.u64).dft ∧ True) ∧ True) ∧ ((if false = true then [] else List.map Seg.shape ([Seg.a (16 : Nat) (1 : Nat) fun x => [SV.int IntKind.u64 (0 : Int)]] ++ ([Seg.a (16 : Nat) (1 : Nat) fun x => [SV.int IntKind.u64 (0 : Int)]] ++ []))) = if false = true then [] else List.map Seg.shape ([Seg.a (16 : Nat) (1 : Nat) fun x => [SV.int IntKind.u64 (0 : Int)]] ++ ([Seg.a (16 : Nat) (1 : Nat) fun x => [SV.int IntKind.u64 (0 : Int)]] ++ []))) ∧ (((16 : Nat) = (16 : Nat) ∧ (1 : Nat) = (1 : Nat) ∧ ∀ (i : Nat), i < (16 : Nat) → (0 : Int) = (0 : Int) ∧ True) ∧ ((16 : Nat) = (16 : Nat) ∧ (1 : Nat) = (1 : Nat) ∧ ∀ (i : Nat), i < (16 : Nat) → (0 : Int) = (0 : Int) ∧ True) ∧ True) ∧ True) ∧ (decide (n < (16 : Int)) = false → (∀ (i : Nat), i < (16 : Nat) → true = true) ∧ (∀ (i : Nat), i < (16 : Nat) → true = true) ∧ True ∧ ((∀ (i : Nat), i < (16 : Nat) → true = true) ∧ (∀ (i : Nat), i < (16 : Nat) → true = true) ∧ True) ∧ (((16 : Nat) = (16 : Nat) ∧ (0 : Nat) + (1 : Nat) = (1 : Nat) ∧ ∀ (i : Nat), i < (16 : Nat) → l.getD i (codI IntKind.u64).dft = (invS f).low.getD i (0 : Int) ∧ True) ∧ ((16 : Nat) = (16 : Nat) ∧ (0 : Nat) + (1 : Nat) = (1 : Nat) ∧ ∀ (i : Nat), i < (16 : Nat) → l_1.getD i (codI IntKind.u64).dft = (invS f).high.getD i (0 : Int) ∧ True) ∧ True) ∧ True)) = vc30 f := by kernel_rfl
theorem vc31_eq (f : Fr) : (True ∧ True ∧ (RowI f (invL f) (0 : Int) (rr f.low) (rr f.high) ∧ ((((16 : Nat) = (16 : Nat) ∧ (1 : Nat) = (1 : Nat) ∧ ∀ (i : Nat), i < (16 : Nat) → f.low.getD i (0 : Int) = f.low.getD i (0 : Int) ∧ True) ∧ ((16 : Nat) = (16 : Nat) ∧ (1 : Nat) = (1 : Nat) ∧ ∀ (i : Nat), i < (16 : Nat) → f.high.getD i (0 : Int) = f.high.getD i (0 : Int) ∧ True) ∧ True) ∧ True ∧ True ∧ (0 : Int) = (0 : Int) ∧ True ∧ True ∧ True ∧ True ∧ True ∧ True ∧ True ∧ True ∧ True ∧ True ∧ True ∧ True ∧ True ∧ True ∧ True ∧ True ∧ True ∧ True ∧ True ∧ True ∧ True ∧ True) ∧ ((if false = true then [] else List.map Seg.shape [Seg.a (16 : Nat) (1 : Nat) fun j => [SV.int IntKind.u64 (f.low.getD j (0 : Int))], Seg.a (16 : Nat) (1 : Nat) fun j => [SV.int IntKind.u64 (f.high.getD j (0 : Int))]]) = if false = true then [] else List.map Seg.shape [Seg.a (16 : Nat) (1 : Nat) fun j => [SV.int IntKind.u64 (f.low.getD j (0 : Int))], Seg.a (16 : Nat) (1 : Nat) fun j => [SV.int IntKind.u64 (f.high.getD j (0 : Int))]]) ∧ (((16 : Nat) = (16 : Nat) ∧ (1 : Nat) = (codI IntKind.u64).n ∧ ∀ (i : Nat), i < (16 : Nat) → f.low.getD i (0 : Int) = (rr f.low).getD i (codI IntKind.u64).dft ∧ True) ∧ ((16 : Nat) = (16 : Nat) ∧ (1 : Nat) = (codI IntKind.u64).n ∧ ∀ (i : Nat), i < (16 : Nat) → f.high.getD i (0 : Int) = (rr f.high).getD i (codI IntKind.u64).dft ∧ True) ∧ True) ∧ ((if false = true then [] else List.map Seg.shape ([Seg.a (16 : Nat) (1 : Nat) fun x => [SV.int IntKind.u64 (0 : Int)]] ++ ([Seg.a (16 : Nat) (1 : Nat) fun x => [SV.int IntKind.u64 (0 : Int)]] ++ []))) = if false = true then [] else List.map Seg.shape ([Seg.a (16 : Nat) (1 : Nat) fun x => [SV.int IntKind.u64 (0 : Int)]] ++ ([Seg.a (16 : Nat) (1 : Nat) fun x => [SV.int IntKind.u64 (0 : Int)]] ++ []))) ∧ (((16 : Nat) = (16 : Nat) ∧ (1 : Nat) = (1 : Nat) ∧ ∀ (i : Nat), i < (16 : Nat) → (0 : Int) = (0 : Int) ∧ True) ∧ ((16 : Nat) = (16 : Nat) ∧ (1 : Nat) = (1 : Nat) ∧ ∀ (i : Nat), i < (16 : Nat) → (0 : Int) = (0 : Int) ∧ True) ∧ True) ∧ True) ∧ ∀ (n : Int) (l l_1 : List Int), RowI f (invL f) n l l_1 → True ∧ (decide (n < (16 : Int)) = true → ((0 : Int) ≤ n ∧ n < (16 : Int)) ∧ n.toNat < (16 : Nat) ∧ ((0 : Int) ≤ n ∧ n < (16 : Int)) ∧ n.toNat < (16 : Nat) ∧ ((0 : Int) ≤ n ∧ n < (16 : Int)) ∧ n.toNat < (16 : Nat) ∧ ((0 : Int) ≤ n ∧ n < (16 : Int)) ∧ n.toNat < (16 : Nat) ∧ IsT true ∧ True ∧ RowI f (invL f) (IntKind.i64.wrap (n + (1 : Int))) (rowL (codI IntKind.u64) (16 : Nat) fun i' => mergeL (decide (i' = n.toNat)) (setL ((codI IntKind.u64).enc (l.getD n.toNat (codI IntKind.u64).dft)) (0 : Nat) [SV.int IntKind.u64 (bits BinOp.xor IntKind.u64 (18446744073709551615 : Int) (l.getD n.toNat (codI IntKind.u64).dft))]) ((codI IntKind.u64).enc (l.getD i' (codI IntKind.u64).dft))) (rowL (codI IntKind.u64) (16 : Nat) fun i' => mergeL (decide (i' = n.toNat)) (setL ((codI IntKind.u64).enc (l_1.getD n.toNat (codI IntKind.u64).dft)) (0 : Nat) [SV.int IntKind.u64 (bits BinOp.xor IntKind.u64 (18446744073709551615 : Int) (l_1.getD n.toNat (codI IntKind.u64).dft))]) ((codI IntKind.u64).enc (l_1.getD i' (codI IntKind.u64).dft))) ∧ ((16 : Int) - IntKind.i64.wrap (n + (1 : Int))).toNat < ((16 : Int) - n).toNat ∧ ((((16 : Nat) = (16 : Nat) ∧ (1 : Nat) = (1 : Nat) ∧ ∀ (i : Nat), i < (16 : Nat) → f.low.getD i (0 : Int) = f.low.getD i (0 : Int) ∧ True) ∧ ((16 : Nat) = (16 : Nat) ∧ (1 : Nat) = (1 : Nat) ∧ ∀ (i : Nat), i < (16 : Nat) → f.high.getD i (0 : Int) = f.high.getD i (0 : Int) ∧ True) ∧ True) ∧ True ∧ True ∧ IntKind.i64.wrap (n + (1 : Int)) = IntKind.i64.wrap (n + (1 : Int)) ∧ True ∧ True ∧ True ∧ True ∧ True ∧ True ∧ True ∧ True ∧ True ∧ True ∧ True ∧ True ∧ True ∧ True ∧ True ∧ True ∧ True ∧ True ∧ True ∧ True ∧ True ∧ True) ∧ ((if false = true then [] else List.map Seg.shape [Seg.a (16 : Nat) (1 : Nat) fun j => [SV.int IntKind.u64 (f.low.getD j (0 : Int))], Seg.a (16 : Nat) (1 : Nat) fun j => [SV.int IntKind.u64 (f.high.getD j (0 : Int))]]) = if false = true then [] else List.map Seg.shape [Seg.a (16 : Nat) (1 : Nat) fun j => [SV.int IntKind.u64 (f.low.getD j (0 : Int))], Seg.a (16 : Nat) (1 : Nat) fun j => [SV.int IntKind.u64 (f.high.getD j (0 : Int))]]) ∧ (((16 : Nat) = (16 : Nat) ∧ (0 : Nat) + (1 : Nat) = (codI IntKind.u64).n ∧ ∀ (i : Nat), i < (16 : Nat) → (if decide (i = n.toNat) = true then bits BinOp.xor IntKind.u64 (18446744073709551615 : Int) (l.getD n.toNat (codI IntKind.u64).dft) else l.getD i (codI IntKind.u64).dft) = (rowL (codI IntKind.u64) (16 : Nat) fun i' => mergeL (decide (i' = n.toNat)) (setL ((codI IntKind.u64).enc (l.getD n.toNat (codI IntKind.u64).dft)) (0 : Nat) [SV.int IntKind.u64 (bits BinOp.xor IntKind.u64 (18446744073709551615 : Int) (l.getD n.toNat (codI IntKind.u64).dft))]) ((codI IntKind.u64).enc (l.getD i' (codI IntKind.u64).dft))).getD i (codI IntKind.u64).dft ∧ True) ∧ ((16 : Nat) = (16 : Nat) ∧ (0 : Nat) + (1 : Nat) = (codI IntKind.u64).n ∧ ∀ (i : Nat), i < (16 : Nat) → (if decide (i = n.toNat) = true then bits BinOp.xor IntKind.u64 (18446744073709551615 : Int) (l_1.getD n.toNat (codI IntKind.u64).dft) else l_1.getD i (codI IntKind.u64).dft) = (rowL (codI IntKind.u64) (16 : Nat) fun i' => mergeL (decide (i' = n.toNat)) (setL ((codI IntKind.u64).enc (l_1.getD n.toNat (codI IntKind.u64).dft)) (0 : Nat) [SV.int IntKind.u64 (bits BinOp.xor IntKind.u64 (18446744073709551615 : Int) (l_1.getD n.toNat (codI IntKind.u64).dft))]) ((codI IntKind.u64).enc (l_1.getD i' (codI IntKind.u64).dft))).getD i (codI IntKind.u64).dft ∧ True) ∧ True) ∧ ((if false = true then [] else List.map Seg.shape ([Seg.a (16 : Nat) (1 : Nat) fun x => [SV.int IntKind.u64 (0 : Int)]] ++ ([Seg.a (16 : Nat) (1 : Nat) fun x => [SV.int IntKind.u64 (0 : Int)]] ++ []))) = if false = true then [] else List.map Seg.shape ([Seg.a (16 : Nat) (1 : Nat) fun x => [SV.int IntKind.u64 (0 : Int)]] ++ ([Seg.a (16 : Nat) (1 : Nat) fun x => [SV.int IntKind.u64 (0 : Int)]] ++ []))) ∧ (((16 : Nat) = (16 : Nat) ∧ (1 : Nat) = (1 : Nat) ∧ ∀ (i : Nat), i < (16 : Nat) → (0 : Int) = (0 : Int) ∧ True) ∧ ((16 : Nat) = (16 : Nat) ∧ (1 : Nat) = (1 : Nat) ∧ ∀ (i : Nat), i < (16 : Nat) → (0 : Int) = (0 : Int) ∧ True) ∧ True) ∧ True) ∧ (decide (n < (16 : Int)) = false → (∀ (i : Nat), i < (16 : Nat) → true = true) ∧ (∀ (i : Nat), i < (16 : Nat) → true = true) ∧ True ∧ ((∀ (i : Nat), i < (16 : Nat) → true = true) ∧ (∀ (i : Nat), i < (16 : Nat) → true = true) ∧ True) ∧ (((16 : Nat) = (16 : Nat) ∧ (0 : Nat) + (1 : Nat) = (1 : Nat) ∧ ∀ (i : Nat), i < (16 : Nat) → l.getD i (codI IntKind.u64).dft = (invS f).low.getD i (0 : Int) ∧ True) ∧ ((16 : Nat) = (16 : Nat) ∧ (0 : Nat) + (1 : Nat) = (1 : Nat) ∧ ∀ (i : Nat), i < (16 : Nat) → l_1.getD i (codI IntKind.u64).dft = (invS f).high.getD i (0 : Int) ∧ True) ∧ True) ∧ True)) = vc31 f := by kernel_rfl
theorem selfU {l : List Int} (h : l.length = 16) : rowL (codI IntKind.u64) 16 (fun j => [SV.int IntKind.u64 (l.getD j 0)]) = l := by rw [← h]; exact selfI
theorem setU {l : List Int} {i : Nat} {v : Int} (h : l.length = 16) : rowL (codI IntKind.u64) 16 (fun i' => mergeL (decide (i' = i)) [SV.int IntKind.u64 v] [SV.int IntKind.u64 (l.getD i' 0)]) = l.set i v := setI h.symm
theorem getU_set {l : List Int} {i j : Nat} {v : Int} (hj : j < l.length) : (l.set i v).getD j 0 = if j = i then v else l.getD j 0 := by
  by_cases e : i = j
  · subst e; simp [List.getD_eq_getElem?_getD, hj]
  · simp [List.getD_eq_getElem?_getD, List.getElem?_set_ne e, Ne.symm e]
theorem z16_at (i : Nat) : z16.getD i 0 = 0 := by
  simp only [z16, List.getD_eq_getElem?_getD, List.getElem?_replicate]; split <;> rfl
theorem z16_len : z16.length = 16 := by simp [z16]
theorem okF_len {f : Fr} (h : okF f) : f.low.length = 16 ∧ f.high.length = 16 := by unfold okF at h; exact ⟨h.1, h.2.1⟩
theorem zeroF_ok : okF zeroF := by
  unfold okF zeroF
  exact ⟨z16_len, z16_len, fun y _ => by rw [z16_at]; exact isU_zero, fun y _ => by rw [z16_at]; exact isU_zero⟩
theorem lv_zero (y x : Nat) : lv zeroF y x = 0 := by
  simp only [lv, lb, hb, zeroF, z16_at, bit_zero]; rfl
section
variable {F : Fr} {L : Nat → Nat → Int} {n : Int} {lo hi : List Int}
theorem RowI_zero (h : okF F) : RowI F L 0 F.low F.high := by
  unfold okF at h
  simp only [RowI]
  exact ⟨by omega, by omega, h.1, h.2.1, fun y _ => by rw [if_neg (by omega), if_neg (by omega)]; exact ⟨rfl, rfl⟩⟩
theorem RowI_facts (hI : RowI F L n lo hi) (h1 : n < 16) : 0 ≤ n ∧ n.toNat < 16 ∧ lo.length = 16 ∧ hi.length = 16 ∧ W (n + 1) = n + 1 ∧ lo.getD n.toNat 0 = F.low.getD n.toNat 0 ∧ hi.getD n.toNat 0 = F.high.getD n.toNat 0 := by
  simp only [RowI] at hI
  obtain ⟨a1, a2, a3, a4, a5⟩ := hI
  have := a5 n.toNat (by omega)
  rw [if_neg (by omega), if_neg (by omega)] at this
  exact ⟨a1, by omega, a3, a4, W_id (by omega) (by omega), this⟩
theorem RowI_next (hI : RowI F L n lo hi) (h1 : n < 16) {v w : Int} (hv : v = (mkL L).low.getD n.toNat 0) (hw : w = (mkL L).high.getD n.toNat 0) : RowI F L (n + 1) (lo.set n.toNat v) (hi.set n.toNat w) := by
  simp only [RowI] at hI ⊢
  obtain ⟨a1, a2, a3, a4, a5⟩ := hI
  refine ⟨by omega, by omega, by simp [a3], by simp [a4], fun y hy => ?_⟩
  rw [getU_set (by omega), getU_set (by omega)]
  by_cases e : y = n.toNat
  · subst e; rw [if_pos rfl, if_pos rfl, if_pos (by omega), if_pos (by omega)]; exact ⟨hv, hw⟩
  · rw [if_neg e, if_neg e]
    obtain ⟨b1, b2⟩ := a5 y hy
    rw [b1, b2]
    by_cases e2 : (y : Int) < n
    · rw [if_pos e2, if_pos e2, if_pos (by omega), if_pos (by omega)]; exact ⟨rfl, rfl⟩
    · rw [if_neg e2, if_neg e2, if_neg (by omega), if_neg (by omega)]; exact ⟨rfl, rfl⟩
theorem RowI_end (hI : RowI F L n lo hi) (h1 : 16 ≤ n) : (∀ i, i < 16 → lo.getD i 0 = (mkL L).low.getD i 0) ∧ ∀ i, i < 16 → hi.getD i 0 = (mkL L).high.getD i 0 := by
  simp only [RowI] at hI
  obtain ⟨a1, a2, a3, a4, a5⟩ := hI
  refine ⟨fun i hi => ?_, fun i hi => ?_⟩
  · rw [(a5 i hi).1, if_pos (by omega)]
  · rw [(a5 i hi).2, if_pos (by omega)]
end
theorem fill_low (n : Int) {i : Nat} (hi : i < 16) : IntKind.u64.wrap (-IntKind.u64.wrap (bits BinOp.and IntKind.i64 (lvS n) 1)) = (mkL (fillL n)).low.getD i 0 := by
  refine low_eq hi (wrap_isU _) fun j hj => ?_
  simp only [fillL]
  have hfull : ∀ j, j < 64 → bit 18446744073709551615 j = true := by decide
  rcases lvS_cases n with e | e | e | e <;> rw [e]
  · exact bit_zero j
  · exact hfull j hj
  · exact bit_zero j
  · exact hfull j hj
theorem fill_high (n : Int) {i : Nat} (hi : i < 16) : IntKind.u64.wrap (-IntKind.u64.wrap (lvS n / 2)) = (mkL (fillL n)).high.getD i 0 := by
  refine high_eq hi (wrap_isU _) fun j hj => ?_
  simp only [fillL]
  have hfull : ∀ j, j < 64 → bit 18446744073709551615 j = true := by decide
  rcases lvS_cases n with e | e | e | e <;> rw [e]
  · exact bit_zero j
  · exact bit_zero j
  · exact hfull j hj
  · exact hfull j hj
theorem k23 : TabOK Try.prog T23 := fn_tabA k28 hm Try.func23 (by kernel_rfl) (by kernel_rfl) sI.ok (by kernel_rfl) (fun a => A1 8 1 zeroF (fillL a)) fun a hp => by
  have h : vc23 a := by
    rw [← vc23_eq]
    simp [-List.getD_eq_getElem?_getD, W_def, clp_lv]
    refine ⟨⟨RowI_zero zeroF_ok, fun i hi => (z16_at i).symm⟩, fun n lo hi hI => ⟨fun h1 => ?_, fun h1 => ?_⟩⟩
    · obtain ⟨i0, i1, i2, i3, i4, -, -⟩ := RowI_facts hI h1
      rw [setU i2, setU i3, i4]
      exact ⟨⟨i0, h1⟩, h1, ⟨i0, h1⟩, h1, RowI_next hI h1 (fill_low a i1) (fill_high a i1), by omega, fun i hi => (getU_set (by omega)).symm, fun i hi => (getU_set (by omega)).symm⟩
    · have := RowI_end hI h1
      simpa only [fillS] using this
  exact h
theorem inv_low {f : Fr} (h : okF f) {i : Nat} (hi : i < 16) : bits .xor .u64 18446744073709551615 (f.low.getD i 0) = (mkL (invL f)).low.getD i 0 := by
  refine low_eq hi (bits_isU _ _ _) fun j hj => ?_
  rw [bit_not _ hj, lb_def, lb_lv]
  simp only [invL]
  have := lv_bd f i j
  rcases (show lv f i j = 0 ∨ lv f i j = 1 ∨ lv f i j = 2 ∨ lv f i j = 3 by omega) with e | e | e | e <;> rw [e] <;> rfl
theorem inv_high {f : Fr} (h : okF f) {i : Nat} (hi : i < 16) : bits .xor .u64 18446744073709551615 (f.high.getD i 0) = (mkL (invL f)).high.getD i 0 := by
  refine high_eq hi (bits_isU _ _ _) fun j hj => ?_
  rw [bit_not _ hj, hb_def, hb_lv]
  simp only [invL]
  have := lv_bd f i j
  rcases (show lv f i j = 0 ∨ lv f i j = 1 ∨ lv f i j = 2 ∨ lv f i j = 3 by omega) with e | e | e | e <;> rw [e] <;> rfl
section
variable {F L : Nat → Nat → Int} {y x n : Int} {lo hi : List Int}
abbrev lev (L : Nat → Nat → Int) : Prop := ∀ b a, 0 ≤ L b a ∧ L b a ≤ 3
theorem pre_lev (hF : lev F) (hL : lev L) : lev (preL F L y x) := fun b a => by
  simp only [preL]; split
  · exact hL b a
  · exact hF b a
theorem DotI_zero {f : Fr} (h : okF f) : DotI (lv f) L 0 0 f.low f.high := by
  have h' := h
  unfold okF at h'
  simp only [DotI]
  refine ⟨by omega, by omega, by omega, by omega, h'.1, h'.2.1, ?_⟩
  have : mkL (preL (lv f) L 0 0) = mkL (lv f) := mkL_congr fun b a _ _ => by simp only [preL]; rw [if_neg (by omega)]
  rw [this, mkL_lv h]
theorem DotI_facts (hI : DotI F L y x lo hi) : 0 ≤ y ∧ y ≤ 16 ∧ 0 ≤ x ∧ x ≤ 64 ∧ lo.length = 16 ∧ hi.length = 16 ∧ okF ⟨lo, hi⟩ := by
  simp only [DotI] at hI
  obtain ⟨a1, a2, a3, a4, a5, a6, a7⟩ := hI
  exact ⟨a1, a2, a3, a4, a5, a6, by rw [a7]; exact mkL_ok _⟩
theorem setS_ok {f : Fr} (h : okF f) (x y n : Int) : okF (setS f x y n) := by
  simp only [setS]; split
  · exact mkL_ok _
  · exact h
theorem DotI_set (hI : DotI F L y x lo hi) (hy : y < 16) (hx : x < 64) (hF : lev F) (hL : lev L) (hn : lvS n = L y.toNat x.toNat) : DotI F L y (x + 1) (setS ⟨lo, hi⟩ x y n).low (setS ⟨lo, hi⟩ x y n).high := by
  obtain ⟨a1, a2, a3, a4, a5, a6, a8⟩ := DotI_facts hI
  simp only [DotI] at hI ⊢
  have a7 := hI.2.2.2.2.2.2
  have hd : isD x y = true := isD_iff.2 ⟨a3, hx, a1, hy⟩
  have ok := okF_len (setS_ok a8 x y n)
  refine ⟨a1, a2, by omega, by omega, ok.1, ok.2, ?_⟩
  show setS ⟨lo, hi⟩ x y n = _
  rw [a7]
  simp only [setS, hd, if_true]
  refine mkL_congr fun b a hb ha => ?_
  rw [setL_at]
  by_cases e : a = x.toNat ∧ b = y.toNat
  · rw [if_pos e, hn, e.1, e.2]
    simp only [preL]; rw [if_pos (by omega)]
  · rw [if_neg e, lv_mkL hb ha (pre_lev hF hL b a)]
    simp only [preL]
    by_cases e2 : (b : Int) < y ∨ ((b : Int) = y ∧ (a : Int) < x)
    · rw [if_pos e2, if_pos (by omega)]
    · rw [if_neg e2, if_neg (by omega)]
theorem DotI_row (hI : DotI F L y x lo hi) (hy : y < 16) (hx : 64 ≤ x) : DotI F L (y + 1) 0 lo hi := by
  simp only [DotI] at hI ⊢
  obtain ⟨a1, a2, a3, a4, a5, a6, a7⟩ := hI
  refine ⟨by omega, by omega, by omega, by omega, a5, a6, ?_⟩
  rw [a7]
  refine mkL_congr fun b a hb ha => ?_
  simp only [preL]
  by_cases e2 : (b : Int) < y ∨ ((b : Int) = y ∧ (a : Int) < x)
  · rw [if_pos e2, if_pos (by omega)]
  · rw [if_neg e2, if_neg (by omega)]
theorem DotI_end (hI : DotI F L y x lo hi) (hy : 16 ≤ y) : (⟨lo, hi⟩ : Fr) = mkL L := by
  simp only [DotI] at hI
  obtain ⟨a1, a2, a3, a4, a5, a6, a7⟩ := hI
  rw [a7]
  refine mkL_congr fun b a hb ha => ?_
  simp only [preL]; rw [if_pos (by omega)]
end
theorem lv_lev (f : Fr) : lev (lv f) := lv_bd f
theorem fill_lev (n : Int) : lev (fillL n) := fun b a => by
  simp only [fillL]; rcases lvS_cases n with e | e | e | e <;> omega
theorem k29 : TabOK Try.prog T29 := fn_tabA k23 hm Try.func29 (by kernel_rfl) (by kernel_rfl) sI.ok (by kernel_rfl) (fun a => A2 4 5 1 (lv zeroF) (fillL a)) fun a hp => by
  have h : vc29 a := by
    rw [← vc29_eq]
    simp [-List.getD_eq_getElem?_getD, W_def, clp_lv]
    refine ⟨⟨DotI_zero zeroF_ok, fun i hi => (z16_at i).symm⟩, fun y lo hi hI => ⟨fun h1 => ?_, fun h1 => ?_⟩⟩
    · obtain ⟨a1, a2, a3, a4, a5, a6, a8⟩ := DotI_facts hI
      rw [selfU a5, selfU a6]
      refine ⟨⟨hI, fun _ _ => rfl, fun _ _ => rfl⟩, fun x lo hi hI => ⟨fun h2 => ?_, fun h2 => ?_⟩⟩
      · obtain ⟨a1, a2, a3, a4, a5, a6, a8⟩ := DotI_facts hI
        have hW : W (x + 1) = x + 1 := W_id (by omega) (by omega)
        have ok := okF_len (setS_ok a8 x y a)
        rw [selfU a5, selfU a6, hW, selfU ok.1, selfU ok.2]
        exact ⟨a8, DotI_set hI h1 h2 (lv_lev _) (fill_lev a) (by simp only [fillL]), by omega, fun _ _ => rfl, fun _ _ => rfl⟩
      · obtain ⟨a1, a2, a3, a4, a5, a6, a8⟩ := DotI_facts hI
        have hW : W (y + 1) = y + 1 := W_id (by omega) (by omega)
        rw [selfU a5, selfU a6, hW]
        exact ⟨DotI_row hI h1 h2, by omega, fun _ _ => rfl, fun _ _ => rfl⟩
    · have := DotI_end hI h1
      simp only [fillS, ← this]
      exact ⟨fun _ _ => trivial, fun _ _ => trivial⟩
  exact h
theorem inv_core {f : Fr} (h : okF f) {n : Int} {lo hi : List Int} (hI : RowI f (invL f) n lo hi) (h1 : n < 16) : RowI f (invL f) (n + 1) (lo.set n.toNat (bits .xor .u64 18446744073709551615 (lo.getD n.toNat 0))) (hi.set n.toNat (bits .xor .u64 18446744073709551615 (hi.getD n.toNat 0))) := by
  obtain ⟨i0, i1, i2, i3, i4, i5, i6⟩ := RowI_facts hI h1
  exact RowI_next hI h1 (by rw [i5]; exact inv_low h i1) (by rw [i6]; exact inv_high h i1)
theorem rr_eq {l : List Int} (h : l.length = 16) : rr l = l := selfU h
theorem k30 : TabOK Try.prog T30 := fn_tabA k29 hm Try.func30 (by kernel_rfl) (by kernel_rfl) sF.ok (by kernel_rfl) (fun a => A1 4 0 a (invL a)) fun a hp => by
  have h : vc30 a := by
    rw [← vc30_eq]
    obtain ⟨l1, l2⟩ := okF_len hp
    simp [-List.getD_eq_getElem?_getD, W_def, rr_eq l1, rr_eq l2]
    refine ⟨RowI_zero hp, fun n lo hi hI => ⟨fun h1 => ?_, fun h1 => ?_⟩⟩
    · obtain ⟨i0, i1, i2, i3, i4, -, -⟩ := RowI_facts hI h1
      rw [setU i2, setU i3, i4]
      exact ⟨⟨i0, h1⟩, h1, ⟨i0, h1⟩, h1, ⟨i0, h1⟩, h1, ⟨i0, h1⟩, h1, inv_core hp hI h1, by omega, fun i hi => (getU_set (by omega)).symm, fun i hi => (getU_set (by omega)).symm⟩
    · have := RowI_end hI h1
      simpa only [invS] using this
  exact h
theorem k31 : TabOK Try.prog T31 := fn_tabA k30 hm Try.func31 (by kernel_rfl) (by kernel_rfl) sF.ok (by kernel_rfl) (fun a => A1 3 0 a (invL a)) fun a hp => by
  have h : vc31 a := by
    rw [← vc31_eq]
    obtain ⟨l1, l2⟩ := okF_len hp
    simp [-List.getD_eq_getElem?_getD, W_def, rr_eq l1, rr_eq l2]
    refine ⟨RowI_zero hp, fun n lo hi hI => ⟨fun h1 => ?_, fun h1 => ?_⟩⟩
    · obtain ⟨i0, i1, i2, i3, i4, -, -⟩ := RowI_facts hI h1
      rw [setU i2, setU i3, i4]
      exact ⟨⟨i0, h1⟩, h1, ⟨i0, h1⟩, h1, ⟨i0, h1⟩, h1, ⟨i0, h1⟩, h1, inv_core hp hI h1, by omega, fun i hi => (getU_set (by omega)).symm, fun i hi => (getU_set (by omega)).symm⟩
    · have := RowI_end hI h1
      simpa only [invS] using this
  exact h
end Go.Proofs.Do
