import Derived.Test.YtjmjndfdociiiaaDoA
import Derived.Test.YtjmjndfdociiiaaRows
namespace Go.Proofs.Do
set_option linter.unusedVariables false
set_option linter.unusedSimpArgs false
open Go Go.Sx Go.Proofs
set_option maxRecDepth 100000
-- ABBR: (rowL (codI IntKind.u64) (16 : Nat) fun j => [SV.int IntKind.u64 (f.low.getD j (0 : Int))]) ==> (rr f.low)
-- ABBR: (rowL (codI IntKind.u64) (16 : Nat) fun j => [SV.int IntKind.u64 (f.high.getD j (0 : Int))]) ==> (rr f.high)
abbrev iS (n : Int) : SV := .int .i64 n
theorem hm : Try.prog.follows .mixedOrders = true := by kernel_rfl
abbrev cva (T : List (Nat × Ctr)) (fn : Func) (A : List Ann) (args : List SV) (r : SV) : Prop := callVA Try.prog (tab T) fn (codeOf fn) A args r
def W (n : Int) : Int := IntKind.i64.wrap n
def rr (l : List Int) : List Int := rowL (codI IntKind.u64) (16 : Nat) fun j => [SV.int IntKind.u64 (l.getD j (0 : Int))]
def encF (f : Fr) : SV := .agg [.a 16 1 fun j => [.int .u64 (f.low.getD j 0)], .a 16 1 fun j => [.int .u64 (f.high.getD j 0)]]
def argF : Arg Fr where
  enc := encF
  dec x := match x with
    | .agg [.a n es f, .a n' es' f'] => (match Nat.beq n 16 && Nat.beq es 1 && Nat.beq n' 16 && Nat.beq es' 1 with
      | true => some (rowP (codI .u64) 16 f ∧ rowP (codI .u64) 16 f', ⟨rowL (codI .u64) 16 f, rowL (codI .u64) 16 f'⟩)
      | false => none)
    | _ => none
  ok x p a h hp := by
    split at h
    case h_2 => cases h
    split at h
    case h_2 => cases h
    rename_i n es f n' es' f' _ he
    simp only [Bool.and_eq_true, Nat.beq_eq] at he
    obtain ⟨⟨⟨rfl, rfl⟩, rfl⟩, rfl⟩ := he
    cases h
    have key : ∀ g : Nat → List SV, rowP (codI .u64) 16 g → ∀ i, i < 16 → leEL nokp nonl (g i) [.int .u64 ((rowL (codI .u64) 16 g).getD i 0)] := fun g hg i hi => by
      obtain ⟨b, hb⟩ := Option.isSome_iff_exists.1 (hg i hi).1
      have := (codI .u64).ok _ _ hb (hg i hi).2
      have e : (rowL (codI .u64) 16 g).getD i 0 = b := by rw [rowL_get hi, hb]; rfl
      rw [e]
      exact leZL_leEL this
    exact ⟨⟨rfl, rfl, key f hp.1⟩, ⟨rfl, rfl, key f' hp.2⟩, trivial⟩
def sI := Sig.one (argI .i64)
def sII := Sig.cons (argI .i64) (Sig.one (argI .i64))
def sIII := Sig.cons (argI .i64) sII
def sF := Sig.one argF
def sFF := Sig.cons argF sF
def sFII := Sig.cons argF sII
def sFIII := Sig.cons argF sIII
def isD (x y : Int) : Bool := decide (0 ≤ x ∧ x < 64 ∧ 0 ≤ y ∧ y < 16)
def clp (n lo hi : Int) : Int := min (max n lo) hi
def lvS (n : Int) : Int := min (max n 0) 3
def getS (f : Fr) (x y : Int) : Int := if isD x y then lv f y.toNat x.toNat else 0
def setL' (f : Fr) (x y : Nat) (n : Int) : Nat → Nat → Int := fun b a => if a = x ∧ b = y then lvS n else lv f b a
def setS (f : Fr) (x y n : Int) : Fr := if isD x y then mkL (setL' f x.toNat y.toNat n) else f
attribute [irreducible] W isD clp lvS getS setL' setS
def T37 : List (Nat × Ctr) := [(37, ctr sII.dec (fun _ => True) (fun a => .bool (isD a.1 a.2)))]
def vc37 (x y : Int) : Prop := cva [] Try.f37 [] [iS x, iS y] (.bool (isD x y))
def T45 : List (Nat × Ctr) := (45, ctr sII.dec (fun _ => True) (fun a => .bool (isD a.1 a.2))) :: T37
def vc45 (x y : Int) : Prop := cva T37 Try.f45 [] [iS x, iS y] (.bool (isD x y))
def T38 : List (Nat × Ctr) := (38, ctr sIII.dec (fun _ => True) (fun a => iS (clp a.1 a.2.1 a.2.2))) :: T45
def vc38 (x y z : Int) : Prop := cva T45 Try.f38 [] [iS x, iS y, iS z] (iS (clp x y z))
def T46 : List (Nat × Ctr) := (46, ctr sI.dec (fun _ => True) (fun a => iS (lvS a))) :: T38
def vc46 (x : Int) : Prop := cva T38 Try.f46 [] [iS x] (iS (lvS x))
def cGet : Ctr := ctr sFII.dec (fun a => okF a.1) (fun a => iS (getS a.1 a.2.1 a.2.2))
def T15 : List (Nat × Ctr) := (15, cGet) :: T46
def vc15 (f : Fr) (x y : Int) : Prop := cva T46 Try.f15 [] [encF f, iS x, iS y] (iS (getS f x y))
def T27 : List (Nat × Ctr) := (27, cGet) :: T15
def vc27 (f : Fr) (x y : Int) : Prop := cva T15 Try.f27 [] [encF f, iS x, iS y] (iS (getS f x y))
def cSet : Ctr := ctr sFIII.dec (fun a => okF a.1) (fun a => encF (setS a.1 a.2.1 a.2.2.1 a.2.2.2))
def T14 : List (Nat × Ctr) := (14, cSet) :: T27
def vc14 (f : Fr) (x y n : Int) : Prop := cva T27 Try.f14 [] [encF f, iS x, iS y, iS n] (encF (setS f x y n))
def T28 : List (Nat × Ctr) := (28, cSet) :: T14
def vc28 (f : Fr) (x y n : Int) : Prop := cva T14 Try.f28 [] [encF f, iS x, iS y, iS n] (encF (setS f x y n))
theorem vc37_eq (x y : Int) : (True ∧ (decide (x ≥ (0 : Int)) = true → (decide (x < (64 : Int)) = true → (decide (y ≥ (0 : Int)) = true → True ∧ True ∧ decide (y < (16 : Int)) = isD x y ∧ True) ∧ (decide (y ≥ (0 : Int)) = false → True ∧ True ∧ isD x y = false ∧ True)) ∧ (decide (x < (64 : Int)) = false → True ∧ True ∧ isD x y = false ∧ True)) ∧ (decide (x ≥ (0 : Int)) = false → True ∧ True ∧ isD x y = false ∧ True)) = vc37 x y := by kernel_rfl
theorem vc45_eq (x y : Int) : (True ∧ (decide (x ≥ (0 : Int)) = true → (decide (x < (64 : Int)) = true → (decide (y ≥ (0 : Int)) = true → True ∧ True ∧ decide (y < (16 : Int)) = isD x y ∧ True) ∧ (decide (y ≥ (0 : Int)) = false → True ∧ True ∧ isD x y = false ∧ True)) ∧ (decide (x < (64 : Int)) = false → True ∧ True ∧ isD x y = false ∧ True)) ∧ (decide (x ≥ (0 : Int)) = false → True ∧ True ∧ isD x y = false ∧ True)) = vc45 x y := by kernel_rfl
theorem vc38_eq (x y z : Int) : (True ∧ True ∧ True ∧ (if z < if y > x then y else x then z else if y > x then y else x) = clp x y z ∧ True) = vc38 x y z := by kernel_rfl
theorem vc46_eq (x : Int) : (True ∧ True ∧ True ∧ (if (if (3 : Int) < x then (3 : Int) else x) > (0 : Int) then if (3 : Int) < x then (3 : Int) else x else (0 : Int)) = lvS x ∧ True) = vc46 x := by kernel_rfl
theorem vc15_eq (f : Fr) (x y : Int) : (True ∧ True ∧ True ∧ ((True ∧ True) ∧ True) ∧ True ∧ ((!isD x y) = true → True ∧ True ∧ (0 : Int) = getS f x y ∧ True) ∧ ((!isD x y) = false → ((0 : Int) ≤ y ∧ y < (16 : Int)) ∧ y.toNat < (16 : Nat) ∧ (0 : Int) ≤ x ∧ ((0 : Int) ≤ y ∧ y < (16 : Int)) ∧ y.toNat < (16 : Nat) ∧ (0 : Int) ≤ x ∧ IsT true ∧ True ∧ IntKind.i64.wrap (IntKind.u64.wrap (bits BinOp.and IntKind.u64 (f.low.getD y.toNat (0 : Int) / (2 : Int) ^ min x.toNat (64 : Nat)) (1 : Int) + IntKind.u64.wrap ((2 : Int) * bits BinOp.and IntKind.u64 (f.high.getD y.toNat (0 : Int) / (2 : Int) ^ min x.toNat (64 : Nat)) (1 : Int)))) = getS f x y ∧ True)) = vc15 f x y := by kernel_rfl
theorem vc27_eq (f : Fr) (x y : Int) : (True ∧ True ∧ True ∧ ((True ∧ True) ∧ True) ∧ True ∧ ((!isD x y) = true → True ∧ True ∧ (0 : Int) = getS f x y ∧ True) ∧ ((!isD x y) = false → ((0 : Int) ≤ y ∧ y < (16 : Int)) ∧ y.toNat < (16 : Nat) ∧ (0 : Int) ≤ IntKind.u64.wrap x ∧ ((0 : Int) ≤ y ∧ y < (16 : Int)) ∧ y.toNat < (16 : Nat) ∧ (0 : Int) ≤ IntKind.u64.wrap x ∧ IsT true ∧ True ∧ IntKind.i64.wrap (IntKind.i64.wrap (bits BinOp.and IntKind.u64 (f.low.getD y.toNat (0 : Int) / (2 : Int) ^ min (IntKind.u64.wrap x).toNat (64 : Nat)) (1 : Int)) + IntKind.i64.wrap ((2 : Int) * IntKind.i64.wrap (bits BinOp.and IntKind.u64 (f.high.getD y.toNat (0 : Int) / (2 : Int) ^ min (IntKind.u64.wrap x).toNat (64 : Nat)) (1 : Int)))) = getS f x y ∧ True)) = vc27 f x y := by kernel_rfl
theorem vc14_eq (f : Fr) (x y n : Int) : (True ∧ True ∧ True ∧ ((True ∧ True) ∧ True) ∧ True ∧ (isD x y = true → True ∧ True ∧ True ∧ ((True ∧ True ∧ True) ∧ True) ∧ True ∧ ((0 : Int) ≤ y ∧ y < (16 : Int)) ∧ y.toNat < (16 : Nat) ∧ (0 : Int) ≤ x ∧ (0 : Int) ≤ x ∧ ((0 : Int) ≤ y ∧ y < (16 : Int)) ∧ y.toNat < (16 : Nat) ∧ IsT true ∧ ((0 : Int) ≤ y ∧ y < (16 : Int)) ∧ y.toNat < (16 : Nat) ∧ (0 : Int) ≤ x ∧ (0 : Int) ≤ (1 : Int) ∧ (0 : Int) ≤ x ∧ ((0 : Int) ≤ y ∧ y < (16 : Int)) ∧ y.toNat < (16 : Nat) ∧ IsT true ∧ (∀ (i : Nat), i < (16 : Nat) → true = true) ∧ (∀ (i : Nat), i < (16 : Nat) → true = true) ∧ True ∧ ((∀ (i : Nat), i < (16 : Nat) → true = true) ∧ (∀ (i : Nat), i < (16 : Nat) → true = true) ∧ True) ∧ (((16 : Nat) = (16 : Nat) ∧ (0 : Nat) + (1 : Nat) = (1 : Nat) ∧ ∀ (i : Nat), i < (16 : Nat) → (if decide (i = y.toNat) = true then bits BinOp.or IntKind.u64 (bits BinOp.andNot IntKind.u64 (f.low.getD y.toNat (0 : Int)) (IntKind.u64.wrap ((1 : Int) * (2 : Int) ^ min x.toNat (64 : Nat)))) (IntKind.u64.wrap (bits BinOp.and IntKind.u64 (IntKind.u64.wrap (clp n (0 : Int) (3 : Int))) (1 : Int) * (2 : Int) ^ min x.toNat (64 : Nat))) else f.low.getD i (0 : Int)) = (setS f x y n).low.getD i (0 : Int) ∧ True) ∧ ((16 : Nat) = (16 : Nat) ∧ (0 : Nat) + (1 : Nat) = (1 : Nat) ∧ ∀ (i : Nat), i < (16 : Nat) → (if decide (i = y.toNat) = true then bits BinOp.or IntKind.u64 (bits BinOp.andNot IntKind.u64 (f.high.getD y.toNat (0 : Int)) (IntKind.u64.wrap ((1 : Int) * (2 : Int) ^ min x.toNat (64 : Nat)))) (IntKind.u64.wrap (IntKind.u64.wrap (clp n (0 : Int) (3 : Int)) / (2 : Int) ^ min (1 : Nat) (64 : Nat) * (2 : Int) ^ min x.toNat (64 : Nat))) else f.high.getD i (0 : Int)) = (setS f x y n).high.getD i (0 : Int) ∧ True) ∧ True) ∧ True) ∧ (isD x y = false → (∀ (i : Nat), i < (16 : Nat) → true = true) ∧ (∀ (i : Nat), i < (16 : Nat) → true = true) ∧ True ∧ ((∀ (i : Nat), i < (16 : Nat) → true = true) ∧ (∀ (i : Nat), i < (16 : Nat) → true = true) ∧ True) ∧ (((16 : Nat) = (16 : Nat) ∧ (0 : Nat) + (1 : Nat) = (1 : Nat) ∧ ∀ (i : Nat), i < (16 : Nat) → f.low.getD i (0 : Int) = (setS f x y n).low.getD i (0 : Int) ∧ True) ∧ ((16 : Nat) = (16 : Nat) ∧ (0 : Nat) + (1 : Nat) = (1 : Nat) ∧ ∀ (i : Nat), i < (16 : Nat) → f.high.getD i (0 : Int) = (setS f x y n).high.getD i (0 : Int) ∧ True) ∧ True) ∧ True)) = vc14 f x y n := by kernel_rfl
theorem vc28_eq (f : Fr) (x y n : Int) : (True ∧ True ∧ True ∧ ((True ∧ True) ∧ True) ∧ True ∧ ((!isD x y) = true → (∀ (i : Nat), i < (16 : Nat) → true = true) ∧ (∀ (i : Nat), i < (16 : Nat) → true = true) ∧ True ∧ ((∀ (i : Nat), i < (16 : Nat) → true = true) ∧ (∀ (i : Nat), i < (16 : Nat) → true = true) ∧ True) ∧ (((16 : Nat) = (16 : Nat) ∧ (0 : Nat) + (1 : Nat) = (1 : Nat) ∧ ∀ (i : Nat), i < (16 : Nat) → f.low.getD i (0 : Int) = (setS f x y n).low.getD i (0 : Int) ∧ True) ∧ ((16 : Nat) = (16 : Nat) ∧ (0 : Nat) + (1 : Nat) = (1 : Nat) ∧ ∀ (i : Nat), i < (16 : Nat) → f.high.getD i (0 : Int) = (setS f x y n).high.getD i (0 : Int) ∧ True) ∧ True) ∧ True) ∧ ((!isD x y) = false → (0 : Int) ≤ IntKind.u64.wrap x ∧ True ∧ ((0 : Int) ≤ y ∧ y < (16 : Int)) ∧ y.toNat < (16 : Nat) ∧ ((0 : Int) ≤ y ∧ y < (16 : Int)) ∧ y.toNat < (16 : Nat) ∧ ((0 : Int) ≤ y ∧ y < (16 : Int)) ∧ y.toNat < (16 : Nat) ∧ ((0 : Int) ≤ y ∧ y < (16 : Int)) ∧ y.toNat < (16 : Nat) ∧ IsT true ∧ True ∧ (True ∧ True) ∧ (2 : Int) ≠ (0 : Int) ∧ True ∧ (((lvS n).tmod (2 : Int) == (1 : Int)) = true → ((0 : Int) ≤ y ∧ y < (16 : Int)) ∧ y.toNat < (16 : Nat) ∧ ((0 : Int) ≤ y ∧ y < (16 : Int)) ∧ y.toNat < (16 : Nat) ∧ True ∧ True ∧ (True ∧ True) ∧ True ∧ (decide (lvS n ≥ (2 : Int)) = true → ((0 : Int) ≤ y ∧ y < (16 : Int)) ∧ y.toNat < (16 : Nat) ∧ ((0 : Int) ≤ y ∧ y < (16 : Int)) ∧ y.toNat < (16 : Nat) ∧ True ∧ (∀ (i : Nat), i < (16 : Nat) → true = true) ∧ (∀ (i : Nat), i < (16 : Nat) → true = true) ∧ True ∧ ((∀ (i : Nat), i < (16 : Nat) → true = true) ∧ (∀ (i : Nat), i < (16 : Nat) → true = true) ∧ True) ∧ (((16 : Nat) = (16 : Nat) ∧ (0 : Nat) + (1 : Nat) = (1 : Nat) ∧ ∀ (i : Nat), i < (16 : Nat) → (if decide (i = y.toNat) = true then bits BinOp.or IntKind.u64 (if decide (y.toNat = y.toNat) = true then bits BinOp.andNot IntKind.u64 (f.low.getD y.toNat (0 : Int)) (IntKind.u64.wrap ((1 : Int) * (2 : Int) ^ min (IntKind.u64.wrap x).toNat (64 : Nat))) else f.low.getD y.toNat (0 : Int)) (IntKind.u64.wrap ((1 : Int) * (2 : Int) ^ min (IntKind.u64.wrap x).toNat (64 : Nat))) else if decide (i = y.toNat) = true then bits BinOp.andNot IntKind.u64 (f.low.getD y.toNat (0 : Int)) (IntKind.u64.wrap ((1 : Int) * (2 : Int) ^ min (IntKind.u64.wrap x).toNat (64 : Nat))) else f.low.getD i (0 : Int)) = (setS f x y n).low.getD i (0 : Int) ∧ True) ∧ ((16 : Nat) = (16 : Nat) ∧ (0 : Nat) + (1 : Nat) = (1 : Nat) ∧ ∀ (i : Nat), i < (16 : Nat) → (if decide (i = y.toNat) = true then bits BinOp.or IntKind.u64 (if decide (y.toNat = y.toNat) = true then bits BinOp.andNot IntKind.u64 (f.high.getD y.toNat (0 : Int)) (IntKind.u64.wrap ((1 : Int) * (2 : Int) ^ min (IntKind.u64.wrap x).toNat (64 : Nat))) else f.high.getD y.toNat (0 : Int)) (IntKind.u64.wrap ((1 : Int) * (2 : Int) ^ min (IntKind.u64.wrap x).toNat (64 : Nat))) else if decide (i = y.toNat) = true then bits BinOp.andNot IntKind.u64 (f.high.getD y.toNat (0 : Int)) (IntKind.u64.wrap ((1 : Int) * (2 : Int) ^ min (IntKind.u64.wrap x).toNat (64 : Nat))) else f.high.getD i (0 : Int)) = (setS f x y n).high.getD i (0 : Int) ∧ True) ∧ True) ∧ True) ∧ (decide (lvS n ≥ (2 : Int)) = false → (∀ (i : Nat), i < (16 : Nat) → true = true) ∧ (∀ (i : Nat), i < (16 : Nat) → true = true) ∧ True ∧ ((∀ (i : Nat), i < (16 : Nat) → true = true) ∧ (∀ (i : Nat), i < (16 : Nat) → true = true) ∧ True) ∧ (((16 : Nat) = (16 : Nat) ∧ (0 : Nat) + (1 : Nat) = (1 : Nat) ∧ ∀ (i : Nat), i < (16 : Nat) → (if decide (i = y.toNat) = true then bits BinOp.or IntKind.u64 (if decide (y.toNat = y.toNat) = true then bits BinOp.andNot IntKind.u64 (f.low.getD y.toNat (0 : Int)) (IntKind.u64.wrap ((1 : Int) * (2 : Int) ^ min (IntKind.u64.wrap x).toNat (64 : Nat))) else f.low.getD y.toNat (0 : Int)) (IntKind.u64.wrap ((1 : Int) * (2 : Int) ^ min (IntKind.u64.wrap x).toNat (64 : Nat))) else if decide (i = y.toNat) = true then bits BinOp.andNot IntKind.u64 (f.low.getD y.toNat (0 : Int)) (IntKind.u64.wrap ((1 : Int) * (2 : Int) ^ min (IntKind.u64.wrap x).toNat (64 : Nat))) else f.low.getD i (0 : Int)) = (setS f x y n).low.getD i (0 : Int) ∧ True) ∧ ((16 : Nat) = (16 : Nat) ∧ (0 : Nat) + (1 : Nat) = (1 : Nat) ∧ ∀ (i : Nat), i < (16 : Nat) → (if decide (i = y.toNat) = true then bits BinOp.andNot IntKind.u64 (f.high.getD y.toNat (0 : Int)) (IntKind.u64.wrap ((1 : Int) * (2 : Int) ^ min (IntKind.u64.wrap x).toNat (64 : Nat))) else f.high.getD i (0 : Int)) = (setS f x y n).high.getD i (0 : Int) ∧ True) ∧ True) ∧ True)) ∧ (((lvS n).tmod (2 : Int) == (1 : Int)) = false → True ∧ (True ∧ True) ∧ True ∧ (decide (lvS n ≥ (2 : Int)) = true → ((0 : Int) ≤ y ∧ y < (16 : Int)) ∧ y.toNat < (16 : Nat) ∧ ((0 : Int) ≤ y ∧ y < (16 : Int)) ∧ y.toNat < (16 : Nat) ∧ True ∧ (∀ (i : Nat), i < (16 : Nat) → true = true) ∧ (∀ (i : Nat), i < (16 : Nat) → true = true) ∧ True ∧ ((∀ (i : Nat), i < (16 : Nat) → true = true) ∧ (∀ (i : Nat), i < (16 : Nat) → true = true) ∧ True) ∧ (((16 : Nat) = (16 : Nat) ∧ (0 : Nat) + (1 : Nat) = (1 : Nat) ∧ ∀ (i : Nat), i < (16 : Nat) → (if decide (i = y.toNat) = true then bits BinOp.andNot IntKind.u64 (f.low.getD y.toNat (0 : Int)) (IntKind.u64.wrap ((1 : Int) * (2 : Int) ^ min (IntKind.u64.wrap x).toNat (64 : Nat))) else f.low.getD i (0 : Int)) = (setS f x y n).low.getD i (0 : Int) ∧ True) ∧ ((16 : Nat) = (16 : Nat) ∧ (0 : Nat) + (1 : Nat) = (1 : Nat) ∧ ∀ (i : Nat), i < (16 : Nat) → (if decide (i = y.toNat) = true then bits BinOp.or IntKind.u64 (if decide (y.toNat = y.toNat) = true then bits BinOp.andNot IntKind.u64 (f.high.getD y.toNat (0 : Int)) (IntKind.u64.wrap ((1 : Int) * (2 : Int) ^ min (IntKind.u64.wrap x).toNat (64 : Nat))) else f.high.getD y.toNat (0 : Int)) (IntKind.u64.wrap ((1 : Int) * (2 : Int) ^ min (IntKind.u64.wrap x).toNat (64 : Nat))) else if decide (i = y.toNat) = true then bits BinOp.andNot IntKind.u64 (f.high.getD y.toNat (0 : Int)) (IntKind.u64.wrap ((1 : Int) * (2 : Int) ^ min (IntKind.u64.wrap x).toNat (64 : Nat))) else f.high.getD i (0 : Int)) = (setS f x y n).high.getD i (0 : Int) ∧ True) ∧ True) ∧ True) ∧ (decide (lvS n ≥ (2 : Int)) = false → (∀ (i : Nat), i < (16 : Nat) → true = true) ∧ (∀ (i : Nat), i < (16 : Nat) → true = true) ∧ True ∧ ((∀ (i : Nat), i < (16 : Nat) → true = true) ∧ (∀ (i : Nat), i < (16 : Nat) → true = true) ∧ True) ∧ (((16 : Nat) = (16 : Nat) ∧ (0 : Nat) + (1 : Nat) = (1 : Nat) ∧ ∀ (i : Nat), i < (16 : Nat) → (if decide (i = y.toNat) = true then bits BinOp.andNot IntKind.u64 (f.low.getD y.toNat (0 : Int)) (IntKind.u64.wrap ((1 : Int) * (2 : Int) ^ min (IntKind.u64.wrap x).toNat (64 : Nat))) else f.low.getD i (0 : Int)) = (setS f x y n).low.getD i (0 : Int) ∧ True) ∧ ((16 : Nat) = (16 : Nat) ∧ (0 : Nat) + (1 : Nat) = (1 : Nat) ∧ ∀ (i : Nat), i < (16 : Nat) → (if decide (i = y.toNat) = true then bits BinOp.andNot IntKind.u64 (f.high.getD y.toNat (0 : Int)) (IntKind.u64.wrap ((1 : Int) * (2 : Int) ^ min (IntKind.u64.wrap x).toNat (64 : Nat))) else f.high.getD i (0 : Int)) = (setS f x y n).high.getD i (0 : Int) ∧ True) ∧ True) ∧ True)))) = vc28 f x y n := by kernel_rfl
theorem W_id {n : Int} (h1 : -9223372036854775808 ≤ n) (h2 : n < 9223372036854775808) : W n = n := by
  unfold W
  simp [IntKind.wrap, IntKind.bits, IntKind.signed]; omega
theorem W_def (n : Int) : IntKind.i64.wrap n = W n := by unfold W; rfl
theorem k37 : TabOK Try.prog T37 := fn_tabA (T := []) trivial hm Try.func37 (by kernel_rfl) (by kernel_rfl) sII.ok (by kernel_rfl) (fun _ => []) fun a hp => by
  have h : vc37 a.1 a.2 := by
    rw [← vc37_eq]
    simp [isD]
    refine ⟨fun h1 => ⟨fun h2 => ⟨fun h3 => by simp [h1, h2, h3], fun h3 => by omega⟩, fun h2 => by omega⟩, fun h1 => by omega⟩
  exact h
theorem k45 : TabOK Try.prog T45 := fn_tabA k37 hm Try.func45 (by kernel_rfl) (by kernel_rfl) sII.ok (by kernel_rfl) (fun _ => []) fun a hp => by
  have h : vc45 a.1 a.2 := by
    rw [← vc45_eq]
    simp [isD]
    refine ⟨fun h1 => ⟨fun h2 => ⟨fun h3 => by simp [h1, h2, h3], fun h3 => by omega⟩, fun h2 => by omega⟩, fun h1 => by omega⟩
  exact h
theorem k38 : TabOK Try.prog T38 := fn_tabA k45 hm Try.func38 (by kernel_rfl) (by kernel_rfl) sIII.ok (by kernel_rfl) (fun _ => []) fun a hp => by
  have h : vc38 a.1 a.2.1 a.2.2 := by
    rw [← vc38_eq]
    simp [clp]
    omega
  exact h
theorem k46 : TabOK Try.prog T46 := fn_tabA k38 hm Try.func46 (by kernel_rfl) (by kernel_rfl) sI.ok (by kernel_rfl) (fun _ => []) fun a hp => by
  have h : vc46 a := by
    rw [← vc46_eq]
    simp [lvS]
    omega
  exact h
theorem isD_iff {x y : Int} : isD x y = true ↔ 0 ≤ x ∧ x < 64 ∧ 0 ≤ y ∧ y < 16 := by simp only [isD, decide_eq_true_eq]
theorem b64 : IntKind.u64.bits = 64 := rfl
theorem lb_def (f : Fr) (y x : Nat) : bit (f.low.getD y 0) x = lb f y x := by simp only [lb]
theorem hb_def (f : Fr) (y x : Nat) : bit (f.high.getD y 0) x = hb f y x := by simp only [hb]
theorem ok_low {f : Fr} (h : okF f) {y : Nat} (hy : y < 16) : isU (f.low.getD y 0) := by unfold okF at h; exact h.2.2.1 y hy
theorem ok_high {f : Fr} (h : okF f) {y : Nat} (hy : y < 16) : isU (f.high.getD y 0) := by unfold okF at h; exact h.2.2.2 y hy
theorem lb_mkL {L : Nat → Nat → Int} {y x : Nat} (hy : y < 16) (hx : x < 64) : lb (mkL L) y x = decide (L y x = 1 ∨ L y x = 3) := by
  unfold mkL; exact lb_mkF hy hx
theorem hb_mkL {L : Nat → Nat → Int} {y x : Nat} (hy : y < 16) (hx : x < 64) : hb (mkL L) y x = decide (2 ≤ L y x) := by
  unfold mkL; exact hb_mkF hy hx
theorem low_eq {L : Nat → Nat → Int} {i : Nat} {v : Int} (hi : i < 16) (hv : isU v) (h : ∀ j, j < 64 → bit v j = decide (L i j = 1 ∨ L i j = 3)) : v = (mkL L).low.getD i 0 :=
  bit_ext hv (ok_low (mkL_ok L) hi) fun j hj => by rw [lb_def, lb_mkL hi hj, h j hj]
theorem high_eq {L : Nat → Nat → Int} {i : Nat} {v : Int} (hi : i < 16) (hv : isU v) (h : ∀ j, j < 64 → bit v j = decide (2 ≤ L i j)) : v = (mkL L).high.getD i 0 :=
  bit_ext hv (ok_high (mkL_ok L) hi) fun j hj => by rw [hb_def, hb_mkL hi hj, h j hj]
theorem lvS_cases (n : Int) : lvS n = 0 ∨ lvS n = 1 ∨ lvS n = 2 ∨ lvS n = 3 := by simp only [lvS]; omega
theorem get_core {f : Fr} (h : okF f) {x y : Int} (hd : isD x y = true) : W (IntKind.u64.wrap (bits BinOp.and IntKind.u64 (f.low.getD y.toNat 0 / 2 ^ min x.toNat 64) 1 + IntKind.u64.wrap (2 * bits BinOp.and IntKind.u64 (f.high.getD y.toNat 0 / 2 ^ min x.toNat 64) 1))) = getS f x y := by
  obtain ⟨x0, x1, y0, y1⟩ := isD_iff.1 hd
  have hy : y.toNat < 16 := by omega
  have hx : x.toNat < 64 := by omega
  rw [Nat.min_eq_left (by omega), get_bit (ok_low h hy) hx, get_bit (ok_high h hy) hx, lb_def, hb_def]
  simp only [getS, hd, if_true, lv]
  cases lb f y.toNat x.toNat <;> cases hb f y.toNat x.toNat <;> (unfold W; rfl)
theorem k15 : TabOK Try.prog T15 := fn_tabA k46 hm Try.func15 (by kernel_rfl) (by kernel_rfl) sFII.ok (by kernel_rfl) (fun _ => []) fun a hp => by
  have h : vc15 a.1 a.2.1 a.2.2 := by
    rw [← vc15_eq]
    obtain ⟨f, x, y⟩ := a
    dsimp only at hp
    simp [-List.getD_eq_getElem?_getD, W_def]
    refine ⟨fun hd => by simp [getS, hd], fun hd => ?_⟩
    obtain ⟨x0, x1, y0, y1⟩ := isD_iff.1 hd
    exact ⟨⟨y0, y1⟩, y1, x0, ⟨y0, y1⟩, y1, x0, get_core hp hd⟩
  exact h
theorem k27 : TabOK Try.prog T27 := fn_tabA k15 hm Try.func27 (by kernel_rfl) (by kernel_rfl) sFII.ok (by kernel_rfl) (fun _ => []) fun a hp => by
  have h : vc27 a.1 a.2.1 a.2.2 := by
    rw [← vc27_eq]
    obtain ⟨f, x, y⟩ := a
    dsimp only at hp
    simp [-List.getD_eq_getElem?_getD, W_def]
    refine ⟨fun hd => by simp [getS, hd], fun hd => ?_⟩
    obtain ⟨x0, x1, y0, y1⟩ := isD_iff.1 hd
    have hy : y.toNat < 16 := by omega
    have hx : x.toNat < 64 := by omega
    have e1 : IntKind.u64.wrap x = x := wrap_u64 ⟨by omega, by omega⟩
    rw [e1, Nat.min_eq_left (by omega), get_bit (ok_low hp hy) hx, get_bit (ok_high hp hy) hx, lb_def, hb_def]
    refine ⟨⟨y0, y1⟩, y1, x0, ⟨y0, y1⟩, y1, x0, ?_⟩
    simp only [getS, hd, if_true, lv]
    cases lb f y.toNat x.toNat <;> cases hb f y.toNat x.toNat <;> (unfold W; rfl)
  exact h
theorem unit_bit {x j : Nat} (hj : j < 64) : bit (IntKind.u64.wrap (2 ^ x)) j = decide (x = j) := by
  have := bit_unit (i := x) hj
  rwa [Int.one_mul] at this
theorem setL_at {f : Fr} {x y : Nat} {n : Int} {b a : Nat} : setL' f x y n b a = if a = x ∧ b = y then lvS n else lv f b a := by simp only [setL']
theorem set_low {f : Fr} (h : okF f) {x y i : Nat} {n v : Int} (hi : i < 16) (hx : x < 64) (hv : isU v) (h1 : i = y → ∀ j, j < 64 → bit v j = if x = j then decide (lvS n = 1 ∨ lvS n = 3) else lb f i j) (h2 : i ≠ y → v = f.low.getD i 0) : v = (mkL (setL' f x y n)).low.getD i 0 := by
  refine low_eq hi hv fun j hj => ?_
  rw [setL_at]
  by_cases e : i = y
  · rw [h1 e j hj]
    by_cases e2 : x = j
    · simp [e, e2]
    · rw [if_neg e2, if_neg (by omega), lb_lv]
  · rw [h2 e, if_neg (by omega), lb_def, lb_lv]
theorem set_high {f : Fr} (h : okF f) {x y i : Nat} {n v : Int} (hi : i < 16) (hx : x < 64) (hv : isU v) (h1 : i = y → ∀ j, j < 64 → bit v j = if x = j then decide (2 ≤ lvS n) else hb f i j) (h2 : i ≠ y → v = f.high.getD i 0) : v = (mkL (setL' f x y n)).high.getD i 0 := by
  refine high_eq hi hv fun j hj => ?_
  rw [setL_at]
  by_cases e : i = y
  · rw [h1 e j hj]
    by_cases e2 : x = j
    · simp [e, e2]
    · rw [if_neg e2, if_neg (by omega), hb_lv]
  · rw [h2 e, if_neg (by omega), hb_def, hb_lv]
theorem ite_isU {c : Prop} [Decidable c] {a b : Int} (ha : isU a) (hb : isU b) : isU (if c then a else b) := by split <;> assumption
theorem clp_lv (n : Int) : clp n 0 3 = lvS n := by simp only [clp, lvS]
theorem k14 : TabOK Try.prog T14 := fn_tabA k27 hm Try.func14 (by kernel_rfl) (by kernel_rfl) sFIII.ok (by kernel_rfl) (fun _ => []) fun a hp => by
  have h : vc14 a.1 a.2.1 a.2.2.1 a.2.2.2 := by
    rw [← vc14_eq]
    obtain ⟨f, x, y, n⟩ := a
    dsimp only at hp
    simp [-List.getD_eq_getElem?_getD, W_def, clp_lv]
    refine ⟨fun hd => ?_, fun hd => ?_⟩
    · obtain ⟨x0, x1, y0, y1⟩ := isD_iff.1 hd
      have hy : y.toNat < 16 := by omega
      have hx : x.toNat < 64 := by omega
      have e0 : setS f x y n = mkL (setL' f x.toNat y.toNat n) := by simp [setS, hd]
      have e1 : IntKind.u64.wrap (lvS n) = lvS n := by rcases lvS_cases n with e | e | e | e <;> rw [e] <;> rfl
      have e2 : isU (lvS n / 2) := by rcases lvS_cases n with e | e | e | e <;> rw [e] <;> exact ⟨by decide, by decide⟩
      have b0 : ∀ k, bit (bits .and .u64 (lvS n) 1) k = (decide (k = 0) && decide (lvS n = 1 ∨ lvS n = 3)) := fun k => by
        rw [bit_and, bit_one]
        by_cases e : k = 0
        · subst e; rcases lvS_cases n with e | e | e | e <;> rw [e] <;> decide
        · simp [e]
      have b1 : ∀ k, bit (lvS n / 2) k = (decide (k = 0) && decide (2 ≤ lvS n)) := fun k => by
        rcases lvS_cases n with e | e | e | e <;> rw [e]
        · simpa using bit_zero k
        · simpa using bit_zero k
        · simpa using bit_one k
        · simpa using bit_one k
      rw [Nat.min_eq_left (by omega), e0, e1]
      refine ⟨⟨y0, y1⟩, y1, x0, ⟨y0, y1⟩, y1, ⟨y0, y1⟩, y1, x0, ⟨y0, y1⟩, y1, fun i hi => ?_, fun i hi => ?_⟩
      · refine set_low hp hi hx (ite_isU (bits_isU _ _ _) (ok_low hp hi)) (fun e j hj => ?_) fun e => by rw [if_neg e]
        rw [if_pos e, bit_or, bit_andNot _ _ hj, unit_bit hj, bit_shl (bits_isU _ _ _) _ hj, b0, lb_def, e]
        by_cases e3 : x.toNat = j
        · simp [e3]
        · by_cases e4 : x.toNat ≤ j
          · have : ¬ j - x.toNat = 0 := by omega
            simp [e3, e4, this]
          · simp [e3, e4]
      · refine set_high hp hi hx (ite_isU (bits_isU _ _ _) (ok_high hp hi)) (fun e j hj => ?_) fun e => by rw [if_neg e]
        rw [if_pos e, bit_or, bit_andNot _ _ hj, unit_bit hj, bit_shl e2 _ hj, b1, hb_def, e]
        by_cases e3 : x.toNat = j
        · simp [e3]
        · by_cases e4 : x.toNat ≤ j
          · have : ¬ j - x.toNat = 0 := by omega
            simp [e3, e4, this]
          · simp [e3, e4]
    · simp [setS, hd]
  exact h
theorem k28 : TabOK Try.prog T28 := fn_tabA k14 hm Try.func28 (by kernel_rfl) (by kernel_rfl) sFIII.ok (by kernel_rfl) (fun _ => []) fun a hp => by
  have h : vc28 a.1 a.2.1 a.2.2.1 a.2.2.2 := by
    rw [← vc28_eq]
    obtain ⟨f, x, y, n⟩ := a
    dsimp only at hp
    simp [-List.getD_eq_getElem?_getD, W_def]
    refine ⟨fun hd => by simp [setS, hd], fun hd => ?_⟩
    obtain ⟨x0, x1, y0, y1⟩ := isD_iff.1 hd
    have hy : y.toNat < 16 := by omega
    have hx : x.toNat < 64 := by omega
    have e0 : setS f x y n = mkL (setL' f x.toNat y.toNat n) := by simp [setS, hd]
    have ex : IntKind.u64.wrap x = x := wrap_u64 ⟨by omega, by omega⟩
    rw [ex, Nat.min_eq_left (by omega), e0]
    have Y : 0 ≤ y ∧ y < 16 := ⟨y0, y1⟩
    have hl1 : lvS n = 1 ∨ lvS n = 3 → ∀ i, i < 16 → (if i = y.toNat then bits BinOp.or IntKind.u64 (bits BinOp.andNot IntKind.u64 (f.low.getD y.toNat 0) (IntKind.u64.wrap (2 ^ x.toNat))) (IntKind.u64.wrap (2 ^ x.toNat)) else if i = y.toNat then bits BinOp.andNot IntKind.u64 (f.low.getD y.toNat 0) (IntKind.u64.wrap (2 ^ x.toNat)) else f.low.getD i 0) = (mkL (setL' f x.toNat y.toNat n)).low.getD i 0 := fun hv i hi => by
      refine set_low hp hi hx (ite_isU (bits_isU _ _ _) (ite_isU (bits_isU _ _ _) (ok_low hp hi))) (fun e j hj => ?_) fun e => by rw [if_neg e, if_neg e]
      rw [if_pos e, bit_or, bit_andNot _ _ hj, unit_bit hj, lb_def, e]
      by_cases e3 : x.toNat = j <;> simp [e3, hv]
    have hl0 : ¬ (lvS n = 1 ∨ lvS n = 3) → ∀ i, i < 16 → (if i = y.toNat then bits BinOp.andNot IntKind.u64 (f.low.getD y.toNat 0) (IntKind.u64.wrap (2 ^ x.toNat)) else f.low.getD i 0) = (mkL (setL' f x.toNat y.toNat n)).low.getD i 0 := fun hv i hi => by
      refine set_low hp hi hx (ite_isU (bits_isU _ _ _) (ok_low hp hi)) (fun e j hj => ?_) fun e => by rw [if_neg e]
      rw [if_pos e, bit_andNot _ _ hj, unit_bit hj, lb_def, e]
      by_cases e3 : x.toNat = j <;> simp [e3, hv]
    have hh1 : 2 ≤ lvS n → ∀ i, i < 16 → (if i = y.toNat then bits BinOp.or IntKind.u64 (bits BinOp.andNot IntKind.u64 (f.high.getD y.toNat 0) (IntKind.u64.wrap (2 ^ x.toNat))) (IntKind.u64.wrap (2 ^ x.toNat)) else if i = y.toNat then bits BinOp.andNot IntKind.u64 (f.high.getD y.toNat 0) (IntKind.u64.wrap (2 ^ x.toNat)) else f.high.getD i 0) = (mkL (setL' f x.toNat y.toNat n)).high.getD i 0 := fun hv i hi => by
      refine set_high hp hi hx (ite_isU (bits_isU _ _ _) (ite_isU (bits_isU _ _ _) (ok_high hp hi))) (fun e j hj => ?_) fun e => by rw [if_neg e, if_neg e]
      rw [if_pos e, bit_or, bit_andNot _ _ hj, unit_bit hj, hb_def, e]
      by_cases e3 : x.toNat = j <;> simp [e3, hv]
    have hh0 : ¬ 2 ≤ lvS n → ∀ i, i < 16 → (if i = y.toNat then bits BinOp.andNot IntKind.u64 (f.high.getD y.toNat 0) (IntKind.u64.wrap (2 ^ x.toNat)) else f.high.getD i 0) = (mkL (setL' f x.toNat y.toNat n)).high.getD i 0 := fun hv i hi => by
      refine set_high hp hi hx (ite_isU (bits_isU _ _ _) (ok_high hp hi)) (fun e j hj => ?_) fun e => by rw [if_neg e]
      rw [if_pos e, bit_andNot _ _ hj, unit_bit hj, hb_def, e]
      by_cases e3 : x.toNat = j <;> simp [e3, hv]
    have hodd : (lvS n).tmod 2 = 1 ↔ (lvS n = 1 ∨ lvS n = 3) := by rcases lvS_cases n with e | e | e | e <;> rw [e] <;> decide
    rw [hodd]
    simp only [x0, Y, y1, true_and, and_self]
    refine ⟨fun h1 => ⟨fun h2 => ⟨hl1 h1, hh1 h2⟩, fun h2 => ⟨hl1 h1, hh0 (by omega)⟩⟩, fun h1 => ⟨fun h2 => ⟨hl0 h1, hh1 h2⟩, fun h2 => ⟨hl0 h1, hh0 (by omega)⟩⟩⟩
  exact h
end Go.Proofs.Do
