import Derived.Test.YtjmjndfdociiiaaDoE
namespace Go.Proofs.Do
set_option linter.unusedVariables false
set_option linter.unusedSimpArgs false
open Go Go.Sx Go.Proofs
set_option maxRecDepth 100000
-- SAME: sm
-- ABBR: (∀ (i : Nat), i < (16 : Nat) → true = true) ==> t16
-- ABBR: IntKind.i64.wrap ==> W
-- ROWS: rowL (codI IntKind.u64) (16 : Nat) fun j => [SV.int IntKind.u64 ( ==> .getD j (0 : Int) ==> rr
def sS := Sig.one argS
def sUI8 := Sig.cons (argI .u8) (Sig.one (argI .i64))
def sUI8I := Sig.cons (argI .u8) sII
def widthS (s : List UInt8) : Int := max (6 * (s.length : Int) - 1) 0
-- BYTES: fontL 413
def bytesOfOp (o : Oper) : Option (List UInt8) := match o.op with
  | .index _ (.const (.string b)) _ => some b.data.toList
  | _ => none
def bytesIn : Code → Option (List UInt8)
  | .region _ ops _ => ops.toList.findSome? bytesOfOp
  | .seq a b => match bytesIn a with
    | some x => some x
    | none => bytesIn b
  | _ => none
/-- The font, as the code has it. -/
noncomputable def fontL : List UInt8 := ((bytesIn (codeOf Try.f39)).getD [])
noncomputable def fontAt (i : Int) : Int := (fontL.getD i.toNat 0).toNat
/-- The character that is drawn for a byte. -/
def chS (c : Int) : Int := let d := if 97 ≤ c ∧ c ≤ 122 then c - 32 else c; if d < 32 ∨ 90 < d then 63 else d
noncomputable def glS (c r : Int) : Int := fontAt (7 * (chS c - 32) + r)
attribute [irreducible] widthS glS fontL
def cWid : Ctr := ctr sS.dec (fun a => a.length ≤ 1000000) (fun a => iS (widthS a))
def T19 : List (Nat × Ctr) := (19, cWid) :: T32
def vc19 (s : List UInt8) : Prop := cva T32 Try.f19 [] [.str s] (iS (widthS s))
def T20 : List (Nat × Ctr) := (20, cWid) :: T19
def vc20 (s : List UInt8) : Prop := cva T19 Try.f20 [] [.str s] (iS (widthS s))
noncomputable def T39 : List (Nat × Ctr) := (39, ctr sUI8.dec (fun a => 0 ≤ a.1 ∧ a.1 < 256 ∧ 0 ≤ a.2 ∧ a.2 < 7) (fun a => .int .u8 (glS a.1 a.2))) :: T20
def vc39 (c r : Int) : Prop := cva T20 Try.f39 [] [.int .u8 c, iS r] (.int .u8 (glS c r))
noncomputable def litS (c u v : Int) : Bool := bits .and .u8 (glS c v / 2 ^ (4 - u).toNat) 1 == 1
attribute [irreducible] litS
noncomputable def T40 : List (Nat × Ctr) := (40, ctr sUI8I.dec (fun a => 0 ≤ a.1 ∧ a.1 < 256 ∧ 0 ≤ a.2.1 ∧ a.2.1 < 5 ∧ 0 ≤ a.2.2 ∧ a.2.2 < 7) (fun a => .bool (litS a.1 a.2.1 a.2.2))) :: T39
def vc40 (c u v : Int) : Prop := cva T39 Try.f40 [] [.int .u8 c, iS u, iS v] (.bool (litS c u v))
abbrev X4 := Int × List Int × List Int
noncomputable def inkS (s : List UInt8) (u v : Int) : Bool := decide (0 ≤ v ∧ v < 7 ∧ 0 ≤ u ∧ u < 6 * s.length ∧ u % 6 < 5) && litS ((s.getD (u / 6).toNat 0).toNat : Int) (u % 6) v
noncomputable def textP (P : Int → Int → Bool) (f : Fr) (x y : Int) (s : List UInt8) (n : Int) : Nat → Nat → Int := fun b a => if inkS s ((a : Int) - x) ((b : Int) - y) && P ((a : Int) - x) ((b : Int) - y) then lvS n else lv f b a
noncomputable def textS (f : Fr) (x y : Int) (s : List UInt8) (n : Int) : Fr := if 20000 < s.length ∨ x < -1048576 ∨ 1048576 < x ∨ y < -1048576 ∨ 1048576 < y then f else mkL (textP (fun _ _ => true) f x y s n)
def TxtI (P : Int → Int → Bool) (f : Fr) (x y : Int) (s : List UInt8) (n : Int) (lo hi : List Int) : Prop := (⟨lo, hi⟩ : Fr) = mkL (textP P f x y s n)
attribute [irreducible] inkS textP textS TxtI
def P0 (i : Int) (u _v : Int) : Bool := decide (u / 6 < i)
def P1 (i r : Int) (u v : Int) : Bool := decide (u / 6 < i ∨ (u / 6 = i ∧ v < r))
def P2 (i r c : Int) (u v : Int) : Bool := decide (u / 6 < i ∨ (u / 6 = i ∧ (v < r ∨ (v = r ∧ u % 6 < c))))
def Q1 (i c : Int) (u _v : Int) : Bool := decide (u / 6 < i ∨ (u / 6 = i ∧ u % 6 < c))
def Q2 (i c r : Int) (u v : Int) : Bool := decide (u / 6 < i ∨ (u / 6 = i ∧ (u % 6 < c ∨ (u % 6 = c ∧ v < r))))
noncomputable def A17 (f : Fr) (x y : Int) (s : List UInt8) (n : Int) : List Ann := [⟨.unit, .list [.int .i64 (.tm 11), .arrL (codI .u64) 16 0 0, .arrL (codI .u64) 16 0 1], fun _ (a : X3) => 0 ≤ a.1 ∧ a.1 ≤ s.length ∧ TxtI (P0 a.1) f x y s n a.2.1 a.2.2, fun _ (a : X3) => ((s.length : Int) - a.1).toNat⟩,
  ⟨.int .i64 (.tm 11), .list [.int .i64 (.tm 51), .arrL (codI .u64) 16 0 0, .arrL (codI .u64) 16 0 1], fun (i : Int) (a : X3) => 0 ≤ a.1 ∧ a.1 ≤ 7 ∧ TxtI (P1 i a.1) f x y s n a.2.1 a.2.2, fun _ (a : X3) => (7 - a.1).toNat⟩,
  ⟨.list [.int .i64 (.tm 11), .int .i64 (.tm 51)], .list [.int .i64 (.tm 54), .arrL (codI .u64) 16 0 0, .arrL (codI .u64) 16 0 1], fun (i : Int × Int) (a : X3) => 0 ≤ a.1 ∧ a.1 ≤ 5 ∧ TxtI (P2 i.1 i.2 a.1) f x y s n a.2.1 a.2.2, fun _ (a : X3) => (5 - a.1).toNat⟩]
noncomputable def A18 (f : Fr) (x y : Int) (s : List UInt8) (n : Int) : List Ann := [⟨.unit, .list [.int .i64 (.tm 11), .arrL (codI .u64) 16 0 0, .arrL (codI .u64) 16 0 1], fun _ (a : X3) => 0 ≤ a.1 ∧ a.1 ≤ s.length ∧ TxtI (P0 a.1) f x y s n a.2.1 a.2.2, fun _ (a : X3) => ((s.length : Int) - a.1).toNat⟩,
  ⟨.int .i64 (.tm 11), .list [.int .i64 (.tm 12), .arrL (codI .u64) 16 0 0, .arrL (codI .u64) 16 0 1], fun (i : Int) (a : X3) => 0 ≤ a.1 ∧ a.1 ≤ 5 ∧ TxtI (Q1 i a.1) f x y s n a.2.1 a.2.2, fun _ (a : X3) => (5 - a.1).toNat⟩,
  ⟨.list [.int .i64 (.tm 11), .int .i64 (.tm 12)], .list [.int .i64 (.tm 13), .arrL (codI .u64) 16 0 0, .arrL (codI .u64) 16 0 1], fun (i : Int × Int) (a : X3) => 0 ≤ a.1 ∧ a.1 ≤ 7 ∧ TxtI (Q2 i.1 i.2 a.1) f x y s n a.2.1 a.2.2, fun _ (a : X3) => (7 - a.1).toNat⟩]
def sFIISI := Sig.cons argF (Sig.cons (argI .i64) (Sig.cons (argI .i64) (Sig.cons argS (Sig.one (argI .i64)))))
noncomputable def cText : Ctr := ctr sFIISI.dec (fun a => okF a.1) (fun a => encF (textS a.1 a.2.1 a.2.2.1 a.2.2.2.1 a.2.2.2.2))
noncomputable def T17 : List (Nat × Ctr) := (17, cText) :: T40
noncomputable def vc17 (f : Fr) (x y : Int) (s : List UInt8) (n : Int) : Prop := cva T40 Try.f17 (A17 f x y s n) [encF f, iS x, iS y, .str s, iS n] (encF (textS f x y s n))
noncomputable def T18 : List (Nat × Ctr) := (18, cText) :: T17
noncomputable def vc18 (f : Fr) (x y : Int) (s : List UInt8) (n : Int) : Prop := cva T17 Try.f18 (A18 f x y s n) [encF f, iS x, iS y, .str s, iS n] (encF (textS f x y s n))
theorem vc19_eq (s : List UInt8) : (True ∧ True ∧ True ∧ (if (0 : Int) > W (W ((6 : Int) * ↑s.length) - (1 : Int)) then (0 : Int) else W (W ((6 : Int) * ↑s.length) - (1 : Int))) = widthS s ∧ True) = vc19 s := by kernel_rfl
theorem vc20_eq (s : List UInt8) : (True ∧ True ∧ True ∧ (if W (W ((6 : Int) * ↑s.length) - (1 : Int)) > (0 : Int) then W (W ((6 : Int) * ↑s.length) - (1 : Int)) else (0 : Int)) = widthS s ∧ True) = vc20 s := by kernel_rfl
theorem vc39_eq (c r : Int) : (True ∧ (decide (c ≥ (97 : Int)) = true → True ∧ (decide (c ≤ (122 : Int)) = true → True ∧ (decide (IntKind.u8.wrap (c - (32 : Int)) < (32 : Int)) = true → True ∧
    True ∧ ((0 : Int) ≤ W ((217 : Int) + r) ∧ W ((217 : Int) + r) < (413 : Int)) ∧ True ∧ True ∧ ↑(fontL.toArray.toList.getD (W ((217 : Int) + r)).toNat (0 : UInt8)).toNat
    = glS c r ∧ True) ∧ (decide (IntKind.u8.wrap (c - (32 : Int)) < (32 : Int)) = false → True ∧ (decide (IntKind.u8.wrap (c - (32 : Int)) > (90 : Int)) = true → True
    ∧ ((0 : Int) ≤ W ((217 : Int) + r) ∧ W ((217 : Int) + r) < (413 : Int)) ∧ True ∧ True ∧ ↑(fontL.toArray.toList.getD (W ((217 : Int) + r)).toNat (0 : UInt8)).toNat
    = glS c r ∧ True) ∧ (decide (IntKind.u8.wrap (c - (32 : Int)) > (90 : Int)) = false → ((0 : Int) ≤ W (W ((7 : Int) * W (IntKind.u8.wrap (IntKind.u8.wrap (c - (32
    : Int)) - (32 : Int)))) + r) ∧ W (W ((7 : Int) * W (IntKind.u8.wrap (IntKind.u8.wrap (c - (32 : Int)) - (32 : Int)))) + r) < (413 : Int)) ∧ True ∧ True ∧ ↑(fontL.toArray.toList.getD
    (W (W ((7 : Int) * W (IntKind.u8.wrap (IntKind.u8.wrap (c - (32 : Int)) - (32 : Int)))) + r)).toNat (0 : UInt8)).toNat = glS c r ∧ True))) ∧ (decide (c ≤ (122 :
    Int)) = false → (decide (c < (32 : Int)) = true → True ∧ True ∧ ((0 : Int) ≤ W ((217 : Int) + r) ∧ W ((217 : Int) + r) < (413 : Int)) ∧ True ∧ True ∧ ↑(fontL.toArray.toList.getD
    (W ((217 : Int) + r)).toNat (0 : UInt8)).toNat = glS c r ∧ True) ∧ (decide (c < (32 : Int)) = false → True ∧ (decide (c > (90 : Int)) = true → True ∧ ((0 : Int)
    ≤ W ((217 : Int) + r) ∧ W ((217 : Int) + r) < (413 : Int)) ∧ True ∧ True ∧ ↑(fontL.toArray.toList.getD (W ((217 : Int) + r)).toNat (0 : UInt8)).toNat = glS c r ∧
    True) ∧ (decide (c > (90 : Int)) = false → ((0 : Int) ≤ W (W ((7 : Int) * W (IntKind.u8.wrap (c - (32 : Int)))) + r) ∧ W (W ((7 : Int) * W (IntKind.u8.wrap (c -
    (32 : Int)))) + r) < (413 : Int)) ∧ True ∧ True ∧ ↑(fontL.toArray.toList.getD (W (W ((7 : Int) * W (IntKind.u8.wrap (c - (32 : Int)))) + r)).toNat (0 : UInt8)).toNat
    = glS c r ∧ True)))) ∧ (decide (c ≥ (97 : Int)) = false → True ∧ (decide (c < (32 : Int)) = true → True ∧ True ∧ ((0 : Int) ≤ W ((217 : Int) + r) ∧ W ((217 : Int)
    + r) < (413 : Int)) ∧ True ∧ True ∧ ↑(fontL.toArray.toList.getD (W ((217 : Int) + r)).toNat (0 : UInt8)).toNat = glS c r ∧ True) ∧ (decide (c < (32 : Int)) = false
    → True ∧ (decide (c > (90 : Int)) = true → True ∧ ((0 : Int) ≤ W ((217 : Int) + r) ∧ W ((217 : Int) + r) < (413 : Int)) ∧ True ∧ True ∧ ↑(fontL.toArray.toList.getD
    (W ((217 : Int) + r)).toNat (0 : UInt8)).toNat = glS c r ∧ True) ∧ (decide (c > (90 : Int)) = false → ((0 : Int) ≤ W (W ((7 : Int) * W (IntKind.u8.wrap (c - (32
    : Int)))) + r) ∧ W (W ((7 : Int) * W (IntKind.u8.wrap (c - (32 : Int)))) + r) < (413 : Int)) ∧ True ∧ True ∧ ↑(fontL.toArray.toList.getD (W (W ((7 : Int) * W (IntKind.u8.wrap
    (c - (32 : Int)))) + r)).toNat (0 : UInt8)).toNat = glS c r ∧ True)))) = vc39 c r := by kernel_rfl
theorem vc40_eq (c u v : Int) : (True ∧ (decide (c ≥ (97 : Int)) = true → True ∧ (decide (c ≤ (122 : Int)) = true → True ∧ (decide (IntKind.u8.wrap (c - (32 : Int)) < (32 : Int)) = true → True ∧
    True ∧ ((0 : Int) ≤ W ((217 : Int) + v) ∧ W ((217 : Int) + v) < (413 : Int)) ∧ (0 : Int) ≤ IntKind.u64.wrap (W ((4 : Int) - u)) ∧ True ∧ True ∧ (bits BinOp.and IntKind.u8
    (↑(fontL.toArray.toList.getD (W ((217 : Int) + v)).toNat (0 : UInt8)).toNat / (2 : Int) ^ min (IntKind.u64.wrap (W ((4 : Int) - u))).toNat (8 : Nat)) (1 : Int) ==
    (1 : Int)) = litS c u v ∧ True) ∧ (decide (IntKind.u8.wrap (c - (32 : Int)) < (32 : Int)) = false → True ∧ (decide (IntKind.u8.wrap (c - (32 : Int)) > (90 : Int))
    = true → True ∧ ((0 : Int) ≤ W ((217 : Int) + v) ∧ W ((217 : Int) + v) < (413 : Int)) ∧ (0 : Int) ≤ IntKind.u64.wrap (W ((4 : Int) - u)) ∧ True ∧ True ∧ (bits BinOp.and
    IntKind.u8 (↑(fontL.toArray.toList.getD (W ((217 : Int) + v)).toNat (0 : UInt8)).toNat / (2 : Int) ^ min (IntKind.u64.wrap (W ((4 : Int) - u))).toNat (8 : Nat))
    (1 : Int) == (1 : Int)) = litS c u v ∧ True) ∧ (decide (IntKind.u8.wrap (c - (32 : Int)) > (90 : Int)) = false → ((0 : Int) ≤ W (W ((7 : Int) * W (W (IntKind.u8.wrap
    (c - (32 : Int))) - (32 : Int))) + v) ∧ W (W ((7 : Int) * W (W (IntKind.u8.wrap (c - (32 : Int))) - (32 : Int))) + v) < (413 : Int)) ∧ (0 : Int) ≤ IntKind.u64.wrap
    (W ((4 : Int) - u)) ∧ True ∧ True ∧ (bits BinOp.and IntKind.u8 (↑(fontL.toArray.toList.getD (W (W ((7 : Int) * W (W (IntKind.u8.wrap (c - (32 : Int))) - (32 : Int)))
    + v)).toNat (0 : UInt8)).toNat / (2 : Int) ^ min (IntKind.u64.wrap (W ((4 : Int) - u))).toNat (8 : Nat)) (1 : Int) == (1 : Int)) = litS c u v ∧ True))) ∧ (decide
    (c ≤ (122 : Int)) = false → (decide (c < (32 : Int)) = true → True ∧ True ∧ ((0 : Int) ≤ W ((217 : Int) + v) ∧ W ((217 : Int) + v) < (413 : Int)) ∧ (0 : Int) ≤ IntKind.u64.wrap
    (W ((4 : Int) - u)) ∧ True ∧ True ∧ (bits BinOp.and IntKind.u8 (↑(fontL.toArray.toList.getD (W ((217 : Int) + v)).toNat (0 : UInt8)).toNat / (2 : Int) ^ min (IntKind.u64.wrap
    (W ((4 : Int) - u))).toNat (8 : Nat)) (1 : Int) == (1 : Int)) = litS c u v ∧ True) ∧ (decide (c < (32 : Int)) = false → True ∧ (decide (c > (90 : Int)) = true →
    True ∧ ((0 : Int) ≤ W ((217 : Int) + v) ∧ W ((217 : Int) + v) < (413 : Int)) ∧ (0 : Int) ≤ IntKind.u64.wrap (W ((4 : Int) - u)) ∧ True ∧ True ∧ (bits BinOp.and IntKind.u8
    (↑(fontL.toArray.toList.getD (W ((217 : Int) + v)).toNat (0 : UInt8)).toNat / (2 : Int) ^ min (IntKind.u64.wrap (W ((4 : Int) - u))).toNat (8 : Nat)) (1 : Int) ==
    (1 : Int)) = litS c u v ∧ True) ∧ (decide (c > (90 : Int)) = false → ((0 : Int) ≤ W (W ((7 : Int) * W (W c - (32 : Int))) + v) ∧ W (W ((7 : Int) * W (W c - (32 :
    Int))) + v) < (413 : Int)) ∧ (0 : Int) ≤ IntKind.u64.wrap (W ((4 : Int) - u)) ∧ True ∧ True ∧ (bits BinOp.and IntKind.u8 (↑(fontL.toArray.toList.getD (W (W ((7 :
    Int) * W (W c - (32 : Int))) + v)).toNat (0 : UInt8)).toNat / (2 : Int) ^ min (IntKind.u64.wrap (W ((4 : Int) - u))).toNat (8 : Nat)) (1 : Int) == (1 : Int)) = litS
    c u v ∧ True)))) ∧ (decide (c ≥ (97 : Int)) = false → True ∧ (decide (c < (32 : Int)) = true → True ∧ True ∧ ((0 : Int) ≤ W ((217 : Int) + v) ∧ W ((217 : Int) +
    v) < (413 : Int)) ∧ (0 : Int) ≤ IntKind.u64.wrap (W ((4 : Int) - u)) ∧ True ∧ True ∧ (bits BinOp.and IntKind.u8 (↑(fontL.toArray.toList.getD (W ((217 : Int) + v)).toNat
    (0 : UInt8)).toNat / (2 : Int) ^ min (IntKind.u64.wrap (W ((4 : Int) - u))).toNat (8 : Nat)) (1 : Int) == (1 : Int)) = litS c u v ∧ True) ∧ (decide (c < (32 : Int))
    = false → True ∧ (decide (c > (90 : Int)) = true → True ∧ ((0 : Int) ≤ W ((217 : Int) + v) ∧ W ((217 : Int) + v) < (413 : Int)) ∧ (0 : Int) ≤ IntKind.u64.wrap (W
    ((4 : Int) - u)) ∧ True ∧ True ∧ (bits BinOp.and IntKind.u8 (↑(fontL.toArray.toList.getD (W ((217 : Int) + v)).toNat (0 : UInt8)).toNat / (2 : Int) ^ min (IntKind.u64.wrap
    (W ((4 : Int) - u))).toNat (8 : Nat)) (1 : Int) == (1 : Int)) = litS c u v ∧ True) ∧ (decide (c > (90 : Int)) = false → ((0 : Int) ≤ W (W ((7 : Int) * W (W c - (32
    : Int))) + v) ∧ W (W ((7 : Int) * W (W c - (32 : Int))) + v) < (413 : Int)) ∧ (0 : Int) ≤ IntKind.u64.wrap (W ((4 : Int) - u)) ∧ True ∧ True ∧ (bits BinOp.and IntKind.u8
    (↑(fontL.toArray.toList.getD (W (W ((7 : Int) * W (W c - (32 : Int))) + v)).toNat (0 : UInt8)).toNat / (2 : Int) ^ min (IntKind.u64.wrap (W ((4 : Int) - u))).toNat
    (8 : Nat)) (1 : Int) == (1 : Int)) = litS c u v ∧ True)))) = vc40 c u v := by kernel_rfl
theorem vc17_eq (f : Fr) (x y : Int) (s : List UInt8) (n : Int) : (True ∧ (decide (↑s.length > (20000 : Int)) = true → True ∧ t16 ∧ t16 ∧ True ∧ (t16 ∧ t16 ∧ True) ∧ ((sm ((16 : Nat)) ∧ (0 : Nat) + (1 : Nat) = (1 : Nat) ∧ ∀ (i :
    Nat), i < (16 : Nat) → f.low.getD i (0 : Int) = (textS f x y s n).low.getD i (0 : Int) ∧ True) ∧ (sm ((16 : Nat)) ∧ (0 : Nat) + (1 : Nat) = (1 : Nat) ∧ ∀ (i : Nat),
    i < (16 : Nat) → f.high.getD i (0 : Int) = (textS f x y s n).high.getD i (0 : Int) ∧ True) ∧ True) ∧ True) ∧ (decide (↑s.length > (20000 : Int)) = false → (decide
    (x < (-1048576 : Int)) = true → True ∧ t16 ∧ t16 ∧ True ∧ (t16 ∧ t16 ∧ True) ∧ ((sm ((16 : Nat)) ∧ (0 : Nat) + (1 : Nat) = (1 : Nat) ∧ ∀ (i : Nat), i < (16 : Nat)
    → f.low.getD i (0 : Int) = (textS f x y s n).low.getD i (0 : Int) ∧ True) ∧ (sm ((16 : Nat)) ∧ (0 : Nat) + (1 : Nat) = (1 : Nat) ∧ ∀ (i : Nat), i < (16 : Nat) →
    f.high.getD i (0 : Int) = (textS f x y s n).high.getD i (0 : Int) ∧ True) ∧ True) ∧ True) ∧ (decide (x < (-1048576 : Int)) = false → (decide (x > (1048576 : Int))
    = true → True ∧ t16 ∧ t16 ∧ True ∧ (t16 ∧ t16 ∧ True) ∧ ((sm ((16 : Nat)) ∧ (0 : Nat) + (1 : Nat) = (1 : Nat) ∧ ∀ (i : Nat), i < (16 : Nat) → f.low.getD i (0 : Int)
    = (textS f x y s n).low.getD i (0 : Int) ∧ True) ∧ (sm ((16 : Nat)) ∧ (0 : Nat) + (1 : Nat) = (1 : Nat) ∧ ∀ (i : Nat), i < (16 : Nat) → f.high.getD i (0 : Int) =
    (textS f x y s n).high.getD i (0 : Int) ∧ True) ∧ True) ∧ True) ∧ (decide (x > (1048576 : Int)) = false → (decide (y < (-1048576 : Int)) = true → True ∧ t16 ∧ t16
    ∧ True ∧ (t16 ∧ t16 ∧ True) ∧ ((sm ((16 : Nat)) ∧ (0 : Nat) + (1 : Nat) = (1 : Nat) ∧ ∀ (i : Nat), i < (16 : Nat) → f.low.getD i (0 : Int) = (textS f x y s n).low.getD
    i (0 : Int) ∧ True) ∧ (sm ((16 : Nat)) ∧ (0 : Nat) + (1 : Nat) = (1 : Nat) ∧ ∀ (i : Nat), i < (16 : Nat) → f.high.getD i (0 : Int) = (textS f x y s n).high.getD
    i (0 : Int) ∧ True) ∧ True) ∧ True) ∧ (decide (y < (-1048576 : Int)) = false → True ∧ (decide (y > (1048576 : Int)) = true → t16 ∧ t16 ∧ True ∧ (t16 ∧ t16 ∧ True)
    ∧ ((sm ((16 : Nat)) ∧ (0 : Nat) + (1 : Nat) = (1 : Nat) ∧ ∀ (i : Nat), i < (16 : Nat) → f.low.getD i (0 : Int) = (textS f x y s n).low.getD i (0 : Int) ∧ True) ∧
    (sm ((16 : Nat)) ∧ (0 : Nat) + (1 : Nat) = (1 : Nat) ∧ ∀ (i : Nat), i < (16 : Nat) → f.high.getD i (0 : Int) = (textS f x y s n).high.getD i (0 : Int) ∧ True) ∧
    True) ∧ True) ∧ (decide (y > (1048576 : Int)) = false → True ∧ (((0 : Int) ≤ (0 : Int) ∧ (0 : Int) ≤ ↑s.length ∧ TxtI (P0 (0 : Int)) f x y s n (rr f.low) (rr f.high))
    ∧ (((sm ((16 : Nat)) ∧ sm ((1 : Nat)) ∧ ∀ (i : Nat), i < (16 : Nat) → sm (f.low.getD i (0 : Int)) ∧ True) ∧ (sm ((16 : Nat)) ∧ sm ((1 : Nat)) ∧ ∀ (i : Nat), i <
    (16 : Nat) → sm (f.high.getD i (0 : Int)) ∧ True) ∧ True) ∧ x = x ∧ y = y ∧ s = s ∧ n = n ∧ True ∧ True ∧ True ∧ True ∧ True ∧ True ∧ sm ((0 : Int)) ∧ True ∧ True
    ∧ True ∧ s = s ∧ Eq (α := Int) ↑s.length ↑s.length ∧ sm (decide (↑s.length > (20000 : Int))) ∧ True ∧ x = x ∧ sm (decide (x < (-1048576 : Int))) ∧ sm (decide (x
    < (-1048576 : Int))) ∧ True ∧ x = x ∧ sm (decide (x > (1048576 : Int))) ∧ sm (decide (x > (1048576 : Int))) ∧ True ∧ y = y ∧ sm (decide (y < (-1048576 : Int))) ∧
    sm (decide (y < (-1048576 : Int))) ∧ True ∧ y = y ∧ sm (decide (y > (1048576 : Int))) ∧ True ∧ True ∧ True ∧ True ∧ True ∧ True ∧ True ∧ True ∧ True ∧ True ∧ True
    ∧ True ∧ True ∧ True ∧ True ∧ True ∧ True ∧ True ∧ True ∧ True ∧ True ∧ True ∧ True ∧ True ∧ True ∧ True ∧ True ∧ True ∧ True ∧ True ∧ True ∧ True ∧ True ∧ True
    ∧ True ∧ True ∧ True ∧ True ∧ True ∧ True ∧ True ∧ True ∧ True ∧ True ∧ True ∧ True ∧ True) ∧ ((if false = true then [] else List.map Seg.shape [Seg.a (16 : Nat)
    (1 : Nat) fun j => [SV.int IntKind.u64 (f.low.getD j (0 : Int))], Seg.a (16 : Nat) (1 : Nat) fun j => [SV.int IntKind.u64 (f.high.getD j (0 : Int))]]) = if false
    = true then [] else List.map Seg.shape [Seg.a (16 : Nat) (1 : Nat) fun j => [SV.int IntKind.u64 (f.low.getD j (0 : Int))], Seg.a (16 : Nat) (1 : Nat) fun j => [SV.int
    IntKind.u64 (f.high.getD j (0 : Int))]]) ∧ ((sm ((16 : Nat)) ∧ (1 : Nat) = (codI IntKind.u64).n ∧ ∀ (i : Nat), i < (16 : Nat) → f.low.getD i (0 : Int) = (rr f.low).getD
    i (codI IntKind.u64).dft ∧ True) ∧ (sm ((16 : Nat)) ∧ (1 : Nat) = (codI IntKind.u64).n ∧ ∀ (i : Nat), i < (16 : Nat) → f.high.getD i (0 : Int) = (rr f.high).getD
    i (codI IntKind.u64).dft ∧ True) ∧ True) ∧ ((if false = true then [] else List.map Seg.shape ([Seg.a (16 : Nat) (1 : Nat) fun x => [SV.int IntKind.u64 (0 : Int)]]
    ++ ([Seg.a (16 : Nat) (1 : Nat) fun x => [SV.int IntKind.u64 (0 : Int)]] ++ []))) = if false = true then [] else List.map Seg.shape ([Seg.a (16 : Nat) (1 : Nat)
    fun x => [SV.int IntKind.u64 (0 : Int)]] ++ ([Seg.a (16 : Nat) (1 : Nat) fun x => [SV.int IntKind.u64 (0 : Int)]] ++ []))) ∧ ((sm ((16 : Nat)) ∧ sm ((1 : Nat)) ∧
    ∀ (i : Nat), i < (16 : Nat) → sm ((0 : Int)) ∧ True) ∧ (sm ((16 : Nat)) ∧ sm ((1 : Nat)) ∧ ∀ (i : Nat), i < (16 : Nat) → sm ((0 : Int)) ∧ True) ∧ True) ∧ True) ∧
    ∀ (n_1 : Int) (l l_1 : List Int), (0 : Int) ≤ n_1 ∧ n_1 ≤ ↑s.length ∧ TxtI (P0 n_1) f x y s n l l_1 → True ∧ (decide (n_1 < ↑s.length) = true → True ∧ (decide (W
    (x + W ((6 : Int) * n_1)) ≤ (-6 : Int)) = true → True ∧ True ∧ ((0 : Int) ≤ W (n_1 + (1 : Int)) ∧ W (n_1 + (1 : Int)) ≤ ↑s.length ∧ TxtI (P0 (W (n_1 + (1 : Int))))
    f x y s n (rowL (codI IntKind.u64) (16 : Nat) fun j => (codI IntKind.u64).enc (l.getD j (codI IntKind.u64).dft)) (rowL (codI IntKind.u64) (16 : Nat) fun j => (codI
    IntKind.u64).enc (l_1.getD j (codI IntKind.u64).dft))) ∧ (↑s.length - W (n_1 + (1 : Int))).toNat < (↑s.length - n_1).toNat ∧ (((sm ((16 : Nat)) ∧ sm ((1 : Nat))
    ∧ ∀ (i : Nat), i < (16 : Nat) → sm (f.low.getD i (0 : Int)) ∧ True) ∧ (sm ((16 : Nat)) ∧ sm ((1 : Nat)) ∧ ∀ (i : Nat), i < (16 : Nat) → sm (f.high.getD i (0 : Int))
    ∧ True) ∧ True) ∧ x = x ∧ y = y ∧ s = s ∧ n = n ∧ True ∧ True ∧ True ∧ True ∧ True ∧ True ∧ sm (W (n_1 + (1 : Int))) ∧ True ∧ True ∧ True ∧ s = s ∧ Eq (α := Int)
    ↑s.length ↑s.length ∧ sm (decide (↑s.length > (20000 : Int))) ∧ True ∧ x = x ∧ sm (decide (x < (-1048576 : Int))) ∧ sm (decide (x < (-1048576 : Int))) ∧ True ∧ x
    = x ∧ sm (decide (x > (1048576 : Int))) ∧ sm (decide (x > (1048576 : Int))) ∧ True ∧ y = y ∧ sm (decide (y < (-1048576 : Int))) ∧ sm (decide (y < (-1048576 : Int)))
    ∧ True ∧ y = y ∧ sm (decide (y > (1048576 : Int))) ∧ True ∧ True ∧ True ∧ True ∧ True ∧ True ∧ True ∧ True ∧ True ∧ True ∧ True ∧ True ∧ True ∧ True ∧ True ∧ True
    ∧ True ∧ True ∧ True ∧ True ∧ True ∧ True ∧ True ∧ True ∧ True ∧ True ∧ True ∧ True ∧ True ∧ True ∧ True ∧ True ∧ True ∧ True ∧ True ∧ True ∧ True ∧ True ∧ True
    ∧ True ∧ True ∧ True ∧ True ∧ True ∧ True ∧ True ∧ True) ∧ ((if false = true then [] else List.map Seg.shape [Seg.a (16 : Nat) (1 : Nat) fun j => [SV.int IntKind.u64
    (f.low.getD j (0 : Int))], Seg.a (16 : Nat) (1 : Nat) fun j => [SV.int IntKind.u64 (f.high.getD j (0 : Int))]]) = if false = true then [] else List.map Seg.shape
    [Seg.a (16 : Nat) (1 : Nat) fun j => [SV.int IntKind.u64 (f.low.getD j (0 : Int))], Seg.a (16 : Nat) (1 : Nat) fun j => [SV.int IntKind.u64 (f.high.getD j (0 : Int))]])
    ∧ ((sm ((16 : Nat)) ∧ sm ((codI IntKind.u64).n) ∧ ∀ (i : Nat), i < (16 : Nat) → l.getD i (codI IntKind.u64).dft = (rowL (codI IntKind.u64) (16 : Nat) fun j => (codI
    IntKind.u64).enc (l.getD j (codI IntKind.u64).dft)).getD i (codI IntKind.u64).dft ∧ True) ∧ (sm ((16 : Nat)) ∧ sm ((codI IntKind.u64).n) ∧ ∀ (i : Nat), i < (16 :
    Nat) → l_1.getD i (codI IntKind.u64).dft = (rowL (codI IntKind.u64) (16 : Nat) fun j => (codI IntKind.u64).enc (l_1.getD j (codI IntKind.u64).dft)).getD i (codI
    IntKind.u64).dft ∧ True) ∧ True) ∧ ((if false = true then [] else List.map Seg.shape ([Seg.a (16 : Nat) (1 : Nat) fun x => [SV.int IntKind.u64 (0 : Int)]] ++ ([Seg.a
    (16 : Nat) (1 : Nat) fun x => [SV.int IntKind.u64 (0 : Int)]] ++ []))) = if false = true then [] else List.map Seg.shape ([Seg.a (16 : Nat) (1 : Nat) fun x => [SV.int
    IntKind.u64 (0 : Int)]] ++ ([Seg.a (16 : Nat) (1 : Nat) fun x => [SV.int IntKind.u64 (0 : Int)]] ++ []))) ∧ ((sm ((16 : Nat)) ∧ sm ((1 : Nat)) ∧ ∀ (i : Nat), i <
    (16 : Nat) → sm ((0 : Int)) ∧ True) ∧ (sm ((16 : Nat)) ∧ sm ((1 : Nat)) ∧ ∀ (i : Nat), i < (16 : Nat) → sm ((0 : Int)) ∧ True) ∧ True) ∧ True) ∧ (decide (W (x +
    W ((6 : Int) * n_1)) ≤ (-6 : Int)) = false → True ∧ (decide (W (x + W ((6 : Int) * n_1)) ≥ (64 : Int)) = true → True ∧ ((0 : Int) ≤ W (n_1 + (1 : Int)) ∧ W (n_1
    + (1 : Int)) ≤ ↑s.length ∧ TxtI (P0 (W (n_1 + (1 : Int)))) f x y s n (rowL (codI IntKind.u64) (16 : Nat) fun j => (codI IntKind.u64).enc (l.getD j (codI IntKind.u64).dft))
    (rowL (codI IntKind.u64) (16 : Nat) fun j => (codI IntKind.u64).enc (l_1.getD j (codI IntKind.u64).dft))) ∧ (↑s.length - W (n_1 + (1 : Int))).toNat < (↑s.length
    - n_1).toNat ∧ (((sm ((16 : Nat)) ∧ sm ((1 : Nat)) ∧ ∀ (i : Nat), i < (16 : Nat) → sm (f.low.getD i (0 : Int)) ∧ True) ∧ (sm ((16 : Nat)) ∧ sm ((1 : Nat)) ∧ ∀ (i
    : Nat), i < (16 : Nat) → sm (f.high.getD i (0 : Int)) ∧ True) ∧ True) ∧ x = x ∧ y = y ∧ s = s ∧ n = n ∧ True ∧ True ∧ True ∧ True ∧ True ∧ True ∧ sm (W (n_1 + (1
    : Int))) ∧ True ∧ True ∧ True ∧ s = s ∧ Eq (α := Int) ↑s.length ↑s.length ∧ sm (decide (↑s.length > (20000 : Int))) ∧ True ∧ x = x ∧ sm (decide (x < (-1048576 :
    Int))) ∧ sm (decide (x < (-1048576 : Int))) ∧ True ∧ x = x ∧ sm (decide (x > (1048576 : Int))) ∧ sm (decide (x > (1048576 : Int))) ∧ True ∧ y = y ∧ sm (decide (y
    < (-1048576 : Int))) ∧ sm (decide (y < (-1048576 : Int))) ∧ True ∧ y = y ∧ sm (decide (y > (1048576 : Int))) ∧ True ∧ True ∧ True ∧ True ∧ True ∧ True ∧ True ∧ True
    ∧ True ∧ True ∧ True ∧ True ∧ True ∧ True ∧ True ∧ True ∧ True ∧ True ∧ True ∧ True ∧ True ∧ True ∧ True ∧ True ∧ True ∧ True ∧ True ∧ True ∧ True ∧ True ∧ True
    ∧ True ∧ True ∧ True ∧ True ∧ True ∧ True ∧ True ∧ True ∧ True ∧ True ∧ True ∧ True ∧ True ∧ True ∧ True ∧ True) ∧ ((if false = true then [] else List.map Seg.shape
    [Seg.a (16 : Nat) (1 : Nat) fun j => [SV.int IntKind.u64 (f.low.getD j (0 : Int))], Seg.a (16 : Nat) (1 : Nat) fun j => [SV.int IntKind.u64 (f.high.getD j (0 : Int))]])
    = if false = true then [] else List.map Seg.shape [Seg.a (16 : Nat) (1 : Nat) fun j => [SV.int IntKind.u64 (f.low.getD j (0 : Int))], Seg.a (16 : Nat) (1 : Nat)
    fun j => [SV.int IntKind.u64 (f.high.getD j (0 : Int))]]) ∧ ((sm ((16 : Nat)) ∧ sm ((codI IntKind.u64).n) ∧ ∀ (i : Nat), i < (16 : Nat) → l.getD i (codI IntKind.u64).dft
    = (rowL (codI IntKind.u64) (16 : Nat) fun j => (codI IntKind.u64).enc (l.getD j (codI IntKind.u64).dft)).getD i (codI IntKind.u64).dft ∧ True) ∧ (sm ((16 : Nat))
    ∧ sm ((codI IntKind.u64).n) ∧ ∀ (i : Nat), i < (16 : Nat) → l_1.getD i (codI IntKind.u64).dft = (rowL (codI IntKind.u64) (16 : Nat) fun j => (codI IntKind.u64).enc
    (l_1.getD j (codI IntKind.u64).dft)).getD i (codI IntKind.u64).dft ∧ True) ∧ True) ∧ ((if false = true then [] else List.map Seg.shape ([Seg.a (16 : Nat) (1 : Nat)
    fun x => [SV.int IntKind.u64 (0 : Int)]] ++ ([Seg.a (16 : Nat) (1 : Nat) fun x => [SV.int IntKind.u64 (0 : Int)]] ++ []))) = if false = true then [] else List.map
    Seg.shape ([Seg.a (16 : Nat) (1 : Nat) fun x => [SV.int IntKind.u64 (0 : Int)]] ++ ([Seg.a (16 : Nat) (1 : Nat) fun x => [SV.int IntKind.u64 (0 : Int)]] ++ [])))
    ∧ ((sm ((16 : Nat)) ∧ sm ((1 : Nat)) ∧ ∀ (i : Nat), i < (16 : Nat) → sm ((0 : Int)) ∧ True) ∧ (sm ((16 : Nat)) ∧ sm ((1 : Nat)) ∧ ∀ (i : Nat), i < (16 : Nat) → sm
    ((0 : Int)) ∧ True) ∧ True) ∧ True) ∧ (decide (W (x + W ((6 : Int) * n_1)) ≥ (64 : Int)) = false → True ∧ (((0 : Int) ≤ (0 : Int) ∧ (0 : Int) ≤ (7 : Int) ∧ TxtI
    (P1 n_1 (0 : Int)) f x y s n (rowL (codI IntKind.u64) (16 : Nat) fun j => (codI IntKind.u64).enc (l.getD j (codI IntKind.u64).dft)) (rowL (codI IntKind.u64) (16
    : Nat) fun j => (codI IntKind.u64).enc (l_1.getD j (codI IntKind.u64).dft))) ∧ (((sm ((16 : Nat)) ∧ sm ((1 : Nat)) ∧ ∀ (i : Nat), i < (16 : Nat) → sm (f.low.getD
    i (0 : Int)) ∧ True) ∧ (sm ((16 : Nat)) ∧ sm ((1 : Nat)) ∧ ∀ (i : Nat), i < (16 : Nat) → sm (f.high.getD i (0 : Int)) ∧ True) ∧ True) ∧ x = x ∧ y = y ∧ s = s ∧ n
    = n ∧ True ∧ True ∧ True ∧ True ∧ True ∧ True ∧ n_1 = n_1 ∧ sm (W (x + W ((6 : Int) * n_1))) ∧ True ∧ True ∧ s = s ∧ Eq (α := Int) ↑s.length ↑s.length ∧ sm (decide
    (↑s.length > (20000 : Int))) ∧ True ∧ x = x ∧ sm (decide (x < (-1048576 : Int))) ∧ sm (decide (x < (-1048576 : Int))) ∧ True ∧ x = x ∧ sm (decide (x > (1048576 :
    Int))) ∧ sm (decide (x > (1048576 : Int))) ∧ True ∧ y = y ∧ sm (decide (y < (-1048576 : Int))) ∧ sm (decide (y < (-1048576 : Int))) ∧ True ∧ y = y ∧ sm (decide (y
    > (1048576 : Int))) ∧ True ∧ True ∧ n_1 = n_1 ∧ s = s ∧ Eq (α := Int) ↑s.length ↑s.length ∧ True ∧ True ∧ True ∧ x = x ∧ n_1 = n_1 ∧ sm (W ((6 : Int) * n_1)) ∧ sm
    (W (x + W ((6 : Int) * n_1))) ∧ sm (W (x + W ((6 : Int) * n_1))) ∧ sm (decide (W (x + W ((6 : Int) * n_1)) ≤ (-6 : Int))) ∧ True ∧ sm (W (x + W ((6 : Int) * n_1)))
    ∧ sm (decide (W (x + W ((6 : Int) * n_1)) ≥ (64 : Int))) ∧ True ∧ sm ((0 : Int)) ∧ True ∧ True ∧ True ∧ True ∧ True ∧ True ∧ True ∧ True ∧ True ∧ True ∧ True ∧ True
    ∧ True ∧ True ∧ True ∧ True ∧ True ∧ True ∧ True ∧ True ∧ True ∧ True ∧ True ∧ True ∧ True ∧ True ∧ True ∧ True) ∧ ((if false = true then [] else List.map Seg.shape
    [Seg.a (16 : Nat) (1 : Nat) fun j => [SV.int IntKind.u64 (f.low.getD j (0 : Int))], Seg.a (16 : Nat) (1 : Nat) fun j => [SV.int IntKind.u64 (f.high.getD j (0 : Int))]])
    = if false = true then [] else List.map Seg.shape [Seg.a (16 : Nat) (1 : Nat) fun j => [SV.int IntKind.u64 (f.low.getD j (0 : Int))], Seg.a (16 : Nat) (1 : Nat)
    fun j => [SV.int IntKind.u64 (f.high.getD j (0 : Int))]]) ∧ ((sm ((16 : Nat)) ∧ sm ((codI IntKind.u64).n) ∧ ∀ (i : Nat), i < (16 : Nat) → l.getD i (codI IntKind.u64).dft
    = (rowL (codI IntKind.u64) (16 : Nat) fun j => (codI IntKind.u64).enc (l.getD j (codI IntKind.u64).dft)).getD i (codI IntKind.u64).dft ∧ True) ∧ (sm ((16 : Nat))
    ∧ sm ((codI IntKind.u64).n) ∧ ∀ (i : Nat), i < (16 : Nat) → l_1.getD i (codI IntKind.u64).dft = (rowL (codI IntKind.u64) (16 : Nat) fun j => (codI IntKind.u64).enc
    (l_1.getD j (codI IntKind.u64).dft)).getD i (codI IntKind.u64).dft ∧ True) ∧ True) ∧ ((if false = true then [] else List.map Seg.shape ([Seg.a (16 : Nat) (1 : Nat)
    fun x => [SV.int IntKind.u64 (0 : Int)]] ++ ([Seg.a (16 : Nat) (1 : Nat) fun x => [SV.int IntKind.u64 (0 : Int)]] ++ []))) = if false = true then [] else List.map
    Seg.shape ([Seg.a (16 : Nat) (1 : Nat) fun x => [SV.int IntKind.u64 (0 : Int)]] ++ ([Seg.a (16 : Nat) (1 : Nat) fun x => [SV.int IntKind.u64 (0 : Int)]] ++ [])))
    ∧ ((sm ((16 : Nat)) ∧ sm ((1 : Nat)) ∧ ∀ (i : Nat), i < (16 : Nat) → sm ((0 : Int)) ∧ True) ∧ (sm ((16 : Nat)) ∧ sm ((1 : Nat)) ∧ ∀ (i : Nat), i < (16 : Nat) → sm
    ((0 : Int)) ∧ True) ∧ True) ∧ True) ∧ ∀ (n_2 : Int) (l l_2 : List Int), (0 : Int) ≤ n_2 ∧ n_2 ≤ (7 : Int) ∧ TxtI (P1 n_1 n_2) f x y s n l l_2 → True ∧ (decide (n_2
    < (7 : Int)) = true → True ∧ True ∧ (((0 : Int) ≤ (0 : Int) ∧ (0 : Int) ≤ (5 : Int) ∧ TxtI (P2 n_1 n_2 (0 : Int)) f x y s n (rowL (codI IntKind.u64) (16 : Nat) fun
    j => (codI IntKind.u64).enc (l.getD j (codI IntKind.u64).dft)) (rowL (codI IntKind.u64) (16 : Nat) fun j => (codI IntKind.u64).enc (l_2.getD j (codI IntKind.u64).dft)))
    ∧ (((sm ((16 : Nat)) ∧ sm ((1 : Nat)) ∧ ∀ (i : Nat), i < (16 : Nat) → sm (f.low.getD i (0 : Int)) ∧ True) ∧ (sm ((16 : Nat)) ∧ sm ((1 : Nat)) ∧ ∀ (i : Nat), i <
    (16 : Nat) → sm (f.high.getD i (0 : Int)) ∧ True) ∧ True) ∧ x = x ∧ y = y ∧ s = s ∧ n = n ∧ True ∧ True ∧ True ∧ True ∧ True ∧ True ∧ n_1 = n_1 ∧ sm (W (x + W ((6
    : Int) * n_1))) ∧ n_2 = n_2 ∧ True ∧ s = s ∧ Eq (α := Int) ↑s.length ↑s.length ∧ sm (decide (↑s.length > (20000 : Int))) ∧ True ∧ x = x ∧ sm (decide (x < (-1048576
    : Int))) ∧ sm (decide (x < (-1048576 : Int))) ∧ True ∧ x = x ∧ sm (decide (x > (1048576 : Int))) ∧ sm (decide (x > (1048576 : Int))) ∧ True ∧ y = y ∧ sm (decide
    (y < (-1048576 : Int))) ∧ sm (decide (y < (-1048576 : Int))) ∧ True ∧ y = y ∧ sm (decide (y > (1048576 : Int))) ∧ True ∧ True ∧ n_1 = n_1 ∧ s = s ∧ Eq (α := Int)
    ↑s.length ↑s.length ∧ True ∧ True ∧ True ∧ x = x ∧ n_1 = n_1 ∧ sm (W ((6 : Int) * n_1)) ∧ sm (W (x + W ((6 : Int) * n_1))) ∧ sm (W (x + W ((6 : Int) * n_1))) ∧ sm
    (decide (W (x + W ((6 : Int) * n_1)) ≤ (-6 : Int))) ∧ True ∧ sm (W (x + W ((6 : Int) * n_1))) ∧ sm (decide (W (x + W ((6 : Int) * n_1)) ≥ (64 : Int))) ∧ True ∧ n_2
    = n_2 ∧ True ∧ n_2 = n_2 ∧ sm ((0 : Int)) ∧ True ∧ True ∧ True ∧ True ∧ True ∧ True ∧ True ∧ True ∧ True ∧ True ∧ True ∧ True ∧ True ∧ True ∧ True ∧ True ∧ True
    ∧ True ∧ True ∧ True ∧ True ∧ True ∧ True ∧ True ∧ True) ∧ ((if false = true then [] else List.map Seg.shape [Seg.a (16 : Nat) (1 : Nat) fun j => [SV.int IntKind.u64
    (f.low.getD j (0 : Int))], Seg.a (16 : Nat) (1 : Nat) fun j => [SV.int IntKind.u64 (f.high.getD j (0 : Int))]]) = if false = true then [] else List.map Seg.shape
    [Seg.a (16 : Nat) (1 : Nat) fun j => [SV.int IntKind.u64 (f.low.getD j (0 : Int))], Seg.a (16 : Nat) (1 : Nat) fun j => [SV.int IntKind.u64 (f.high.getD j (0 : Int))]])
    ∧ ((sm ((16 : Nat)) ∧ sm ((codI IntKind.u64).n) ∧ ∀ (i : Nat), i < (16 : Nat) → l.getD i (codI IntKind.u64).dft = (rowL (codI IntKind.u64) (16 : Nat) fun j => (codI
    IntKind.u64).enc (l.getD j (codI IntKind.u64).dft)).getD i (codI IntKind.u64).dft ∧ True) ∧ (sm ((16 : Nat)) ∧ sm ((codI IntKind.u64).n) ∧ ∀ (i : Nat), i < (16 :
    Nat) → l_2.getD i (codI IntKind.u64).dft = (rowL (codI IntKind.u64) (16 : Nat) fun j => (codI IntKind.u64).enc (l_2.getD j (codI IntKind.u64).dft)).getD i (codI
    IntKind.u64).dft ∧ True) ∧ True) ∧ ((if false = true then [] else List.map Seg.shape ([Seg.a (16 : Nat) (1 : Nat) fun x => [SV.int IntKind.u64 (0 : Int)]] ++ ([Seg.a
    (16 : Nat) (1 : Nat) fun x => [SV.int IntKind.u64 (0 : Int)]] ++ []))) = if false = true then [] else List.map Seg.shape ([Seg.a (16 : Nat) (1 : Nat) fun x => [SV.int
    IntKind.u64 (0 : Int)]] ++ ([Seg.a (16 : Nat) (1 : Nat) fun x => [SV.int IntKind.u64 (0 : Int)]] ++ []))) ∧ ((sm ((16 : Nat)) ∧ sm ((1 : Nat)) ∧ ∀ (i : Nat), i <
    (16 : Nat) → sm ((0 : Int)) ∧ True) ∧ (sm ((16 : Nat)) ∧ sm ((1 : Nat)) ∧ ∀ (i : Nat), i < (16 : Nat) → sm ((0 : Int)) ∧ True) ∧ True) ∧ True) ∧ ∀ (n_3 : Int) (l
    l_3 : List Int), (0 : Int) ≤ n_3 ∧ n_3 ≤ (5 : Int) ∧ TxtI (P2 n_1 n_2 n_3) f x y s n l l_3 → True ∧ (decide (n_3 < (5 : Int)) = true → True ∧ ((0 : Int) ≤ n_1 ∧
    n_1 < ↑s.length) ∧ True ∧ True ∧ ((True ∧ True) ∧ (0 : Int) ≤ ↑(s.getD n_1.toNat (0 : UInt8)).toNat ∧ ↑(s.getD n_1.toNat (0 : UInt8)).toNat < (256 : Int) ∧ (0 :
    Int) ≤ n_2 ∧ n_2 < (7 : Int)) ∧ (0 : Int) ≤ W ((4 : Int) - n_3) ∧ True ∧ ((bits BinOp.and IntKind.u8 (glS (↑(s.getD n_1.toNat (0 : UInt8)).toNat) n_2 / (2 : Int)
    ^ min (W ((4 : Int) - n_3)).toNat (8 : Nat)) (1 : Int) == (1 : Int)) = true → (t16 ∧ t16 ∧ True) ∧ True ∧ True ∧ True ∧ ((((∀ (i : Nat), i < (16 : Nat) → true =
    true ∧ True) ∧ ∀ (i : Nat), i < (16 : Nat) → true = true ∧ True) ∧ True ∧ True ∧ True) ∧ okF { low := rowL (codI IntKind.u64) (16 : Nat) fun j => (codI IntKind.u64).enc (l.getD j (codI IntKind.u64).dft), high := rowL (codI IntKind.u64) (16 : Nat) fun j => (codI IntKind.u64).enc (l_3.getD j (codI IntKind.u64).dft) : Fr })
    ∧ t16 ∧ t16 ∧ True ∧ True ∧ ((0 : Int) ≤ W (n_3 + (1 : Int)) ∧ W (n_3 + (1 : Int)) ≤ (5 : Int) ∧ TxtI (P2 n_1 n_2 (W (n_3 + (1 : Int)))) f x y s n (rr (setS { low := rowL (codI IntKind.u64) (16 : Nat) fun j => (codI IntKind.u64).enc (l.getD j (codI IntKind.u64).dft), high := rowL (codI IntKind.u64) (16 : Nat) fun j => (codI IntKind.u64).enc (l_3.getD j (codI IntKind.u64).dft) : Fr }
    (W (W (x + W ((6 : Int) * n_1)) + n_3)) (W (y + n_2)) n).low) (rr (setS { low := rowL (codI IntKind.u64) (16 : Nat) fun j => (codI IntKind.u64).enc (l.getD j (codI IntKind.u64).dft), high := rowL (codI IntKind.u64) (16 : Nat) fun j => (codI IntKind.u64).enc (l_3.getD j (codI IntKind.u64).dft) : Fr }
    (W (W (x + W ((6 : Int) * n_1)) + n_3)) (W (y + n_2)) n).high)) ∧ ((5 : Int) - W (n_3 + (1 : Int))).toNat < ((5 : Int) - n_3).toNat ∧ (((sm ((16 : Nat)) ∧ sm ((1
    : Nat)) ∧ ∀ (i : Nat), i < (16 : Nat) → sm (f.low.getD i (0 : Int)) ∧ True) ∧ (sm ((16 : Nat)) ∧ sm ((1 : Nat)) ∧ ∀ (i : Nat), i < (16 : Nat) → sm (f.high.getD i
    (0 : Int)) ∧ True) ∧ True) ∧ x = x ∧ y = y ∧ s = s ∧ n = n ∧ True ∧ True ∧ True ∧ True ∧ True ∧ True ∧ n_1 = n_1 ∧ sm (W (x + W ((6 : Int) * n_1))) ∧ n_2 = n_2 ∧
    True ∧ s = s ∧ Eq (α := Int) ↑s.length ↑s.length ∧ sm (decide (↑s.length > (20000 : Int))) ∧ True ∧ x = x ∧ sm (decide (x < (-1048576 : Int))) ∧ sm (decide (x <
    (-1048576 : Int))) ∧ True ∧ x = x ∧ sm (decide (x > (1048576 : Int))) ∧ sm (decide (x > (1048576 : Int))) ∧ True ∧ y = y ∧ sm (decide (y < (-1048576 : Int))) ∧ sm
    (decide (y < (-1048576 : Int))) ∧ True ∧ y = y ∧ sm (decide (y > (1048576 : Int))) ∧ True ∧ True ∧ n_1 = n_1 ∧ s = s ∧ Eq (α := Int) ↑s.length ↑s.length ∧ True ∧
    True ∧ True ∧ x = x ∧ n_1 = n_1 ∧ sm (W ((6 : Int) * n_1)) ∧ sm (W (x + W ((6 : Int) * n_1))) ∧ sm (W (x + W ((6 : Int) * n_1))) ∧ sm (decide (W (x + W ((6 : Int)
    * n_1)) ≤ (-6 : Int))) ∧ True ∧ sm (W (x + W ((6 : Int) * n_1))) ∧ sm (decide (W (x + W ((6 : Int) * n_1)) ≥ (64 : Int))) ∧ True ∧ n_2 = n_2 ∧ True ∧ n_2 = n_2 ∧
    sm (W (n_3 + (1 : Int))) ∧ True ∧ True ∧ True ∧ True ∧ True ∧ True ∧ True ∧ True ∧ True ∧ True ∧ True ∧ True ∧ True ∧ True ∧ True ∧ True ∧ True ∧ True ∧ True ∧ True
    ∧ True ∧ True ∧ True ∧ True ∧ True) ∧ ((if false = true then [] else List.map Seg.shape [Seg.a (16 : Nat) (1 : Nat) fun j => [SV.int IntKind.u64 (f.low.getD j (0
    : Int))], Seg.a (16 : Nat) (1 : Nat) fun j => [SV.int IntKind.u64 (f.high.getD j (0 : Int))]]) = if false = true then [] else List.map Seg.shape [Seg.a (16 : Nat)
    (1 : Nat) fun j => [SV.int IntKind.u64 (f.low.getD j (0 : Int))], Seg.a (16 : Nat) (1 : Nat) fun j => [SV.int IntKind.u64 (f.high.getD j (0 : Int))]]) ∧ ((sm ((16
    : Nat)) ∧ (1 : Nat) = (codI IntKind.u64).n ∧ ∀ (i : Nat), i < (16 : Nat) → (setS { low := rowL (codI IntKind.u64) (16 : Nat) fun j => (codI IntKind.u64).enc (l.getD j (codI IntKind.u64).dft), high := rowL (codI IntKind.u64) (16 : Nat) fun j => (codI IntKind.u64).enc (l_3.getD j (codI IntKind.u64).dft) : Fr }
    (W (W (x + W ((6 : Int) * n_1)) + n_3)) (W (y + n_2)) n).low.getD i (0 : Int) = (rr (setS { low := rowL (codI IntKind.u64) (16 : Nat) fun j => (codI IntKind.u64).enc (l.getD j (codI IntKind.u64).dft), high := rowL (codI IntKind.u64) (16 : Nat) fun j => (codI IntKind.u64).enc (l_3.getD j (codI IntKind.u64).dft) : Fr }
    (W (W (x + W ((6 : Int) * n_1)) + n_3)) (W (y + n_2)) n).low).getD i (codI IntKind.u64).dft ∧ True) ∧ (sm ((16 : Nat)) ∧ (1 : Nat) = (codI IntKind.u64).n ∧ ∀ (i
    : Nat), i < (16 : Nat) → (setS { low := rowL (codI IntKind.u64) (16 : Nat) fun j => (codI IntKind.u64).enc (l.getD j (codI IntKind.u64).dft), high := rowL (codI IntKind.u64) (16 : Nat) fun j => (codI IntKind.u64).enc (l_3.getD j (codI IntKind.u64).dft) : Fr }
    (W (W (x + W ((6 : Int) * n_1)) + n_3)) (W (y + n_2)) n).high.getD i (0 : Int) = (rr (setS { low := rowL (codI IntKind.u64) (16 : Nat) fun j => (codI IntKind.u64).enc (l.getD j (codI IntKind.u64).dft), high := rowL (codI IntKind.u64) (16 : Nat) fun j => (codI IntKind.u64).enc (l_3.getD j (codI IntKind.u64).dft) : Fr }
    (W (W (x + W ((6 : Int) * n_1)) + n_3)) (W (y + n_2)) n).high).getD i (codI IntKind.u64).dft ∧ True) ∧ True) ∧ ((if false = true then [] else List.map Seg.shape
    ([Seg.a (16 : Nat) (1 : Nat) fun x => [SV.int IntKind.u64 (0 : Int)]] ++ ([Seg.a (16 : Nat) (1 : Nat) fun x => [SV.int IntKind.u64 (0 : Int)]] ++ []))) = if false
    = true then [] else List.map Seg.shape ([Seg.a (16 : Nat) (1 : Nat) fun x => [SV.int IntKind.u64 (0 : Int)]] ++ ([Seg.a (16 : Nat) (1 : Nat) fun x => [SV.int IntKind.u64
    (0 : Int)]] ++ []))) ∧ ((sm ((16 : Nat)) ∧ sm ((1 : Nat)) ∧ ∀ (i : Nat), i < (16 : Nat) → sm ((0 : Int)) ∧ True) ∧ (sm ((16 : Nat)) ∧ sm ((1 : Nat)) ∧ ∀ (i : Nat),
    i < (16 : Nat) → sm ((0 : Int)) ∧ True) ∧ True) ∧ True) ∧ ((bits BinOp.and IntKind.u8 (glS (↑(s.getD n_1.toNat (0 : UInt8)).toNat) n_2 / (2 : Int) ^ min (W ((4 :
    Int) - n_3)).toNat (8 : Nat)) (1 : Int) == (1 : Int)) = false → True ∧ ((0 : Int) ≤ W (n_3 + (1 : Int)) ∧ W (n_3 + (1 : Int)) ≤ (5 : Int) ∧ TxtI (P2 n_1 n_2 (W (n_3
    + (1 : Int)))) f x y s n (rowL (codI IntKind.u64) (16 : Nat) fun j => (codI IntKind.u64).enc (l.getD j (codI IntKind.u64).dft)) (rowL (codI IntKind.u64) (16 : Nat)
    fun j => (codI IntKind.u64).enc (l_3.getD j (codI IntKind.u64).dft))) ∧ ((5 : Int) - W (n_3 + (1 : Int))).toNat < ((5 : Int) - n_3).toNat ∧ (((sm ((16 : Nat)) ∧
    sm ((1 : Nat)) ∧ ∀ (i : Nat), i < (16 : Nat) → sm (f.low.getD i (0 : Int)) ∧ True) ∧ (sm ((16 : Nat)) ∧ sm ((1 : Nat)) ∧ ∀ (i : Nat), i < (16 : Nat) → sm (f.high.getD
    i (0 : Int)) ∧ True) ∧ True) ∧ x = x ∧ y = y ∧ s = s ∧ n = n ∧ True ∧ True ∧ True ∧ True ∧ True ∧ True ∧ n_1 = n_1 ∧ sm (W (x + W ((6 : Int) * n_1))) ∧ n_2 = n_2
    ∧ True ∧ s = s ∧ Eq (α := Int) ↑s.length ↑s.length ∧ sm (decide (↑s.length > (20000 : Int))) ∧ True ∧ x = x ∧ sm (decide (x < (-1048576 : Int))) ∧ sm (decide (x
    < (-1048576 : Int))) ∧ True ∧ x = x ∧ sm (decide (x > (1048576 : Int))) ∧ sm (decide (x > (1048576 : Int))) ∧ True ∧ y = y ∧ sm (decide (y < (-1048576 : Int))) ∧
    sm (decide (y < (-1048576 : Int))) ∧ True ∧ y = y ∧ sm (decide (y > (1048576 : Int))) ∧ True ∧ True ∧ n_1 = n_1 ∧ s = s ∧ Eq (α := Int) ↑s.length ↑s.length ∧ True
    ∧ True ∧ True ∧ x = x ∧ n_1 = n_1 ∧ sm (W ((6 : Int) * n_1)) ∧ sm (W (x + W ((6 : Int) * n_1))) ∧ sm (W (x + W ((6 : Int) * n_1))) ∧ sm (decide (W (x + W ((6 : Int)
    * n_1)) ≤ (-6 : Int))) ∧ True ∧ sm (W (x + W ((6 : Int) * n_1))) ∧ sm (decide (W (x + W ((6 : Int) * n_1)) ≥ (64 : Int))) ∧ True ∧ n_2 = n_2 ∧ True ∧ n_2 = n_2 ∧
    sm (W (n_3 + (1 : Int))) ∧ True ∧ True ∧ True ∧ True ∧ True ∧ True ∧ True ∧ True ∧ True ∧ True ∧ True ∧ True ∧ True ∧ True ∧ True ∧ True ∧ True ∧ True ∧ True ∧ True
    ∧ True ∧ True ∧ True ∧ True ∧ True) ∧ ((if false = true then [] else List.map Seg.shape [Seg.a (16 : Nat) (1 : Nat) fun j => [SV.int IntKind.u64 (f.low.getD j (0
    : Int))], Seg.a (16 : Nat) (1 : Nat) fun j => [SV.int IntKind.u64 (f.high.getD j (0 : Int))]]) = if false = true then [] else List.map Seg.shape [Seg.a (16 : Nat)
    (1 : Nat) fun j => [SV.int IntKind.u64 (f.low.getD j (0 : Int))], Seg.a (16 : Nat) (1 : Nat) fun j => [SV.int IntKind.u64 (f.high.getD j (0 : Int))]]) ∧ ((sm ((16
    : Nat)) ∧ sm ((codI IntKind.u64).n) ∧ ∀ (i : Nat), i < (16 : Nat) → l.getD i (codI IntKind.u64).dft = (rowL (codI IntKind.u64) (16 : Nat) fun j => (codI IntKind.u64).enc
    (l.getD j (codI IntKind.u64).dft)).getD i (codI IntKind.u64).dft ∧ True) ∧ (sm ((16 : Nat)) ∧ sm ((codI IntKind.u64).n) ∧ ∀ (i : Nat), i < (16 : Nat) → l_3.getD
    i (codI IntKind.u64).dft = (rowL (codI IntKind.u64) (16 : Nat) fun j => (codI IntKind.u64).enc (l_3.getD j (codI IntKind.u64).dft)).getD i (codI IntKind.u64).dft
    ∧ True) ∧ True) ∧ ((if false = true then [] else List.map Seg.shape ([Seg.a (16 : Nat) (1 : Nat) fun x => [SV.int IntKind.u64 (0 : Int)]] ++ ([Seg.a (16 : Nat) (1
    : Nat) fun x => [SV.int IntKind.u64 (0 : Int)]] ++ []))) = if false = true then [] else List.map Seg.shape ([Seg.a (16 : Nat) (1 : Nat) fun x => [SV.int IntKind.u64
    (0 : Int)]] ++ ([Seg.a (16 : Nat) (1 : Nat) fun x => [SV.int IntKind.u64 (0 : Int)]] ++ []))) ∧ ((sm ((16 : Nat)) ∧ sm ((1 : Nat)) ∧ ∀ (i : Nat), i < (16 : Nat)
    → sm ((0 : Int)) ∧ True) ∧ (sm ((16 : Nat)) ∧ sm ((1 : Nat)) ∧ ∀ (i : Nat), i < (16 : Nat) → sm ((0 : Int)) ∧ True) ∧ True) ∧ True)) ∧ (decide (n_3 < (5 : Int))
    = false → True ∧ ((0 : Int) ≤ W (n_2 + (1 : Int)) ∧ W (n_2 + (1 : Int)) ≤ (7 : Int) ∧ TxtI (P1 n_1 (W (n_2 + (1 : Int)))) f x y s n (rowL (codI IntKind.u64) (16
    : Nat) fun j => (codI IntKind.u64).enc (l.getD j (codI IntKind.u64).dft)) (rowL (codI IntKind.u64) (16 : Nat) fun j => (codI IntKind.u64).enc (l_3.getD j (codI IntKind.u64).dft)))
    ∧ ((7 : Int) - W (n_2 + (1 : Int))).toNat < ((7 : Int) - n_2).toNat ∧ (((sm ((16 : Nat)) ∧ sm ((1 : Nat)) ∧ ∀ (i : Nat), i < (16 : Nat) → sm (f.low.getD i (0 : Int))
    ∧ True) ∧ (sm ((16 : Nat)) ∧ sm ((1 : Nat)) ∧ ∀ (i : Nat), i < (16 : Nat) → sm (f.high.getD i (0 : Int)) ∧ True) ∧ True) ∧ x = x ∧ y = y ∧ s = s ∧ n = n ∧ True ∧
    True ∧ True ∧ True ∧ True ∧ True ∧ n_1 = n_1 ∧ sm (W (x + W ((6 : Int) * n_1))) ∧ True ∧ True ∧ s = s ∧ Eq (α := Int) ↑s.length ↑s.length ∧ sm (decide (↑s.length
    > (20000 : Int))) ∧ True ∧ x = x ∧ sm (decide (x < (-1048576 : Int))) ∧ sm (decide (x < (-1048576 : Int))) ∧ True ∧ x = x ∧ sm (decide (x > (1048576 : Int))) ∧ sm
    (decide (x > (1048576 : Int))) ∧ True ∧ y = y ∧ sm (decide (y < (-1048576 : Int))) ∧ sm (decide (y < (-1048576 : Int))) ∧ True ∧ y = y ∧ sm (decide (y > (1048576
    : Int))) ∧ True ∧ True ∧ n_1 = n_1 ∧ s = s ∧ Eq (α := Int) ↑s.length ↑s.length ∧ True ∧ True ∧ True ∧ x = x ∧ n_1 = n_1 ∧ sm (W ((6 : Int) * n_1)) ∧ sm (W (x + W
    ((6 : Int) * n_1))) ∧ sm (W (x + W ((6 : Int) * n_1))) ∧ sm (decide (W (x + W ((6 : Int) * n_1)) ≤ (-6 : Int))) ∧ True ∧ sm (W (x + W ((6 : Int) * n_1))) ∧ sm (decide
    (W (x + W ((6 : Int) * n_1)) ≥ (64 : Int))) ∧ True ∧ sm (W (n_2 + (1 : Int))) ∧ True ∧ True ∧ True ∧ True ∧ True ∧ True ∧ True ∧ True ∧ True ∧ True ∧ True ∧ True
    ∧ True ∧ True ∧ True ∧ True ∧ True ∧ True ∧ True ∧ True ∧ True ∧ True ∧ True ∧ True ∧ True ∧ True ∧ True ∧ True) ∧ ((if false = true then [] else List.map Seg.shape
    [Seg.a (16 : Nat) (1 : Nat) fun j => [SV.int IntKind.u64 (f.low.getD j (0 : Int))], Seg.a (16 : Nat) (1 : Nat) fun j => [SV.int IntKind.u64 (f.high.getD j (0 : Int))]])
    = if false = true then [] else List.map Seg.shape [Seg.a (16 : Nat) (1 : Nat) fun j => [SV.int IntKind.u64 (f.low.getD j (0 : Int))], Seg.a (16 : Nat) (1 : Nat)
    fun j => [SV.int IntKind.u64 (f.high.getD j (0 : Int))]]) ∧ ((sm ((16 : Nat)) ∧ sm ((codI IntKind.u64).n) ∧ ∀ (i : Nat), i < (16 : Nat) → l.getD i (codI IntKind.u64).dft
    = (rowL (codI IntKind.u64) (16 : Nat) fun j => (codI IntKind.u64).enc (l.getD j (codI IntKind.u64).dft)).getD i (codI IntKind.u64).dft ∧ True) ∧ (sm ((16 : Nat))
    ∧ sm ((codI IntKind.u64).n) ∧ ∀ (i : Nat), i < (16 : Nat) → l_3.getD i (codI IntKind.u64).dft = (rowL (codI IntKind.u64) (16 : Nat) fun j => (codI IntKind.u64).enc
    (l_3.getD j (codI IntKind.u64).dft)).getD i (codI IntKind.u64).dft ∧ True) ∧ True) ∧ ((if false = true then [] else List.map Seg.shape ([Seg.a (16 : Nat) (1 : Nat)
    fun x => [SV.int IntKind.u64 (0 : Int)]] ++ ([Seg.a (16 : Nat) (1 : Nat) fun x => [SV.int IntKind.u64 (0 : Int)]] ++ []))) = if false = true then [] else List.map
    Seg.shape ([Seg.a (16 : Nat) (1 : Nat) fun x => [SV.int IntKind.u64 (0 : Int)]] ++ ([Seg.a (16 : Nat) (1 : Nat) fun x => [SV.int IntKind.u64 (0 : Int)]] ++ [])))
    ∧ ((sm ((16 : Nat)) ∧ sm ((1 : Nat)) ∧ ∀ (i : Nat), i < (16 : Nat) → sm ((0 : Int)) ∧ True) ∧ (sm ((16 : Nat)) ∧ sm ((1 : Nat)) ∧ ∀ (i : Nat), i < (16 : Nat) → sm
    ((0 : Int)) ∧ True) ∧ True) ∧ True)) ∧ (decide (n_2 < (7 : Int)) = false → True ∧ ((0 : Int) ≤ W (n_1 + (1 : Int)) ∧ W (n_1 + (1 : Int)) ≤ ↑s.length ∧ TxtI (P0 (W
    (n_1 + (1 : Int)))) f x y s n (rowL (codI IntKind.u64) (16 : Nat) fun j => (codI IntKind.u64).enc (l.getD j (codI IntKind.u64).dft)) (rowL (codI IntKind.u64) (16
    : Nat) fun j => (codI IntKind.u64).enc (l_2.getD j (codI IntKind.u64).dft))) ∧ (↑s.length - W (n_1 + (1 : Int))).toNat < (↑s.length - n_1).toNat ∧ (((sm ((16 : Nat))
    ∧ sm ((1 : Nat)) ∧ ∀ (i : Nat), i < (16 : Nat) → sm (f.low.getD i (0 : Int)) ∧ True) ∧ (sm ((16 : Nat)) ∧ sm ((1 : Nat)) ∧ ∀ (i : Nat), i < (16 : Nat) → sm (f.high.getD
    i (0 : Int)) ∧ True) ∧ True) ∧ x = x ∧ y = y ∧ s = s ∧ n = n ∧ True ∧ True ∧ True ∧ True ∧ True ∧ True ∧ sm (W (n_1 + (1 : Int))) ∧ True ∧ True ∧ True ∧ s = s ∧
    Eq (α := Int) ↑s.length ↑s.length ∧ sm (decide (↑s.length > (20000 : Int))) ∧ True ∧ x = x ∧ sm (decide (x < (-1048576 : Int))) ∧ sm (decide (x < (-1048576 : Int)))
    ∧ True ∧ x = x ∧ sm (decide (x > (1048576 : Int))) ∧ sm (decide (x > (1048576 : Int))) ∧ True ∧ y = y ∧ sm (decide (y < (-1048576 : Int))) ∧ sm (decide (y < (-1048576
    : Int))) ∧ True ∧ y = y ∧ sm (decide (y > (1048576 : Int))) ∧ True ∧ True ∧ True ∧ True ∧ True ∧ True ∧ True ∧ True ∧ True ∧ True ∧ True ∧ True ∧ True ∧ True ∧ True
    ∧ True ∧ True ∧ True ∧ True ∧ True ∧ True ∧ True ∧ True ∧ True ∧ True ∧ True ∧ True ∧ True ∧ True ∧ True ∧ True ∧ True ∧ True ∧ True ∧ True ∧ True ∧ True ∧ True
    ∧ True ∧ True ∧ True ∧ True ∧ True ∧ True ∧ True ∧ True ∧ True) ∧ ((if false = true then [] else List.map Seg.shape [Seg.a (16 : Nat) (1 : Nat) fun j => [SV.int
    IntKind.u64 (f.low.getD j (0 : Int))], Seg.a (16 : Nat) (1 : Nat) fun j => [SV.int IntKind.u64 (f.high.getD j (0 : Int))]]) = if false = true then [] else List.map
    Seg.shape [Seg.a (16 : Nat) (1 : Nat) fun j => [SV.int IntKind.u64 (f.low.getD j (0 : Int))], Seg.a (16 : Nat) (1 : Nat) fun j => [SV.int IntKind.u64 (f.high.getD
    j (0 : Int))]]) ∧ ((sm ((16 : Nat)) ∧ sm ((codI IntKind.u64).n) ∧ ∀ (i : Nat), i < (16 : Nat) → l.getD i (codI IntKind.u64).dft = (rowL (codI IntKind.u64) (16 :
    Nat) fun j => (codI IntKind.u64).enc (l.getD j (codI IntKind.u64).dft)).getD i (codI IntKind.u64).dft ∧ True) ∧ (sm ((16 : Nat)) ∧ sm ((codI IntKind.u64).n) ∧ ∀
    (i : Nat), i < (16 : Nat) → l_2.getD i (codI IntKind.u64).dft = (rowL (codI IntKind.u64) (16 : Nat) fun j => (codI IntKind.u64).enc (l_2.getD j (codI IntKind.u64).dft)).getD
    i (codI IntKind.u64).dft ∧ True) ∧ True) ∧ ((if false = true then [] else List.map Seg.shape ([Seg.a (16 : Nat) (1 : Nat) fun x => [SV.int IntKind.u64 (0 : Int)]]
    ++ ([Seg.a (16 : Nat) (1 : Nat) fun x => [SV.int IntKind.u64 (0 : Int)]] ++ []))) = if false = true then [] else List.map Seg.shape ([Seg.a (16 : Nat) (1 : Nat)
    fun x => [SV.int IntKind.u64 (0 : Int)]] ++ ([Seg.a (16 : Nat) (1 : Nat) fun x => [SV.int IntKind.u64 (0 : Int)]] ++ []))) ∧ ((sm ((16 : Nat)) ∧ sm ((1 : Nat)) ∧
    ∀ (i : Nat), i < (16 : Nat) → sm ((0 : Int)) ∧ True) ∧ (sm ((16 : Nat)) ∧ sm ((1 : Nat)) ∧ ∀ (i : Nat), i < (16 : Nat) → sm ((0 : Int)) ∧ True) ∧ True) ∧ True))))
    ∧ (decide (n_1 < ↑s.length) = false → t16 ∧ t16 ∧ True ∧ (t16 ∧ t16 ∧ True) ∧ ((sm ((16 : Nat)) ∧ (0 : Nat) + (1 : Nat) = (1 : Nat) ∧ ∀ (i : Nat), i < (16 : Nat)
    → l.getD i (codI IntKind.u64).dft = (textS f x y s n).low.getD i (0 : Int) ∧ True) ∧ (sm ((16 : Nat)) ∧ (0 : Nat) + (1 : Nat) = (1 : Nat) ∧ ∀ (i : Nat), i < (16
    : Nat) → l_1.getD i (codI IntKind.u64).dft = (textS f x y s n).high.getD i (0 : Int) ∧ True) ∧ True) ∧ True))))))) = vc17 f x y s n := by kernel_rfl
theorem vc18_eq (f : Fr) (x y : Int) (s : List UInt8) (n : Int) : (True ∧ (decide (↑s.length > (20000 : Int)) = true → True ∧ t16 ∧ t16 ∧ True ∧ (t16 ∧ t16 ∧ True) ∧ ((sm ((16 : Nat)) ∧ (0 : Nat) + (1 : Nat) = (1 : Nat) ∧ ∀ (i :
    Nat), i < (16 : Nat) → f.low.getD i (0 : Int) = (textS f x y s n).low.getD i (0 : Int) ∧ True) ∧ (sm ((16 : Nat)) ∧ (0 : Nat) + (1 : Nat) = (1 : Nat) ∧ ∀ (i : Nat),
    i < (16 : Nat) → f.high.getD i (0 : Int) = (textS f x y s n).high.getD i (0 : Int) ∧ True) ∧ True) ∧ True) ∧ (decide (↑s.length > (20000 : Int)) = false → (decide
    (x < (-1048576 : Int)) = true → True ∧ t16 ∧ t16 ∧ True ∧ (t16 ∧ t16 ∧ True) ∧ ((sm ((16 : Nat)) ∧ (0 : Nat) + (1 : Nat) = (1 : Nat) ∧ ∀ (i : Nat), i < (16 : Nat)
    → f.low.getD i (0 : Int) = (textS f x y s n).low.getD i (0 : Int) ∧ True) ∧ (sm ((16 : Nat)) ∧ (0 : Nat) + (1 : Nat) = (1 : Nat) ∧ ∀ (i : Nat), i < (16 : Nat) →
    f.high.getD i (0 : Int) = (textS f x y s n).high.getD i (0 : Int) ∧ True) ∧ True) ∧ True) ∧ (decide (x < (-1048576 : Int)) = false → (decide (x > (1048576 : Int))
    = true → True ∧ t16 ∧ t16 ∧ True ∧ (t16 ∧ t16 ∧ True) ∧ ((sm ((16 : Nat)) ∧ (0 : Nat) + (1 : Nat) = (1 : Nat) ∧ ∀ (i : Nat), i < (16 : Nat) → f.low.getD i (0 : Int)
    = (textS f x y s n).low.getD i (0 : Int) ∧ True) ∧ (sm ((16 : Nat)) ∧ (0 : Nat) + (1 : Nat) = (1 : Nat) ∧ ∀ (i : Nat), i < (16 : Nat) → f.high.getD i (0 : Int) =
    (textS f x y s n).high.getD i (0 : Int) ∧ True) ∧ True) ∧ True) ∧ (decide (x > (1048576 : Int)) = false → (decide (y < (-1048576 : Int)) = true → True ∧ t16 ∧ t16
    ∧ True ∧ (t16 ∧ t16 ∧ True) ∧ ((sm ((16 : Nat)) ∧ (0 : Nat) + (1 : Nat) = (1 : Nat) ∧ ∀ (i : Nat), i < (16 : Nat) → f.low.getD i (0 : Int) = (textS f x y s n).low.getD
    i (0 : Int) ∧ True) ∧ (sm ((16 : Nat)) ∧ (0 : Nat) + (1 : Nat) = (1 : Nat) ∧ ∀ (i : Nat), i < (16 : Nat) → f.high.getD i (0 : Int) = (textS f x y s n).high.getD
    i (0 : Int) ∧ True) ∧ True) ∧ True) ∧ (decide (y < (-1048576 : Int)) = false → True ∧ (decide (y > (1048576 : Int)) = true → t16 ∧ t16 ∧ True ∧ (t16 ∧ t16 ∧ True)
    ∧ ((sm ((16 : Nat)) ∧ (0 : Nat) + (1 : Nat) = (1 : Nat) ∧ ∀ (i : Nat), i < (16 : Nat) → f.low.getD i (0 : Int) = (textS f x y s n).low.getD i (0 : Int) ∧ True) ∧
    (sm ((16 : Nat)) ∧ (0 : Nat) + (1 : Nat) = (1 : Nat) ∧ ∀ (i : Nat), i < (16 : Nat) → f.high.getD i (0 : Int) = (textS f x y s n).high.getD i (0 : Int) ∧ True) ∧
    True) ∧ True) ∧ (decide (y > (1048576 : Int)) = false → True ∧ (((0 : Int) ≤ (0 : Int) ∧ (0 : Int) ≤ ↑s.length ∧ TxtI (P0 (0 : Int)) f x y s n (rr f.low) (rr f.high))
    ∧ (((sm ((16 : Nat)) ∧ sm ((1 : Nat)) ∧ ∀ (i : Nat), i < (16 : Nat) → sm (f.low.getD i (0 : Int)) ∧ True) ∧ (sm ((16 : Nat)) ∧ sm ((1 : Nat)) ∧ ∀ (i : Nat), i <
    (16 : Nat) → sm (f.high.getD i (0 : Int)) ∧ True) ∧ True) ∧ x = x ∧ y = y ∧ s = s ∧ n = n ∧ True ∧ True ∧ True ∧ True ∧ True ∧ True ∧ sm ((0 : Int)) ∧ True ∧ True
    ∧ s = s ∧ Eq (α := Int) ↑s.length ↑s.length ∧ sm (decide (↑s.length > (20000 : Int))) ∧ True ∧ x = x ∧ sm (decide (x < (-1048576 : Int))) ∧ sm (decide (x < (-1048576
    : Int))) ∧ True ∧ x = x ∧ sm (decide (x > (1048576 : Int))) ∧ sm (decide (x > (1048576 : Int))) ∧ True ∧ y = y ∧ sm (decide (y < (-1048576 : Int))) ∧ sm (decide
    (y < (-1048576 : Int))) ∧ True ∧ y = y ∧ sm (decide (y > (1048576 : Int))) ∧ True ∧ True ∧ True ∧ True ∧ True ∧ True ∧ True ∧ True ∧ True ∧ True ∧ True ∧ True ∧
    True ∧ True ∧ True ∧ True ∧ True ∧ True ∧ True ∧ True ∧ True ∧ True ∧ True ∧ True ∧ True ∧ True ∧ True ∧ True ∧ True ∧ True ∧ True ∧ True ∧ True ∧ True ∧ True ∧
    True) ∧ ((if false = true then [] else List.map Seg.shape [Seg.a (16 : Nat) (1 : Nat) fun j => [SV.int IntKind.u64 (f.low.getD j (0 : Int))], Seg.a (16 : Nat) (1
    : Nat) fun j => [SV.int IntKind.u64 (f.high.getD j (0 : Int))]]) = if false = true then [] else List.map Seg.shape [Seg.a (16 : Nat) (1 : Nat) fun j => [SV.int IntKind.u64
    (f.low.getD j (0 : Int))], Seg.a (16 : Nat) (1 : Nat) fun j => [SV.int IntKind.u64 (f.high.getD j (0 : Int))]]) ∧ ((sm ((16 : Nat)) ∧ (1 : Nat) = (codI IntKind.u64).n
    ∧ ∀ (i : Nat), i < (16 : Nat) → f.low.getD i (0 : Int) = (rr f.low).getD i (codI IntKind.u64).dft ∧ True) ∧ (sm ((16 : Nat)) ∧ (1 : Nat) = (codI IntKind.u64).n ∧
    ∀ (i : Nat), i < (16 : Nat) → f.high.getD i (0 : Int) = (rr f.high).getD i (codI IntKind.u64).dft ∧ True) ∧ True) ∧ ((if false = true then [] else List.map Seg.shape
    ([Seg.a (16 : Nat) (1 : Nat) fun x => [SV.int IntKind.u64 (0 : Int)]] ++ ([Seg.a (16 : Nat) (1 : Nat) fun x => [SV.int IntKind.u64 (0 : Int)]] ++ []))) = if false
    = true then [] else List.map Seg.shape ([Seg.a (16 : Nat) (1 : Nat) fun x => [SV.int IntKind.u64 (0 : Int)]] ++ ([Seg.a (16 : Nat) (1 : Nat) fun x => [SV.int IntKind.u64
    (0 : Int)]] ++ []))) ∧ ((sm ((16 : Nat)) ∧ sm ((1 : Nat)) ∧ ∀ (i : Nat), i < (16 : Nat) → sm ((0 : Int)) ∧ True) ∧ (sm ((16 : Nat)) ∧ sm ((1 : Nat)) ∧ ∀ (i : Nat),
    i < (16 : Nat) → sm ((0 : Int)) ∧ True) ∧ True) ∧ True) ∧ ∀ (n_1 : Int) (l l_1 : List Int), (0 : Int) ≤ n_1 ∧ n_1 ≤ ↑s.length ∧ TxtI (P0 n_1) f x y s n l l_1 → True
    ∧ (decide (n_1 < ↑s.length) = true → True ∧ (((0 : Int) ≤ (0 : Int) ∧ (0 : Int) ≤ (5 : Int) ∧ TxtI (Q1 n_1 (0 : Int)) f x y s n (rowL (codI IntKind.u64) (16 : Nat)
    fun j => (codI IntKind.u64).enc (l.getD j (codI IntKind.u64).dft)) (rowL (codI IntKind.u64) (16 : Nat) fun j => (codI IntKind.u64).enc (l_1.getD j (codI IntKind.u64).dft)))
    ∧ (((sm ((16 : Nat)) ∧ sm ((1 : Nat)) ∧ ∀ (i : Nat), i < (16 : Nat) → sm (f.low.getD i (0 : Int)) ∧ True) ∧ (sm ((16 : Nat)) ∧ sm ((1 : Nat)) ∧ ∀ (i : Nat), i <
    (16 : Nat) → sm (f.high.getD i (0 : Int)) ∧ True) ∧ True) ∧ x = x ∧ y = y ∧ s = s ∧ n = n ∧ True ∧ True ∧ True ∧ True ∧ True ∧ True ∧ n_1 = n_1 ∧ sm ((0 : Int))
    ∧ True ∧ s = s ∧ Eq (α := Int) ↑s.length ↑s.length ∧ sm (decide (↑s.length > (20000 : Int))) ∧ True ∧ x = x ∧ sm (decide (x < (-1048576 : Int))) ∧ sm (decide (x
    < (-1048576 : Int))) ∧ True ∧ x = x ∧ sm (decide (x > (1048576 : Int))) ∧ sm (decide (x > (1048576 : Int))) ∧ True ∧ y = y ∧ sm (decide (y < (-1048576 : Int))) ∧
    sm (decide (y < (-1048576 : Int))) ∧ True ∧ y = y ∧ sm (decide (y > (1048576 : Int))) ∧ True ∧ True ∧ n_1 = n_1 ∧ s = s ∧ Eq (α := Int) ↑s.length ↑s.length ∧ True
    ∧ True ∧ True ∧ True ∧ True ∧ True ∧ True ∧ True ∧ True ∧ True ∧ True ∧ True ∧ True ∧ True ∧ True ∧ True ∧ True ∧ True ∧ True ∧ True ∧ True ∧ True ∧ True ∧ True
    ∧ True ∧ True ∧ True ∧ True ∧ True ∧ True ∧ True) ∧ ((if false = true then [] else List.map Seg.shape [Seg.a (16 : Nat) (1 : Nat) fun j => [SV.int IntKind.u64 (f.low.getD
    j (0 : Int))], Seg.a (16 : Nat) (1 : Nat) fun j => [SV.int IntKind.u64 (f.high.getD j (0 : Int))]]) = if false = true then [] else List.map Seg.shape [Seg.a (16
    : Nat) (1 : Nat) fun j => [SV.int IntKind.u64 (f.low.getD j (0 : Int))], Seg.a (16 : Nat) (1 : Nat) fun j => [SV.int IntKind.u64 (f.high.getD j (0 : Int))]]) ∧ ((sm
    ((16 : Nat)) ∧ sm ((codI IntKind.u64).n) ∧ ∀ (i : Nat), i < (16 : Nat) → l.getD i (codI IntKind.u64).dft = (rowL (codI IntKind.u64) (16 : Nat) fun j => (codI IntKind.u64).enc
    (l.getD j (codI IntKind.u64).dft)).getD i (codI IntKind.u64).dft ∧ True) ∧ (sm ((16 : Nat)) ∧ sm ((codI IntKind.u64).n) ∧ ∀ (i : Nat), i < (16 : Nat) → l_1.getD
    i (codI IntKind.u64).dft = (rowL (codI IntKind.u64) (16 : Nat) fun j => (codI IntKind.u64).enc (l_1.getD j (codI IntKind.u64).dft)).getD i (codI IntKind.u64).dft
    ∧ True) ∧ True) ∧ ((if false = true then [] else List.map Seg.shape ([Seg.a (16 : Nat) (1 : Nat) fun x => [SV.int IntKind.u64 (0 : Int)]] ++ ([Seg.a (16 : Nat) (1
    : Nat) fun x => [SV.int IntKind.u64 (0 : Int)]] ++ []))) = if false = true then [] else List.map Seg.shape ([Seg.a (16 : Nat) (1 : Nat) fun x => [SV.int IntKind.u64
    (0 : Int)]] ++ ([Seg.a (16 : Nat) (1 : Nat) fun x => [SV.int IntKind.u64 (0 : Int)]] ++ []))) ∧ ((sm ((16 : Nat)) ∧ sm ((1 : Nat)) ∧ ∀ (i : Nat), i < (16 : Nat)
    → sm ((0 : Int)) ∧ True) ∧ (sm ((16 : Nat)) ∧ sm ((1 : Nat)) ∧ ∀ (i : Nat), i < (16 : Nat) → sm ((0 : Int)) ∧ True) ∧ True) ∧ True) ∧ ∀ (n_2 : Int) (l l_2 : List
    Int), (0 : Int) ≤ n_2 ∧ n_2 ≤ (5 : Int) ∧ TxtI (Q1 n_1 n_2) f x y s n l l_2 → True ∧ (decide (n_2 < (5 : Int)) = true → True ∧ (((0 : Int) ≤ (0 : Int) ∧ (0 : Int)
    ≤ (7 : Int) ∧ TxtI (Q2 n_1 n_2 (0 : Int)) f x y s n (rowL (codI IntKind.u64) (16 : Nat) fun j => (codI IntKind.u64).enc (l.getD j (codI IntKind.u64).dft)) (rowL
    (codI IntKind.u64) (16 : Nat) fun j => (codI IntKind.u64).enc (l_2.getD j (codI IntKind.u64).dft))) ∧ (((sm ((16 : Nat)) ∧ sm ((1 : Nat)) ∧ ∀ (i : Nat), i < (16
    : Nat) → sm (f.low.getD i (0 : Int)) ∧ True) ∧ (sm ((16 : Nat)) ∧ sm ((1 : Nat)) ∧ ∀ (i : Nat), i < (16 : Nat) → sm (f.high.getD i (0 : Int)) ∧ True) ∧ True) ∧ x
    = x ∧ y = y ∧ s = s ∧ n = n ∧ True ∧ True ∧ True ∧ True ∧ True ∧ True ∧ n_1 = n_1 ∧ n_2 = n_2 ∧ sm ((0 : Int)) ∧ s = s ∧ Eq (α := Int) ↑s.length ↑s.length ∧ sm (decide
    (↑s.length > (20000 : Int))) ∧ True ∧ x = x ∧ sm (decide (x < (-1048576 : Int))) ∧ sm (decide (x < (-1048576 : Int))) ∧ True ∧ x = x ∧ sm (decide (x > (1048576 :
    Int))) ∧ sm (decide (x > (1048576 : Int))) ∧ True ∧ y = y ∧ sm (decide (y < (-1048576 : Int))) ∧ sm (decide (y < (-1048576 : Int))) ∧ True ∧ y = y ∧ sm (decide (y
    > (1048576 : Int))) ∧ True ∧ True ∧ n_1 = n_1 ∧ s = s ∧ Eq (α := Int) ↑s.length ↑s.length ∧ True ∧ True ∧ True ∧ n_2 = n_2 ∧ True ∧ True ∧ True ∧ True ∧ True ∧ True
    ∧ True ∧ True ∧ True ∧ True ∧ True ∧ True ∧ True ∧ True ∧ True ∧ True ∧ True ∧ True ∧ True ∧ True ∧ True ∧ True ∧ True ∧ True ∧ True ∧ True ∧ True) ∧ ((if false
    = true then [] else List.map Seg.shape [Seg.a (16 : Nat) (1 : Nat) fun j => [SV.int IntKind.u64 (f.low.getD j (0 : Int))], Seg.a (16 : Nat) (1 : Nat) fun j => [SV.int
    IntKind.u64 (f.high.getD j (0 : Int))]]) = if false = true then [] else List.map Seg.shape [Seg.a (16 : Nat) (1 : Nat) fun j => [SV.int IntKind.u64 (f.low.getD j
    (0 : Int))], Seg.a (16 : Nat) (1 : Nat) fun j => [SV.int IntKind.u64 (f.high.getD j (0 : Int))]]) ∧ ((sm ((16 : Nat)) ∧ sm ((codI IntKind.u64).n) ∧ ∀ (i : Nat),
    i < (16 : Nat) → l.getD i (codI IntKind.u64).dft = (rowL (codI IntKind.u64) (16 : Nat) fun j => (codI IntKind.u64).enc (l.getD j (codI IntKind.u64).dft)).getD i
    (codI IntKind.u64).dft ∧ True) ∧ (sm ((16 : Nat)) ∧ sm ((codI IntKind.u64).n) ∧ ∀ (i : Nat), i < (16 : Nat) → l_2.getD i (codI IntKind.u64).dft = (rowL (codI IntKind.u64)
    (16 : Nat) fun j => (codI IntKind.u64).enc (l_2.getD j (codI IntKind.u64).dft)).getD i (codI IntKind.u64).dft ∧ True) ∧ True) ∧ ((if false = true then [] else List.map
    Seg.shape ([Seg.a (16 : Nat) (1 : Nat) fun x => [SV.int IntKind.u64 (0 : Int)]] ++ ([Seg.a (16 : Nat) (1 : Nat) fun x => [SV.int IntKind.u64 (0 : Int)]] ++ [])))
    = if false = true then [] else List.map Seg.shape ([Seg.a (16 : Nat) (1 : Nat) fun x => [SV.int IntKind.u64 (0 : Int)]] ++ ([Seg.a (16 : Nat) (1 : Nat) fun x =>
    [SV.int IntKind.u64 (0 : Int)]] ++ []))) ∧ ((sm ((16 : Nat)) ∧ sm ((1 : Nat)) ∧ ∀ (i : Nat), i < (16 : Nat) → sm ((0 : Int)) ∧ True) ∧ (sm ((16 : Nat)) ∧ sm ((1
    : Nat)) ∧ ∀ (i : Nat), i < (16 : Nat) → sm ((0 : Int)) ∧ True) ∧ True) ∧ True) ∧ ∀ (n_3 : Int) (l l_3 : List Int), (0 : Int) ≤ n_3 ∧ n_3 ≤ (7 : Int) ∧ TxtI (Q2 n_1
    n_2 n_3) f x y s n l l_3 → True ∧ (decide (n_3 < (7 : Int)) = true → ((0 : Int) ≤ n_1 ∧ n_1 < ↑s.length) ∧ True ∧ True ∧ True ∧ ((True ∧ True ∧ True) ∧ (0 : Int)
    ≤ ↑(s.getD n_1.toNat (0 : UInt8)).toNat ∧ ↑(s.getD n_1.toNat (0 : UInt8)).toNat < (256 : Int) ∧ (0 : Int) ≤ n_2 ∧ n_2 < (5 : Int) ∧ (0 : Int) ≤ n_3 ∧ n_3 < (7 :
    Int)) ∧ True ∧ (litS (↑(s.getD n_1.toNat (0 : UInt8)).toNat) n_2 n_3 = true → (t16 ∧ t16 ∧ True) ∧ True ∧ True ∧ True ∧ ((((∀ (i : Nat), i < (16 : Nat) → true =
    true ∧ True) ∧ ∀ (i : Nat), i < (16 : Nat) → true = true ∧ True) ∧ True ∧ True ∧ True) ∧ okF { low := rowL (codI IntKind.u64) (16 : Nat) fun j => (codI IntKind.u64).enc (l.getD j (codI IntKind.u64).dft), high := rowL (codI IntKind.u64) (16 : Nat) fun j => (codI IntKind.u64).enc (l_3.getD j (codI IntKind.u64).dft) : Fr })
    ∧ t16 ∧ t16 ∧ True ∧ True ∧ ((0 : Int) ≤ W (n_3 + (1 : Int)) ∧ W (n_3 + (1 : Int)) ≤ (7 : Int) ∧ TxtI (Q2 n_1 n_2 (W (n_3 + (1 : Int)))) f x y s n (rr (setS { low := rowL (codI IntKind.u64) (16 : Nat) fun j => (codI IntKind.u64).enc (l.getD j (codI IntKind.u64).dft), high := rowL (codI IntKind.u64) (16 : Nat) fun j => (codI IntKind.u64).enc (l_3.getD j (codI IntKind.u64).dft) : Fr }
    (W (W (x + W ((6 : Int) * n_1)) + n_2)) (W (y + n_3)) n).low) (rr (setS { low := rowL (codI IntKind.u64) (16 : Nat) fun j => (codI IntKind.u64).enc (l.getD j (codI IntKind.u64).dft), high := rowL (codI IntKind.u64) (16 : Nat) fun j => (codI IntKind.u64).enc (l_3.getD j (codI IntKind.u64).dft) : Fr }
    (W (W (x + W ((6 : Int) * n_1)) + n_2)) (W (y + n_3)) n).high)) ∧ ((7 : Int) - W (n_3 + (1 : Int))).toNat < ((7 : Int) - n_3).toNat ∧ (((sm ((16 : Nat)) ∧ sm ((1
    : Nat)) ∧ ∀ (i : Nat), i < (16 : Nat) → sm (f.low.getD i (0 : Int)) ∧ True) ∧ (sm ((16 : Nat)) ∧ sm ((1 : Nat)) ∧ ∀ (i : Nat), i < (16 : Nat) → sm (f.high.getD i
    (0 : Int)) ∧ True) ∧ True) ∧ x = x ∧ y = y ∧ s = s ∧ n = n ∧ True ∧ True ∧ True ∧ True ∧ True ∧ True ∧ n_1 = n_1 ∧ n_2 = n_2 ∧ sm (W (n_3 + (1 : Int))) ∧ s = s ∧
    Eq (α := Int) ↑s.length ↑s.length ∧ sm (decide (↑s.length > (20000 : Int))) ∧ True ∧ x = x ∧ sm (decide (x < (-1048576 : Int))) ∧ sm (decide (x < (-1048576 : Int)))
    ∧ True ∧ x = x ∧ sm (decide (x > (1048576 : Int))) ∧ sm (decide (x > (1048576 : Int))) ∧ True ∧ y = y ∧ sm (decide (y < (-1048576 : Int))) ∧ sm (decide (y < (-1048576
    : Int))) ∧ True ∧ y = y ∧ sm (decide (y > (1048576 : Int))) ∧ True ∧ True ∧ n_1 = n_1 ∧ s = s ∧ Eq (α := Int) ↑s.length ↑s.length ∧ True ∧ True ∧ True ∧ n_2 = n_2
    ∧ True ∧ True ∧ True ∧ True ∧ True ∧ True ∧ True ∧ True ∧ True ∧ True ∧ True ∧ True ∧ True ∧ True ∧ True ∧ True ∧ True ∧ True ∧ True ∧ True ∧ True ∧ True ∧ True
    ∧ True ∧ True ∧ True ∧ True) ∧ ((if false = true then [] else List.map Seg.shape [Seg.a (16 : Nat) (1 : Nat) fun j => [SV.int IntKind.u64 (f.low.getD j (0 : Int))],
    Seg.a (16 : Nat) (1 : Nat) fun j => [SV.int IntKind.u64 (f.high.getD j (0 : Int))]]) = if false = true then [] else List.map Seg.shape [Seg.a (16 : Nat) (1 : Nat)
    fun j => [SV.int IntKind.u64 (f.low.getD j (0 : Int))], Seg.a (16 : Nat) (1 : Nat) fun j => [SV.int IntKind.u64 (f.high.getD j (0 : Int))]]) ∧ ((sm ((16 : Nat))
    ∧ (1 : Nat) = (codI IntKind.u64).n ∧ ∀ (i : Nat), i < (16 : Nat) → (setS { low := rowL (codI IntKind.u64) (16 : Nat) fun j => (codI IntKind.u64).enc (l.getD j (codI IntKind.u64).dft), high := rowL (codI IntKind.u64) (16 : Nat) fun j => (codI IntKind.u64).enc (l_3.getD j (codI IntKind.u64).dft) : Fr }
    (W (W (x + W ((6 : Int) * n_1)) + n_2)) (W (y + n_3)) n).low.getD i (0 : Int) = (rr (setS { low := rowL (codI IntKind.u64) (16 : Nat) fun j => (codI IntKind.u64).enc (l.getD j (codI IntKind.u64).dft), high := rowL (codI IntKind.u64) (16 : Nat) fun j => (codI IntKind.u64).enc (l_3.getD j (codI IntKind.u64).dft) : Fr }
    (W (W (x + W ((6 : Int) * n_1)) + n_2)) (W (y + n_3)) n).low).getD i (codI IntKind.u64).dft ∧ True) ∧ (sm ((16 : Nat)) ∧ (1 : Nat) = (codI IntKind.u64).n ∧ ∀ (i
    : Nat), i < (16 : Nat) → (setS { low := rowL (codI IntKind.u64) (16 : Nat) fun j => (codI IntKind.u64).enc (l.getD j (codI IntKind.u64).dft), high := rowL (codI IntKind.u64) (16 : Nat) fun j => (codI IntKind.u64).enc (l_3.getD j (codI IntKind.u64).dft) : Fr }
    (W (W (x + W ((6 : Int) * n_1)) + n_2)) (W (y + n_3)) n).high.getD i (0 : Int) = (rr (setS { low := rowL (codI IntKind.u64) (16 : Nat) fun j => (codI IntKind.u64).enc (l.getD j (codI IntKind.u64).dft), high := rowL (codI IntKind.u64) (16 : Nat) fun j => (codI IntKind.u64).enc (l_3.getD j (codI IntKind.u64).dft) : Fr }
    (W (W (x + W ((6 : Int) * n_1)) + n_2)) (W (y + n_3)) n).high).getD i (codI IntKind.u64).dft ∧ True) ∧ True) ∧ ((if false = true then [] else List.map Seg.shape
    ([Seg.a (16 : Nat) (1 : Nat) fun x => [SV.int IntKind.u64 (0 : Int)]] ++ ([Seg.a (16 : Nat) (1 : Nat) fun x => [SV.int IntKind.u64 (0 : Int)]] ++ []))) = if false
    = true then [] else List.map Seg.shape ([Seg.a (16 : Nat) (1 : Nat) fun x => [SV.int IntKind.u64 (0 : Int)]] ++ ([Seg.a (16 : Nat) (1 : Nat) fun x => [SV.int IntKind.u64
    (0 : Int)]] ++ []))) ∧ ((sm ((16 : Nat)) ∧ sm ((1 : Nat)) ∧ ∀ (i : Nat), i < (16 : Nat) → sm ((0 : Int)) ∧ True) ∧ (sm ((16 : Nat)) ∧ sm ((1 : Nat)) ∧ ∀ (i : Nat),
    i < (16 : Nat) → sm ((0 : Int)) ∧ True) ∧ True) ∧ True) ∧ (litS (↑(s.getD n_1.toNat (0 : UInt8)).toNat) n_2 n_3 = false → True ∧ ((0 : Int) ≤ W (n_3 + (1 : Int))
    ∧ W (n_3 + (1 : Int)) ≤ (7 : Int) ∧ TxtI (Q2 n_1 n_2 (W (n_3 + (1 : Int)))) f x y s n (rowL (codI IntKind.u64) (16 : Nat) fun j => (codI IntKind.u64).enc (l.getD
    j (codI IntKind.u64).dft)) (rowL (codI IntKind.u64) (16 : Nat) fun j => (codI IntKind.u64).enc (l_3.getD j (codI IntKind.u64).dft))) ∧ ((7 : Int) - W (n_3 + (1 :
    Int))).toNat < ((7 : Int) - n_3).toNat ∧ (((sm ((16 : Nat)) ∧ sm ((1 : Nat)) ∧ ∀ (i : Nat), i < (16 : Nat) → sm (f.low.getD i (0 : Int)) ∧ True) ∧ (sm ((16 : Nat))
    ∧ sm ((1 : Nat)) ∧ ∀ (i : Nat), i < (16 : Nat) → sm (f.high.getD i (0 : Int)) ∧ True) ∧ True) ∧ x = x ∧ y = y ∧ s = s ∧ n = n ∧ True ∧ True ∧ True ∧ True ∧ True
    ∧ True ∧ n_1 = n_1 ∧ n_2 = n_2 ∧ sm (W (n_3 + (1 : Int))) ∧ s = s ∧ Eq (α := Int) ↑s.length ↑s.length ∧ sm (decide (↑s.length > (20000 : Int))) ∧ True ∧ x = x ∧
    sm (decide (x < (-1048576 : Int))) ∧ sm (decide (x < (-1048576 : Int))) ∧ True ∧ x = x ∧ sm (decide (x > (1048576 : Int))) ∧ sm (decide (x > (1048576 : Int))) ∧
    True ∧ y = y ∧ sm (decide (y < (-1048576 : Int))) ∧ sm (decide (y < (-1048576 : Int))) ∧ True ∧ y = y ∧ sm (decide (y > (1048576 : Int))) ∧ True ∧ True ∧ n_1 = n_1
    ∧ s = s ∧ Eq (α := Int) ↑s.length ↑s.length ∧ True ∧ True ∧ True ∧ n_2 = n_2 ∧ True ∧ True ∧ True ∧ True ∧ True ∧ True ∧ True ∧ True ∧ True ∧ True ∧ True ∧ True
    ∧ True ∧ True ∧ True ∧ True ∧ True ∧ True ∧ True ∧ True ∧ True ∧ True ∧ True ∧ True ∧ True ∧ True ∧ True) ∧ ((if false = true then [] else List.map Seg.shape [Seg.a
    (16 : Nat) (1 : Nat) fun j => [SV.int IntKind.u64 (f.low.getD j (0 : Int))], Seg.a (16 : Nat) (1 : Nat) fun j => [SV.int IntKind.u64 (f.high.getD j (0 : Int))]])
    = if false = true then [] else List.map Seg.shape [Seg.a (16 : Nat) (1 : Nat) fun j => [SV.int IntKind.u64 (f.low.getD j (0 : Int))], Seg.a (16 : Nat) (1 : Nat)
    fun j => [SV.int IntKind.u64 (f.high.getD j (0 : Int))]]) ∧ ((sm ((16 : Nat)) ∧ sm ((codI IntKind.u64).n) ∧ ∀ (i : Nat), i < (16 : Nat) → l.getD i (codI IntKind.u64).dft
    = (rowL (codI IntKind.u64) (16 : Nat) fun j => (codI IntKind.u64).enc (l.getD j (codI IntKind.u64).dft)).getD i (codI IntKind.u64).dft ∧ True) ∧ (sm ((16 : Nat))
    ∧ sm ((codI IntKind.u64).n) ∧ ∀ (i : Nat), i < (16 : Nat) → l_3.getD i (codI IntKind.u64).dft = (rowL (codI IntKind.u64) (16 : Nat) fun j => (codI IntKind.u64).enc
    (l_3.getD j (codI IntKind.u64).dft)).getD i (codI IntKind.u64).dft ∧ True) ∧ True) ∧ ((if false = true then [] else List.map Seg.shape ([Seg.a (16 : Nat) (1 : Nat)
    fun x => [SV.int IntKind.u64 (0 : Int)]] ++ ([Seg.a (16 : Nat) (1 : Nat) fun x => [SV.int IntKind.u64 (0 : Int)]] ++ []))) = if false = true then [] else List.map
    Seg.shape ([Seg.a (16 : Nat) (1 : Nat) fun x => [SV.int IntKind.u64 (0 : Int)]] ++ ([Seg.a (16 : Nat) (1 : Nat) fun x => [SV.int IntKind.u64 (0 : Int)]] ++ [])))
    ∧ ((sm ((16 : Nat)) ∧ sm ((1 : Nat)) ∧ ∀ (i : Nat), i < (16 : Nat) → sm ((0 : Int)) ∧ True) ∧ (sm ((16 : Nat)) ∧ sm ((1 : Nat)) ∧ ∀ (i : Nat), i < (16 : Nat) → sm
    ((0 : Int)) ∧ True) ∧ True) ∧ True)) ∧ (decide (n_3 < (7 : Int)) = false → True ∧ ((0 : Int) ≤ W (n_2 + (1 : Int)) ∧ W (n_2 + (1 : Int)) ≤ (5 : Int) ∧ TxtI (Q1 n_1
    (W (n_2 + (1 : Int)))) f x y s n (rowL (codI IntKind.u64) (16 : Nat) fun j => (codI IntKind.u64).enc (l.getD j (codI IntKind.u64).dft)) (rowL (codI IntKind.u64)
    (16 : Nat) fun j => (codI IntKind.u64).enc (l_3.getD j (codI IntKind.u64).dft))) ∧ ((5 : Int) - W (n_2 + (1 : Int))).toNat < ((5 : Int) - n_2).toNat ∧ (((sm ((16
    : Nat)) ∧ sm ((1 : Nat)) ∧ ∀ (i : Nat), i < (16 : Nat) → sm (f.low.getD i (0 : Int)) ∧ True) ∧ (sm ((16 : Nat)) ∧ sm ((1 : Nat)) ∧ ∀ (i : Nat), i < (16 : Nat) →
    sm (f.high.getD i (0 : Int)) ∧ True) ∧ True) ∧ x = x ∧ y = y ∧ s = s ∧ n = n ∧ True ∧ True ∧ True ∧ True ∧ True ∧ True ∧ n_1 = n_1 ∧ sm (W (n_2 + (1 : Int))) ∧ True
    ∧ s = s ∧ Eq (α := Int) ↑s.length ↑s.length ∧ sm (decide (↑s.length > (20000 : Int))) ∧ True ∧ x = x ∧ sm (decide (x < (-1048576 : Int))) ∧ sm (decide (x < (-1048576
    : Int))) ∧ True ∧ x = x ∧ sm (decide (x > (1048576 : Int))) ∧ sm (decide (x > (1048576 : Int))) ∧ True ∧ y = y ∧ sm (decide (y < (-1048576 : Int))) ∧ sm (decide
    (y < (-1048576 : Int))) ∧ True ∧ y = y ∧ sm (decide (y > (1048576 : Int))) ∧ True ∧ True ∧ n_1 = n_1 ∧ s = s ∧ Eq (α := Int) ↑s.length ↑s.length ∧ True ∧ True ∧
    True ∧ True ∧ True ∧ True ∧ True ∧ True ∧ True ∧ True ∧ True ∧ True ∧ True ∧ True ∧ True ∧ True ∧ True ∧ True ∧ True ∧ True ∧ True ∧ True ∧ True ∧ True ∧ True ∧
    True ∧ True ∧ True ∧ True ∧ True ∧ True) ∧ ((if false = true then [] else List.map Seg.shape [Seg.a (16 : Nat) (1 : Nat) fun j => [SV.int IntKind.u64 (f.low.getD
    j (0 : Int))], Seg.a (16 : Nat) (1 : Nat) fun j => [SV.int IntKind.u64 (f.high.getD j (0 : Int))]]) = if false = true then [] else List.map Seg.shape [Seg.a (16
    : Nat) (1 : Nat) fun j => [SV.int IntKind.u64 (f.low.getD j (0 : Int))], Seg.a (16 : Nat) (1 : Nat) fun j => [SV.int IntKind.u64 (f.high.getD j (0 : Int))]]) ∧ ((sm
    ((16 : Nat)) ∧ sm ((codI IntKind.u64).n) ∧ ∀ (i : Nat), i < (16 : Nat) → l.getD i (codI IntKind.u64).dft = (rowL (codI IntKind.u64) (16 : Nat) fun j => (codI IntKind.u64).enc
    (l.getD j (codI IntKind.u64).dft)).getD i (codI IntKind.u64).dft ∧ True) ∧ (sm ((16 : Nat)) ∧ sm ((codI IntKind.u64).n) ∧ ∀ (i : Nat), i < (16 : Nat) → l_3.getD
    i (codI IntKind.u64).dft = (rowL (codI IntKind.u64) (16 : Nat) fun j => (codI IntKind.u64).enc (l_3.getD j (codI IntKind.u64).dft)).getD i (codI IntKind.u64).dft
    ∧ True) ∧ True) ∧ ((if false = true then [] else List.map Seg.shape ([Seg.a (16 : Nat) (1 : Nat) fun x => [SV.int IntKind.u64 (0 : Int)]] ++ ([Seg.a (16 : Nat) (1
    : Nat) fun x => [SV.int IntKind.u64 (0 : Int)]] ++ []))) = if false = true then [] else List.map Seg.shape ([Seg.a (16 : Nat) (1 : Nat) fun x => [SV.int IntKind.u64
    (0 : Int)]] ++ ([Seg.a (16 : Nat) (1 : Nat) fun x => [SV.int IntKind.u64 (0 : Int)]] ++ []))) ∧ ((sm ((16 : Nat)) ∧ sm ((1 : Nat)) ∧ ∀ (i : Nat), i < (16 : Nat)
    → sm ((0 : Int)) ∧ True) ∧ (sm ((16 : Nat)) ∧ sm ((1 : Nat)) ∧ ∀ (i : Nat), i < (16 : Nat) → sm ((0 : Int)) ∧ True) ∧ True) ∧ True)) ∧ (decide (n_2 < (5 : Int))
    = false → True ∧ ((0 : Int) ≤ W (n_1 + (1 : Int)) ∧ W (n_1 + (1 : Int)) ≤ ↑s.length ∧ TxtI (P0 (W (n_1 + (1 : Int)))) f x y s n (rowL (codI IntKind.u64) (16 : Nat)
    fun j => (codI IntKind.u64).enc (l.getD j (codI IntKind.u64).dft)) (rowL (codI IntKind.u64) (16 : Nat) fun j => (codI IntKind.u64).enc (l_2.getD j (codI IntKind.u64).dft)))
    ∧ (↑s.length - W (n_1 + (1 : Int))).toNat < (↑s.length - n_1).toNat ∧ (((sm ((16 : Nat)) ∧ sm ((1 : Nat)) ∧ ∀ (i : Nat), i < (16 : Nat) → sm (f.low.getD i (0 : Int))
    ∧ True) ∧ (sm ((16 : Nat)) ∧ sm ((1 : Nat)) ∧ ∀ (i : Nat), i < (16 : Nat) → sm (f.high.getD i (0 : Int)) ∧ True) ∧ True) ∧ x = x ∧ y = y ∧ s = s ∧ n = n ∧ True ∧
    True ∧ True ∧ True ∧ True ∧ True ∧ sm (W (n_1 + (1 : Int))) ∧ True ∧ True ∧ s = s ∧ Eq (α := Int) ↑s.length ↑s.length ∧ sm (decide (↑s.length > (20000 : Int))) ∧
    True ∧ x = x ∧ sm (decide (x < (-1048576 : Int))) ∧ sm (decide (x < (-1048576 : Int))) ∧ True ∧ x = x ∧ sm (decide (x > (1048576 : Int))) ∧ sm (decide (x > (1048576
    : Int))) ∧ True ∧ y = y ∧ sm (decide (y < (-1048576 : Int))) ∧ sm (decide (y < (-1048576 : Int))) ∧ True ∧ y = y ∧ sm (decide (y > (1048576 : Int))) ∧ True ∧ True
    ∧ True ∧ True ∧ True ∧ True ∧ True ∧ True ∧ True ∧ True ∧ True ∧ True ∧ True ∧ True ∧ True ∧ True ∧ True ∧ True ∧ True ∧ True ∧ True ∧ True ∧ True ∧ True ∧ True
    ∧ True ∧ True ∧ True ∧ True ∧ True ∧ True ∧ True ∧ True ∧ True ∧ True ∧ True) ∧ ((if false = true then [] else List.map Seg.shape [Seg.a (16 : Nat) (1 : Nat) fun
    j => [SV.int IntKind.u64 (f.low.getD j (0 : Int))], Seg.a (16 : Nat) (1 : Nat) fun j => [SV.int IntKind.u64 (f.high.getD j (0 : Int))]]) = if false = true then []
    else List.map Seg.shape [Seg.a (16 : Nat) (1 : Nat) fun j => [SV.int IntKind.u64 (f.low.getD j (0 : Int))], Seg.a (16 : Nat) (1 : Nat) fun j => [SV.int IntKind.u64
    (f.high.getD j (0 : Int))]]) ∧ ((sm ((16 : Nat)) ∧ sm ((codI IntKind.u64).n) ∧ ∀ (i : Nat), i < (16 : Nat) → l.getD i (codI IntKind.u64).dft = (rowL (codI IntKind.u64)
    (16 : Nat) fun j => (codI IntKind.u64).enc (l.getD j (codI IntKind.u64).dft)).getD i (codI IntKind.u64).dft ∧ True) ∧ (sm ((16 : Nat)) ∧ sm ((codI IntKind.u64).n)
    ∧ ∀ (i : Nat), i < (16 : Nat) → l_2.getD i (codI IntKind.u64).dft = (rowL (codI IntKind.u64) (16 : Nat) fun j => (codI IntKind.u64).enc (l_2.getD j (codI IntKind.u64).dft)).getD
    i (codI IntKind.u64).dft ∧ True) ∧ True) ∧ ((if false = true then [] else List.map Seg.shape ([Seg.a (16 : Nat) (1 : Nat) fun x => [SV.int IntKind.u64 (0 : Int)]]
    ++ ([Seg.a (16 : Nat) (1 : Nat) fun x => [SV.int IntKind.u64 (0 : Int)]] ++ []))) = if false = true then [] else List.map Seg.shape ([Seg.a (16 : Nat) (1 : Nat)
    fun x => [SV.int IntKind.u64 (0 : Int)]] ++ ([Seg.a (16 : Nat) (1 : Nat) fun x => [SV.int IntKind.u64 (0 : Int)]] ++ []))) ∧ ((sm ((16 : Nat)) ∧ sm ((1 : Nat)) ∧
    ∀ (i : Nat), i < (16 : Nat) → sm ((0 : Int)) ∧ True) ∧ (sm ((16 : Nat)) ∧ sm ((1 : Nat)) ∧ ∀ (i : Nat), i < (16 : Nat) → sm ((0 : Int)) ∧ True) ∧ True) ∧ True))
    ∧ (decide (n_1 < ↑s.length) = false → t16 ∧ t16 ∧ True ∧ (t16 ∧ t16 ∧ True) ∧ ((sm ((16 : Nat)) ∧ (0 : Nat) + (1 : Nat) = (1 : Nat) ∧ ∀ (i : Nat), i < (16 : Nat)
    → l.getD i (codI IntKind.u64).dft = (textS f x y s n).low.getD i (0 : Int) ∧ True) ∧ (sm ((16 : Nat)) ∧ (0 : Nat) + (1 : Nat) = (1 : Nat) ∧ ∀ (i : Nat), i < (16
    : Nat) → l_1.getD i (codI IntKind.u64).dft = (textS f x y s n).high.getD i (0 : Int) ∧ True) ∧ True) ∧ True))))))) = vc18 f x y s n := by kernel_rfl
theorem k19 : TabOK Try.prog T19 := fn_tabA k32 hm Try.func19 (by kernel_rfl) (by kernel_rfl) sS.ok (by kernel_rfl) (fun _ => []) fun s hp => by
  have h : vc19 s := by
    rw [← vc19_eq]
    simp [-List.getD_eq_getElem?_getD, W_def]
    have h1 : W (6 * (s.length : Int)) = 6 * s.length := W_id (by omega) (by omega)
    have h2 : W (6 * (s.length : Int) - 1) = 6 * s.length - 1 := W_id (by omega) (by omega)
    rw [h1, h2]
    simp only [widthS]; split <;> omega
  exact h
theorem k20 : TabOK Try.prog T20 := fn_tabA k19 hm Try.func20 (by kernel_rfl) (by kernel_rfl) sS.ok (by kernel_rfl) (fun _ => []) fun s hp => by
  have h : vc20 s := by
    rw [← vc20_eq]
    simp [-List.getD_eq_getElem?_getD, W_def]
    have h1 : W (6 * (s.length : Int)) = 6 * s.length := W_id (by omega) (by omega)
    have h2 : W (6 * (s.length : Int) - 1) = 6 * s.length - 1 := W_id (by omega) (by omega)
    rw [h1, h2]
    simp only [widthS]; split <;> omega
  exact h
theorem wrap_u8 {n : Int} (h : 0 ≤ n) (h2 : n < 256) : IntKind.u8.wrap n = n := by
  simp [IntKind.wrap, IntKind.bits, IntKind.signed]; omega
theorem chS_bd (c : Int) : 32 ≤ chS c ∧ chS c ≤ 90 := by simp only [chS]; split <;> split <;> omega
theorem gl_core {c r i : Int} (h2 : 0 ≤ r) (h3 : r < 7) (e : i = 7 * (chS c - 32) + r) : (0 ≤ i ∧ i < 413) ∧ ((fontL.getD i.toNat 0).toNat : Int) = glS c r := by
  have := chS_bd c
  exact ⟨by omega, by rw [e]; simp only [glS, fontAt]⟩
theorem idx_eq {d r : Int} (h0 : 0 ≤ d) (h1 : d < 100) (h2 : 0 ≤ r) (h3 : r < 7) : W (W (7 * W d) + r) = 7 * d + r := by
  rw [W_id (n := d) (by omega) (by omega), W_id (n := 7 * d) (by omega) (by omega), W_id (by omega) (by omega)]
theorem k39 : TabOK Try.prog T39 := fn_tabA k20 hm Try.func39 (by kernel_rfl) (by kernel_rfl) sUI8.ok (by kernel_rfl) (fun _ => []) fun a hp => by
  have h : vc39 a.1 a.2 := by
    rw [← vc39_eq]
    obtain ⟨c, r⟩ := a
    obtain ⟨h0, h1, h2, h3⟩ := hp
    dsimp only at h0 h1 h2 h3 ⊢
    simp [-List.getD_eq_getElem?_getD, W_def]
    have w1 : W (217 + r) = 217 + r := W_id (by omega) (by omega)
    have q1 : 32 ≤ c → IntKind.u8.wrap (c - 32) = c - 32 := fun h => wrap_u8 (by omega) (by omega)
    have q2 : 64 ≤ c → IntKind.u8.wrap (c - 32 - 32) = c - 32 - 32 := fun h => wrap_u8 (by omega) (by omega)
    rw [w1]
    refine ⟨fun b1 => ⟨fun b2 => ?_, fun b2 => ⟨fun b3 => ?_, fun b3 => ⟨fun b4 => ?_, fun b4 => ?_⟩⟩⟩, fun b1 => ⟨fun b3 => ?_, fun b3 => ⟨fun b4 => ?_, fun b4 => ?_⟩⟩⟩
    · rw [q1 (by omega), q2 (by omega)]
      refine ⟨fun b3 => ?_, fun b3 => ⟨fun b4 => ?_, fun b4 => ?_⟩⟩
      · omega
      · refine gl_core h2 h3 ?_
        simp only [chS]; split <;> split <;> omega
      · rw [idx_eq (by omega) (by omega) h2 h3]
        refine gl_core h2 h3 ?_
        simp only [chS]; split <;> split <;> omega
    · omega
    · refine gl_core h2 h3 ?_
      simp only [chS]; split <;> split <;> omega
    · omega
    · refine gl_core h2 h3 ?_
      simp only [chS]; split <;> split <;> omega
    · refine gl_core h2 h3 ?_
      simp only [chS]; split <;> split <;> omega
    · rw [q1 (by omega), idx_eq (by omega) (by omega) h2 h3]
      refine gl_core h2 h3 ?_
      simp only [chS]; split <;> split <;> omega
  exact h
theorem sh_eq {u : Int} (h0 : 0 ≤ u) (h1 : u < 5) : IntKind.u64.wrap (W (4 - u)) = 4 - u := by
  rw [W_id (by omega) (by omega)]; exact wrap_u64 ⟨by omega, by omega⟩
theorem lit_core {c u v i : Int} (h0 : 0 ≤ u) (h1 : u < 5) (h2 : 0 ≤ v) (h3 : v < 7) (e : i = 7 * (chS c - 32) + v) :
    (0 ≤ i ∧ i < 413) ∧ 0 ≤ 4 - u ∧ (bits BinOp.and IntKind.u8 (((fontL.getD i.toNat 0).toNat : Int) / 2 ^ min (4 - u).toNat 8) 1 == 1) = litS c u v := by
  obtain ⟨g1, g2⟩ := gl_core h2 h3 e
  refine ⟨g1, by omega, ?_⟩
  rw [g2, Nat.min_eq_left (by omega)]
  simp only [litS]
theorem idx2_eq {d r : Int} (h0 : 0 ≤ d) (h1 : d < 1000) (h2 : 0 ≤ r) (h3 : r < 7) : W (W (7 * W (W d - 32)) + r) = 7 * (d - 32) + r := by
  rw [W_id (n := d) (by omega) (by omega), W_id (n := d - 32) (by omega) (by omega), W_id (n := 7 * (d - 32)) (by omega) (by omega), W_id (by omega) (by omega)]
theorem k40 : TabOK Try.prog T40 := fn_tabA k39 hm Try.func40 (by kernel_rfl) (by kernel_rfl) sUI8I.ok (by kernel_rfl) (fun _ => []) fun a hp => by
  have h : vc40 a.1 a.2.1 a.2.2 := by
    rw [← vc40_eq]
    obtain ⟨c, u, v⟩ := a
    obtain ⟨h0, h1, u0, u1, h2, h3⟩ := hp
    dsimp only at h0 h1 h2 h3 u0 u1 ⊢
    simp [-List.getD_eq_getElem?_getD, W_def]
    have w1 : W (217 + v) = 217 + v := W_id (by omega) (by omega)
    have q1 : 32 ≤ c → IntKind.u8.wrap (c - 32) = c - 32 := fun h => wrap_u8 (by omega) (by omega)
    rw [w1, sh_eq u0 u1]
    refine ⟨fun b1 => ⟨fun b2 => ?_, fun b2 => ⟨fun b3 => ?_, fun b3 => ⟨fun b4 => ?_, fun b4 => ?_⟩⟩⟩, fun b1 => ⟨fun b3 => ?_, fun b3 => ⟨fun b4 => ?_, fun b4 => ?_⟩⟩⟩
    · rw [q1 (by omega)]
      refine ⟨fun b3 => ?_, fun b3 => ⟨fun b4 => ?_, fun b4 => ?_⟩⟩
      · omega
      · refine lit_core u0 u1 h2 h3 ?_
        simp only [chS]; split <;> split <;> omega
      · rw [idx2_eq (by omega) (by omega) h2 h3]
        refine lit_core u0 u1 h2 h3 ?_
        simp only [chS]; split <;> split <;> omega
    · omega
    · refine lit_core u0 u1 h2 h3 ?_
      simp only [chS]; split <;> split <;> omega
    · omega
    · refine lit_core u0 u1 h2 h3 ?_
      simp only [chS]; split <;> split <;> omega
    · refine lit_core u0 u1 h2 h3 ?_
      simp only [chS]; split <;> split <;> omega
    · rw [idx2_eq (by omega) (by omega) h2 h3]
      refine lit_core u0 u1 h2 h3 ?_
      simp only [chS]; split <;> split <;> omega
  exact h
section
variable {P P' : Int → Int → Bool} {f : Fr} {x y n : Int} {s : List UInt8} {lo hi : List Int}
theorem text_lev : lev (textP P f x y s n) := fun b a => by
  simp only [textP]; split
  · rcases lvS_cases n with e | e | e | e <;> omega
  · exact lv_bd _ _ _
theorem TxtI_ok (h : TxtI P f x y s n lo hi) : lo.length = 16 ∧ hi.length = 16 ∧ okF ⟨lo, hi⟩ := by
  simp only [TxtI] at h
  have : okF ⟨lo, hi⟩ := by rw [h]; exact mkL_ok _
  exact ⟨(okF_len this).1, (okF_len this).2, this⟩
theorem TxtI_of (h : TxtI P f x y s n lo hi) (e : ∀ b a : Nat, b < 16 → a < 64 → inkS s ((a : Int) - x) ((b : Int) - y) = true → P ((a : Int) - x) ((b : Int) - y) = P' ((a : Int) - x) ((b : Int) - y)) : TxtI P' f x y s n lo hi := by
  simp only [TxtI] at h ⊢
  rw [h]
  refine mkL_congr fun b a hb ha => ?_
  simp only [textP]
  cases hi : inkS s ((a : Int) - x) ((b : Int) - y)
  · rfl
  · rw [e b a hb ha hi]
theorem TxtI_zero (hf : okF f) (e : ∀ u v, inkS s u v = true → P u v = false) : TxtI P f x y s n f.low f.high := by
  simp only [TxtI]
  rw [← mkL_lv hf]
  have : mkL (lv f) = f := mkL_lv hf
  rw [this]
  show f = _
  conv => lhs; rw [← this]
  refine mkL_congr fun b a hb ha => ?_
  simp only [textP]
  cases hi : inkS s ((a : Int) - x) ((b : Int) - y)
  · rfl
  · rw [e _ _ hi]; rfl
theorem TxtI_set (h : TxtI P f x y s n lo hi) {u v : Int} (hk : inkS s u v = true) (e : ∀ u' v', P' u' v' = (P u' v' || decide (u' = u ∧ v' = v))) : TxtI P' f x y s n (setS ⟨lo, hi⟩ (x + u) (y + v) n).low (setS ⟨lo, hi⟩ (x + u) (y + v) n).high := by
  simp only [TxtI] at h ⊢
  rw [h]
  show setS _ _ _ _ = _
  by_cases hd : isD (x + u) (y + v) = true
  · obtain ⟨x0, x1, y0, y1⟩ := isD_iff.1 hd
    simp only [setS, hd, if_true]
    refine mkL_congr fun b a hb ha => ?_
    rw [setL_at]
    by_cases c : a = (x + u).toNat ∧ b = (y + v).toNat
    · rw [if_pos c]
      have e1 : (a : Int) - x = u := by omega
      have e2 : (b : Int) - y = v := by omega
      simp only [textP, e1, e2, hk, e]
      simp
    · rw [if_neg c, lv_mkL hb ha (text_lev b a)]
      simp only [textP, e]
      have : decide ((a : Int) - x = u ∧ (b : Int) - y = v) = false := decide_eq_false (by omega)
      rw [this, Bool.or_false]
  · have hd' : isD (x + u) (y + v) = false := by simpa using hd
    simp only [setS, hd']
    refine mkL_congr fun b a hb ha => ?_
    have : decide ((a : Int) - x = u ∧ (b : Int) - y = v) = false := decide_eq_false fun c => hd (isD_iff.2 (by omega))
    simp only [textP, e, this, Bool.or_false]
theorem TxtI_end (h : TxtI P f x y s n lo hi) (h0 : ¬ (20000 < s.length ∨ x < -1048576 ∨ 1048576 < x ∨ y < -1048576 ∨ 1048576 < y)) (e : ∀ u v, inkS s u v = true → P u v = true) : (⟨lo, hi⟩ : Fr) = textS f x y s n := by
  have h2 := TxtI_of (P' := fun _ _ => true) h fun b a _ _ hi => e _ _ hi
  simp only [TxtI] at h2
  simp only [textS, if_neg h0, h2]
end
theorem ink_facts {s : List UInt8} {u v : Int} (h : inkS s u v = true) : 0 ≤ v ∧ v < 7 ∧ 0 ≤ u ∧ u < 6 * s.length ∧ u % 6 < 5 := by
  simp only [inkS, Bool.and_eq_true, decide_eq_true_eq] at h; exact h.1
theorem ink_at {s : List UInt8} {i u v : Int} (h0 : 0 ≤ i) (h1 : i < s.length) (u0 : 0 ≤ u) (u1 : u < 5) (v0 : 0 ≤ v) (v1 : v < 7) : inkS s (6 * i + u) v = litS ((s.getD i.toNat 0).toNat : Int) u v := by
  have e1 : (6 * i + u) / 6 = i := by omega
  have e2 : (6 * i + u) % 6 = u := by omega
  simp only [inkS, e1, e2]
  rw [decide_eq_true (by omega)]; rfl
theorem text_out {f : Fr} {x y n : Int} {s : List UInt8} (h : 20000 < s.length ∨ x < -1048576 ∨ 1048576 < x ∨ y < -1048576 ∨ 1048576 < y) : (∀ i, i < 16 → f.low.getD i 0 = (textS f x y s n).low.getD i 0) ∧ ∀ i, i < 16 → f.high.getD i 0 = (textS f x y s n).high.getD i 0 := by
  simp only [textS, if_pos h]; exact ⟨fun _ _ => trivial, fun _ _ => trivial⟩
theorem lit_iff {c u v : Int} (u0 : 0 ≤ u) (u1 : u < 5) : (bits BinOp.and IntKind.u8 (glS c v / 2 ^ min (W (4 - u)).toNat 8) 1 = 1) ↔ litS c u v = true := by
  rw [W_id (by omega) (by omega), Nat.min_eq_left (by omega)]
  simp only [litS, beq_iff_eq]
theorem byte_bd (b : UInt8) : (b.toNat : Int) < 256 := by have := b.toNat_lt; omega
theorem k17 : TabOK Try.prog T17 := fn_tabA k40 hm Try.func17 (by kernel_rfl) (by kernel_rfl) sFIISI.ok (by kernel_rfl) (fun a => A17 a.1 a.2.1 a.2.2.1 a.2.2.2.1 a.2.2.2.2) fun a hp => by
  have h : vc17 a.1 a.2.1 a.2.2.1 a.2.2.2.1 a.2.2.2.2 := by
    rw [← vc17_eq]
    obtain ⟨f, x, y, s, n⟩ := a
    dsimp only at hp ⊢
    obtain ⟨l1, l2⟩ := okF_len hp
    simp [-List.getD_eq_getElem?_getD, W_def, rr_eq l1, rr_eq l2, rr_def]
    refine ⟨fun h => text_out (by omega), fun b1 => ⟨fun h => text_out (by omega), fun b2 => ⟨fun h => text_out (by omega), fun b3 => ⟨fun h => text_out (by omega), fun b4 => ⟨fun h => text_out (by omega), fun b5 => ⟨TxtI_zero hp fun u v h => ?_, fun i lo hi i0 i1 hI => ⟨fun h1 => ?_, fun h1 => ?_⟩⟩⟩⟩⟩⟩⟩
    · have := ink_facts h
      exact decide_eq_false (by omega)
    · obtain ⟨a5, a6, a8⟩ := TxtI_ok hI
      have w1 : W (6 * i) = 6 * i := W_id (by omega) (by omega)
      have w2 : W (x + 6 * i) = x + 6 * i := W_id (by omega) (by omega)
      have w3 : W (i + 1) = i + 1 := W_id (by omega) (by omega)
      rw [w1, w2, rr_eq a5, rr_eq a6, w3]
      refine ⟨fun h2 => ⟨⟨by omega, by omega, TxtI_of hI fun b a hb ha hk => ?_⟩, by omega, fun _ _ => rfl, fun _ _ => rfl⟩, fun h2 => ⟨fun h3 => ⟨⟨by omega, by omega, TxtI_of hI fun b a hb ha hk => ?_⟩, by omega, fun _ _ => rfl, fun _ _ => rfl⟩, fun h3 => ?_⟩⟩
      · exact decide_eq_decide.2 (by omega)
      · exact decide_eq_decide.2 (by omega)
      · refine ⟨⟨TxtI_of hI fun b a hb ha hk => ?_, fun _ _ => rfl, fun _ _ => rfl⟩, fun r lo hi r0 r1 hI => ⟨fun h4 => ?_, fun h4 => ?_⟩⟩
        · have := ink_facts hk
          exact decide_eq_decide.2 (by omega)
        · obtain ⟨a5, a6, a8⟩ := TxtI_ok hI
          rw [rr_eq a5, rr_eq a6]
          refine ⟨⟨TxtI_of hI fun b a hb ha hk => ?_, fun _ _ => rfl, fun _ _ => rfl⟩, fun c lo hi c0 c1 hI => ⟨fun h5 => ?_, fun h5 => ?_⟩⟩
          · have := ink_facts hk
            exact decide_eq_decide.2 (by omega)
          · obtain ⟨a5, a6, a8⟩ := TxtI_ok hI
            have w4 : W (c + 1) = c + 1 := W_id (by omega) (by omega)
            have w5 : W (x + 6 * i + c) = x + (6 * i + c) := (W_id (by omega) (by omega)).trans (by omega)
            have w6 : W (y + r) = y + r := W_id (by omega) (by omega)
            have w7 : 0 ≤ W (4 - c) := by rw [W_id (by omega) (by omega)]; omega
            simp only [lit_iff c0 h5]
            rw [rr_eq a5, rr_eq a6, w4, w5, w6]
            have ok := okF_len (setS_ok a8 (x + (6 * i + c)) (y + r) n)
            rw [rr_eq ok.1, rr_eq ok.2, ← ink_at i0 h1 c0 h5 r0 h4]
            refine ⟨⟨i0, h1⟩, ⟨byte_bd _, r0, h4⟩, w7, fun hk => ⟨a8, ⟨by omega, by omega, TxtI_set hI hk fun u v => ?_⟩, by omega, fun _ _ => rfl, fun _ _ => rfl⟩, fun hk => ⟨⟨by omega, by omega, TxtI_of hI fun b a hb ha hk2 => ?_⟩, by omega, fun _ _ => rfl, fun _ _ => rfl⟩⟩
            · simp only [P2]
              rw [← Bool.decide_or]
              exact decide_eq_decide.2 (by omega)
            · refine decide_eq_decide.2 ?_
              by_cases e : (a : Int) - x = 6 * i + c ∧ (b : Int) - y = r
              · rw [e.1, e.2] at hk2; exact absurd hk2 hk
              · omega
          · obtain ⟨a5, a6, a8⟩ := TxtI_ok hI
            have w4 : W (r + 1) = r + 1 := W_id (by omega) (by omega)
            rw [rr_eq a5, rr_eq a6, w4]
            refine ⟨⟨by omega, by omega, TxtI_of hI fun b a hb ha hk => ?_⟩, by omega, fun _ _ => rfl, fun _ _ => rfl⟩
            have := ink_facts hk
            exact decide_eq_decide.2 (by omega)
        · obtain ⟨a5, a6, a8⟩ := TxtI_ok hI
          rw [rr_eq a5, rr_eq a6]
          refine ⟨⟨by omega, by omega, TxtI_of hI fun b a hb ha hk => ?_⟩, by omega, fun _ _ => rfl, fun _ _ => rfl⟩
          have := ink_facts hk
          exact decide_eq_decide.2 (by omega)
    · rw [← TxtI_end hI (by omega) fun u v hk => decide_eq_true (by have := ink_facts hk; omega)]
      exact ⟨fun _ _ => rfl, fun _ _ => rfl⟩
  exact h
theorem k18 : TabOK Try.prog T18 := fn_tabA k17 hm Try.func18 (by kernel_rfl) (by kernel_rfl) sFIISI.ok (by kernel_rfl) (fun a => A18 a.1 a.2.1 a.2.2.1 a.2.2.2.1 a.2.2.2.2) fun a hp => by
  have h : vc18 a.1 a.2.1 a.2.2.1 a.2.2.2.1 a.2.2.2.2 := by
    rw [← vc18_eq]
    obtain ⟨f, x, y, s, n⟩ := a
    dsimp only at hp ⊢
    obtain ⟨l1, l2⟩ := okF_len hp
    simp [-List.getD_eq_getElem?_getD, W_def, rr_eq l1, rr_eq l2, rr_def]
    refine ⟨fun h => text_out (by omega), fun b1 => ⟨fun h => text_out (by omega), fun b2 => ⟨fun h => text_out (by omega), fun b3 => ⟨fun h => text_out (by omega), fun b4 => ⟨fun h => text_out (by omega), fun b5 => ⟨TxtI_zero hp fun u v h => ?_, fun i lo hi i0 i1 hI => ⟨fun h1 => ?_, fun h1 => ?_⟩⟩⟩⟩⟩⟩⟩
    · have := ink_facts h
      exact decide_eq_false (by omega)
    · obtain ⟨a5, a6, a8⟩ := TxtI_ok hI
      have w3 : W (i + 1) = i + 1 := W_id (by omega) (by omega)
      rw [rr_eq a5, rr_eq a6, w3]
      · refine ⟨⟨TxtI_of hI fun b a hb ha hk => ?_, fun _ _ => rfl, fun _ _ => rfl⟩, fun c lo hi c0 c1 hI => ⟨fun h5 => ?_, fun h5 => ?_⟩⟩
        · have := ink_facts hk
          exact decide_eq_decide.2 (by omega)
        · obtain ⟨a5, a6, a8⟩ := TxtI_ok hI
          rw [rr_eq a5, rr_eq a6]
          refine ⟨⟨TxtI_of hI fun b a hb ha hk => ?_, fun _ _ => rfl, fun _ _ => rfl⟩, fun r lo hi r0 r1 hI => ⟨fun h4 => ?_, fun h4 => ?_⟩⟩
          · have := ink_facts hk
            exact decide_eq_decide.2 (by omega)
          · obtain ⟨a5, a6, a8⟩ := TxtI_ok hI
            have w1 : W (6 * i) = 6 * i := W_id (by omega) (by omega)
            have w2 : W (x + 6 * i) = x + 6 * i := W_id (by omega) (by omega)
            have w4 : W (r + 1) = r + 1 := W_id (by omega) (by omega)
            have w5 : W (x + 6 * i + c) = x + (6 * i + c) := (W_id (by omega) (by omega)).trans (by omega)
            have w6 : W (y + r) = y + r := W_id (by omega) (by omega)
            rw [rr_eq a5, rr_eq a6, w4, w1, w2, w5, w6]
            have ok := okF_len (setS_ok a8 (x + (6 * i + c)) (y + r) n)
            rw [rr_eq ok.1, rr_eq ok.2, ← ink_at i0 h1 c0 h5 r0 h4]
            refine ⟨⟨i0, h1⟩, ⟨byte_bd _, c0, h5, r0, h4⟩, fun hk => ⟨a8, ⟨by omega, by omega, TxtI_set hI hk fun u v => ?_⟩, by omega, fun _ _ => rfl, fun _ _ => rfl⟩, fun hk => ⟨⟨by omega, by omega, TxtI_of hI fun b a hb ha hk2 => ?_⟩, by omega, fun _ _ => rfl, fun _ _ => rfl⟩⟩
            · simp only [Q2]
              rw [← Bool.decide_or]
              exact decide_eq_decide.2 (by omega)
            · refine decide_eq_decide.2 ?_
              by_cases e : (a : Int) - x = 6 * i + c ∧ (b : Int) - y = r
              · rw [e.1, e.2, hk] at hk2; cases hk2
              · omega
          · obtain ⟨a5, a6, a8⟩ := TxtI_ok hI
            have w4 : W (c + 1) = c + 1 := W_id (by omega) (by omega)
            rw [rr_eq a5, rr_eq a6, w4]
            refine ⟨⟨by omega, by omega, TxtI_of hI fun b a hb ha hk => ?_⟩, by omega, fun _ _ => rfl, fun _ _ => rfl⟩
            have := ink_facts hk
            exact decide_eq_decide.2 (by omega)
        · obtain ⟨a5, a6, a8⟩ := TxtI_ok hI
          rw [rr_eq a5, rr_eq a6]
          refine ⟨⟨by omega, by omega, TxtI_of hI fun b a hb ha hk => ?_⟩, by omega, fun _ _ => rfl, fun _ _ => rfl⟩
          have := ink_facts hk
          exact decide_eq_decide.2 (by omega)
    · rw [← TxtI_end hI (by omega) fun u v hk => decide_eq_true (by have := ink_facts hk; omega)]
      exact ⟨fun _ _ => rfl, fun _ _ => rfl⟩
  exact h
end Go.Proofs.Do
