import Derived.Test.YtkpgbnchidjapaaNvA
namespace Go.Proofs.Nv
set_option linter.unusedVariables false
set_option linter.unusedSimpArgs false
open Go Go.Sx Go.Proofs
set_option maxRecDepth 100000
-- SAME: sm
-- ABBR: IntKind.i64.wrap ==> W
/-- The two slots, the current one, and what Open gives. -/
def v0 (m : Bs) : Bool := rdB (slS m 0)
def v1 (m : Bs) : Bool := rdB (slS m 1)
def newer (m : Bs) : Bool := decide (by' (slS m 1) 0 = nxt (by' (slS m 0) 0))
def curI (m : Bs) : Int := if m.length = 2062 then (if v0 m then (if v1 m && newer m then 1 else 0) else if v1 m then 1 else 0) else 0
def curN (m : Bs) : Int := if m.length = 2062 then (if v0 m then (if v1 m then 2 else 1) else if v1 m then 1 else 0) else 0
def curE (m : Bs) : Int := if m.length = 2062 then (if v0 m || v1 m then 0 else 62) else 1
def curD (m : Bs) : Bs := if curE m = 0 then datS (slS m (curI m)) else []
attribute [irreducible] v0 v1 newer curI curN curE curD
def cOpen : Ctr := ctr sS.dec (fun _ => True) (fun a => .tup [.str (curD a), iS (curE a)])
def cSlots : Ctr := ctr sS.dec (fun _ => True) (fun a => .tup [iS (curI a), iS (curN a), iS (curE a)])
def T28 : List (Nat × Ctr) := (28, ctr sS.dec (fun _ => True) (fun a => .tup [iS (curI a), iS (curN a), .str (curD a), iS (curE a)])) :: T33
def vc28 (m : Bs) : Prop := cva T33 Try.f28 [] [.str m] (.tup [iS (curI m), iS (curN m), .str (curD m), iS (curE m)])
def T18 : List (Nat × Ctr) := (18, cOpen) :: T28
def vc18 (m : Bs) : Prop := cva T28 Try.f18 [] [.str m] (.tup [.str (curD m), iS (curE m)])
def T20 : List (Nat × Ctr) := (20, cSlots) :: T18
def vc20 (m : Bs) : Prop := cva T18 Try.f20 [] [.str m] (.tup [iS (curI m), iS (curN m), iS (curE m)])
def T27 : List (Nat × Ctr) := (27, cSlots) :: T20
def vc27 (m : Bs) : Prop := cva T20 Try.f27 [] [.str m] (.tup [iS (curI m), iS (curN m), iS (curE m)])
def T26 : List (Nat × Ctr) := (26, cOpen) :: T27
def vc26 (m : Bs) : Prop := cva T27 Try.f26 [] [.str m] (.tup [.str (curD m), iS (curE m)])
def fmtE (d : Bs) : Int := if 1024 < d.length then 9 else 0
def fmtS (d : Bs) : Bs := if 1024 < d.length then [] else 1 :: (bys (hdI d) ++ (d ++ List.replicate (2055 - d.length) 0))
attribute [irreducible] fmtE fmtS
def cFmt : Ctr := ctr sS.dec (fun a => a.length ≤ 1000000) (fun a => .tup [.str (fmtS a), iS (fmtE a)])
def T19 : List (Nat × Ctr) := (19, cFmt) :: T26
def vc19 (d : Bs) : Prop := cva T26 Try.f19 [] [.str d] (.tup [.str (fmtS d), iS (fmtE d)])
def T22 : List (Nat × Ctr) := (22, cFmt) :: T19
def vc22 (d : Bs) : Prop := cva T19 Try.f22 [] [.str d] (.tup [.str (fmtS d), iS (fmtE d)])
theorem vc28_eq (m : Bs) : (True ∧ True ∧ ((↑(List.length m) != (2062 : Int)) = true → True ∧ True ∧ True ∧ True ∧ True ∧ ((0 : Int) = curI m ∧ (0 : Int) = curN m ∧ Array.toList #[] = curD
    m ∧ (1 : Int) = curE m ∧ True) ∧ True) ∧ ((↑(List.length m) != (2062 : Int)) = false → True ∧ True ∧ ((True ∧ True) ∧ List.length m = (2062 : Nat) ∧ (0 : Int) ≤
    (0 : Int) ∧ (0 : Int) ≤ (1 : Int)) ∧ True ∧ (True ∧ List.length (slS m (0 : Int)) = (1031 : Nat)) ∧ True ∧ True ∧ True ∧ ((True ∧ True) ∧ List.length m = (2062 :
    Nat) ∧ (0 : Int) ≤ (1 : Int) ∧ (1 : Int) ≤ (1 : Int)) ∧ True ∧ (True ∧ List.length (slS m (1 : Int)) = (1031 : Nat)) ∧ True ∧ (rdB (slS m (0 : Int)) = true → (rdB
    (slS m (1 : Int)) = true → True ∧ True ∧ ((True ∧ True) ∧ List.length m = (2062 : Nat) ∧ (0 : Int) ≤ (1 : Int) ∧ (1 : Int) ≤ (1 : Int)) ∧ ((0 : Int) ≤ (0 : Int)
    ∧ (0 : Int) < ↑(List.length (slS m (1 : Int)))) ∧ ((0 : Int) ≤ (0 : Int) ∧ (0 : Int) < ↑(List.length m)) ∧ True ∧ (True ∧ (0 : Int) ≤ ↑(List.getD m (0 : Nat) (0
    : UInt8)).toNat ∧ ↑(List.getD m (0 : Nat) (0 : UInt8)).toNat < (256 : Int)) ∧ IsT true ∧ ((↑(List.getD (slS m (1 : Int)) (0 : Nat) (0 : UInt8)).toNat == nxt ↑(List.getD
    m (0 : Nat) (0 : UInt8)).toNat) = true → True ∧ True ∧ True ∧ True ∧ True ∧ ((1 : Int) = curI m ∧ (2 : Int) = curN m ∧ rdD (slS m (1 : Int)) = curD m ∧ (0 : Int)
    = curE m ∧ True) ∧ True) ∧ ((↑(List.getD (slS m (1 : Int)) (0 : Nat) (0 : UInt8)).toNat == nxt ↑(List.getD m (0 : Nat) (0 : UInt8)).toNat) = false → (rdB (slS m
    (0 : Int)) = true → True ∧ (rdB (slS m (1 : Int)) = true → True ∧ True ∧ True ∧ True ∧ True ∧ ((0 : Int) = curI m ∧ (2 : Int) = curN m ∧ rdD (slS m (0 : Int)) =
    curD m ∧ (0 : Int) = curE m ∧ True) ∧ True) ∧ (rdB (slS m (1 : Int)) = false → True ∧ (rdB (slS m (0 : Int)) = true → True ∧ True ∧ True ∧ True ∧ True ∧ ((0 : Int)
    = curI m ∧ (1 : Int) = curN m ∧ rdD (slS m (0 : Int)) = curD m ∧ (0 : Int) = curE m ∧ True) ∧ True) ∧ (rdB (slS m (0 : Int)) = false → True ∧ (rdB (slS m (1 : Int))
    = true → True ∧ True ∧ True ∧ True ∧ True ∧ ((1 : Int) = curI m ∧ (1 : Int) = curN m ∧ rdD (slS m (1 : Int)) = curD m ∧ (0 : Int) = curE m ∧ True) ∧ True) ∧ (rdB
    (slS m (1 : Int)) = false → True ∧ True ∧ True ∧ True ∧ True ∧ ((0 : Int) = curI m ∧ (0 : Int) = curN m ∧ Array.toList #[] = curD m ∧ (62 : Int) = curE m ∧ True)
    ∧ True)))) ∧ (rdB (slS m (0 : Int)) = false → True ∧ True ∧ (rdB (slS m (0 : Int)) = true → True ∧ True ∧ True ∧ True ∧ True ∧ ((0 : Int) = curI m ∧ (1 : Int) =
    curN m ∧ rdD (slS m (0 : Int)) = curD m ∧ (0 : Int) = curE m ∧ True) ∧ True) ∧ (rdB (slS m (0 : Int)) = false → True ∧ (rdB (slS m (1 : Int)) = true → True ∧ True
    ∧ True ∧ True ∧ True ∧ ((1 : Int) = curI m ∧ (1 : Int) = curN m ∧ rdD (slS m (1 : Int)) = curD m ∧ (0 : Int) = curE m ∧ True) ∧ True) ∧ (rdB (slS m (1 : Int)) =
    false → True ∧ True ∧ True ∧ True ∧ True ∧ ((0 : Int) = curI m ∧ (0 : Int) = curN m ∧ Array.toList #[] = curD m ∧ (62 : Int) = curE m ∧ True) ∧ True))))) ∧ (rdB
    (slS m (1 : Int)) = false → IsT true ∧ (rdB (slS m (0 : Int)) = true → True ∧ (rdB (slS m (1 : Int)) = true → True ∧ True ∧ True ∧ True ∧ True ∧ ((0 : Int) = curI
    m ∧ (2 : Int) = curN m ∧ rdD (slS m (0 : Int)) = curD m ∧ (0 : Int) = curE m ∧ True) ∧ True) ∧ (rdB (slS m (1 : Int)) = false → True ∧ (rdB (slS m (0 : Int)) = true
    → True ∧ True ∧ True ∧ True ∧ True ∧ ((0 : Int) = curI m ∧ (1 : Int) = curN m ∧ rdD (slS m (0 : Int)) = curD m ∧ (0 : Int) = curE m ∧ True) ∧ True) ∧ (rdB (slS m
    (0 : Int)) = false → True ∧ (rdB (slS m (1 : Int)) = true → True ∧ True ∧ True ∧ True ∧ True ∧ ((1 : Int) = curI m ∧ (1 : Int) = curN m ∧ rdD (slS m (1 : Int)) =
    curD m ∧ (0 : Int) = curE m ∧ True) ∧ True) ∧ (rdB (slS m (1 : Int)) = false → True ∧ True ∧ True ∧ True ∧ True ∧ ((0 : Int) = curI m ∧ (0 : Int) = curN m ∧ Array.toList
    #[] = curD m ∧ (62 : Int) = curE m ∧ True) ∧ True)))) ∧ (rdB (slS m (0 : Int)) = false → True ∧ True ∧ (rdB (slS m (0 : Int)) = true → True ∧ True ∧ True ∧ True
    ∧ True ∧ ((0 : Int) = curI m ∧ (1 : Int) = curN m ∧ rdD (slS m (0 : Int)) = curD m ∧ (0 : Int) = curE m ∧ True) ∧ True) ∧ (rdB (slS m (0 : Int)) = false → True ∧
    (rdB (slS m (1 : Int)) = true → True ∧ True ∧ True ∧ True ∧ True ∧ ((1 : Int) = curI m ∧ (1 : Int) = curN m ∧ rdD (slS m (1 : Int)) = curD m ∧ (0 : Int) = curE m
    ∧ True) ∧ True) ∧ (rdB (slS m (1 : Int)) = false → True ∧ True ∧ True ∧ True ∧ True ∧ ((0 : Int) = curI m ∧ (0 : Int) = curN m ∧ Array.toList #[] = curD m ∧ (62
    : Int) = curE m ∧ True) ∧ True))))) ∧ (rdB (slS m (0 : Int)) = false → IsT true ∧ (rdB (slS m (0 : Int)) = true → True ∧ (rdB (slS m (1 : Int)) = true → True ∧ True
    ∧ True ∧ True ∧ True ∧ ((0 : Int) = curI m ∧ (2 : Int) = curN m ∧ rdD (slS m (0 : Int)) = curD m ∧ (0 : Int) = curE m ∧ True) ∧ True) ∧ (rdB (slS m (1 : Int)) =
    false → True ∧ (rdB (slS m (0 : Int)) = true → True ∧ True ∧ True ∧ True ∧ True ∧ ((0 : Int) = curI m ∧ (1 : Int) = curN m ∧ rdD (slS m (0 : Int)) = curD m ∧ (0
    : Int) = curE m ∧ True) ∧ True) ∧ (rdB (slS m (0 : Int)) = false → True ∧ (rdB (slS m (1 : Int)) = true → True ∧ True ∧ True ∧ True ∧ True ∧ ((1 : Int) = curI m
    ∧ (1 : Int) = curN m ∧ rdD (slS m (1 : Int)) = curD m ∧ (0 : Int) = curE m ∧ True) ∧ True) ∧ (rdB (slS m (1 : Int)) = false → True ∧ True ∧ True ∧ True ∧ True ∧
    ((0 : Int) = curI m ∧ (0 : Int) = curN m ∧ Array.toList #[] = curD m ∧ (62 : Int) = curE m ∧ True) ∧ True)))) ∧ (rdB (slS m (0 : Int)) = false → True ∧ True ∧ (rdB
    (slS m (0 : Int)) = true → True ∧ True ∧ True ∧ True ∧ True ∧ ((0 : Int) = curI m ∧ (1 : Int) = curN m ∧ rdD (slS m (0 : Int)) = curD m ∧ (0 : Int) = curE m ∧ True)
    ∧ True) ∧ (rdB (slS m (0 : Int)) = false → True ∧ (rdB (slS m (1 : Int)) = true → True ∧ True ∧ True ∧ True ∧ True ∧ ((1 : Int) = curI m ∧ (1 : Int) = curN m ∧ rdD
    (slS m (1 : Int)) = curD m ∧ (0 : Int) = curE m ∧ True) ∧ True) ∧ (rdB (slS m (1 : Int)) = false → True ∧ True ∧ True ∧ True ∧ True ∧ ((0 : Int) = curI m ∧ (0 :
    Int) = curN m ∧ Array.toList #[] = curD m ∧ (62 : Int) = curE m ∧ True) ∧ True)))))) = vc28 m := by kernel_rfl
theorem vc18_eq (m : Bs) : (True ∧ True ∧ (True ∧ True) ∧ True ∧ True ∧ True ∧ True ∧ (curD m = curD m ∧ curE m = curE m ∧ True) ∧ True) = vc18 m := by kernel_rfl
theorem vc20_eq (m : Bs) : (True ∧ True ∧ (True ∧ True) ∧ True ∧ True ∧ True ∧ True ∧ True ∧ (curI m = curI m ∧ curN m = curN m ∧ curE m = curE m ∧ True) ∧ True) = vc20 m := by kernel_rfl
theorem vc27_eq (m : Bs) : (True ∧ True ∧ ((↑(List.length m) != (2062 : Int)) = true → True ∧ True ∧ True ∧ True ∧ ((0 : Int) = curI m ∧ (0 : Int) = curN m ∧ (1 : Int) = curE m ∧ True) ∧ True)
    ∧ ((↑(List.length m) != (2062 : Int)) = false → ((0 : Int) ≤ (0 : Int) ∧ (0 : Int) ≤ (1031 : Int) ∧ (1031 : Int) ≤ ↑(List.length m)) ∧ True ∧ (True ∧ (List.drop
    (0 : Nat) (List.take (1031 : Nat) m)).length = (1031 : Nat)) ∧ True ∧ ((0 : Int) ≤ (1031 : Int) ∧ (1031 : Int) ≤ ↑(List.length m) ∧ LE.le (α := Int) ↑(List.length
    m) ↑(List.length m)) ∧ True ∧ (True ∧ (List.drop (1031 : Nat) (List.take (Int.toNat ↑(List.length m)) m)).length = (1031 : Nat)) ∧ True ∧ ((rM (List.drop (0 : Nat)
    (List.take (1031 : Nat) m)) == (0 : Int)) = true → True ∧ ((rM (List.drop (1031 : Nat) (List.take (Int.toNat ↑(List.length m)) m)) == (0 : Int)) = true → True ∧
    True ∧ True ∧ True ∧ ((0 : Int) = curI m ∧ (0 : Int) = curN m ∧ (62 : Int) = curE m ∧ True) ∧ True) ∧ ((rM (List.drop (1031 : Nat) (List.take (Int.toNat ↑(List.length
    m)) m)) == (0 : Int)) = false → True ∧ ((rM (List.drop (1031 : Nat) (List.take (Int.toNat ↑(List.length m)) m)) == (0 : Int)) = true → True ∧ True ∧ True ∧ True
    ∧ ((0 : Int) = curI m ∧ (1 : Int) = curN m ∧ (0 : Int) = curE m ∧ True) ∧ True) ∧ ((rM (List.drop (1031 : Nat) (List.take (Int.toNat ↑(List.length m)) m)) == (0
    : Int)) = false → True ∧ ((rM (List.drop (0 : Nat) (List.take (1031 : Nat) m)) == (0 : Int)) = true → True ∧ True ∧ True ∧ True ∧ ((1 : Int) = curI m ∧ (1 : Int)
    = curN m ∧ (0 : Int) = curE m ∧ True) ∧ True) ∧ ((rM (List.drop (0 : Nat) (List.take (1031 : Nat) m)) == (0 : Int)) = false → (3 : Int) ≠ (0 : Int) ∧ True ∧ ((rM
    (List.drop (1031 : Nat) (List.take (Int.toNat ↑(List.length m)) m)) == W ((rM (List.drop (0 : Nat) (List.take (1031 : Nat) m))).tmod (3 : Int) + (1 : Int))) = true
    → True ∧ True ∧ True ∧ True ∧ ((1 : Int) = curI m ∧ (2 : Int) = curN m ∧ (0 : Int) = curE m ∧ True) ∧ True) ∧ ((rM (List.drop (1031 : Nat) (List.take (Int.toNat
    ↑(List.length m)) m)) == W ((rM (List.drop (0 : Nat) (List.take (1031 : Nat) m))).tmod (3 : Int) + (1 : Int))) = false → True ∧ True ∧ True ∧ True ∧ ((0 : Int) =
    curI m ∧ (2 : Int) = curN m ∧ (0 : Int) = curE m ∧ True) ∧ True))))) ∧ ((rM (List.drop (0 : Nat) (List.take (1031 : Nat) m)) == (0 : Int)) = false → True ∧ True
    ∧ ((rM (List.drop (1031 : Nat) (List.take (Int.toNat ↑(List.length m)) m)) == (0 : Int)) = true → True ∧ True ∧ True ∧ True ∧ ((0 : Int) = curI m ∧ (1 : Int) = curN
    m ∧ (0 : Int) = curE m ∧ True) ∧ True) ∧ ((rM (List.drop (1031 : Nat) (List.take (Int.toNat ↑(List.length m)) m)) == (0 : Int)) = false → True ∧ ((rM (List.drop
    (0 : Nat) (List.take (1031 : Nat) m)) == (0 : Int)) = true → True ∧ True ∧ True ∧ True ∧ ((1 : Int) = curI m ∧ (1 : Int) = curN m ∧ (0 : Int) = curE m ∧ True) ∧
    True) ∧ ((rM (List.drop (0 : Nat) (List.take (1031 : Nat) m)) == (0 : Int)) = false → (3 : Int) ≠ (0 : Int) ∧ True ∧ ((rM (List.drop (1031 : Nat) (List.take (Int.toNat
    ↑(List.length m)) m)) == W ((rM (List.drop (0 : Nat) (List.take (1031 : Nat) m))).tmod (3 : Int) + (1 : Int))) = true → True ∧ True ∧ True ∧ True ∧ ((1 : Int) =
    curI m ∧ (2 : Int) = curN m ∧ (0 : Int) = curE m ∧ True) ∧ True) ∧ ((rM (List.drop (1031 : Nat) (List.take (Int.toNat ↑(List.length m)) m)) == W ((rM (List.drop
    (0 : Nat) (List.take (1031 : Nat) m))).tmod (3 : Int) + (1 : Int))) = false → True ∧ True ∧ True ∧ True ∧ ((0 : Int) = curI m ∧ (2 : Int) = curN m ∧ (0 : Int) =
    curE m ∧ True) ∧ True)))))) = vc27 m := by kernel_rfl
theorem vc26_eq (m : Bs) : (True ∧ True ∧ (True ∧ True) ∧ True ∧ True ∧ ((curE m != (0 : Int)) = true → True ∧ True ∧ True ∧ (Array.toList #[] = curD m ∧ curE m = curE m ∧ True) ∧ True) ∧ ((curE
    m != (0 : Int)) = false → ((0 : Int) ≤ W (curI m * (1031 : Int)) ∧ W (curI m * (1031 : Int)) ≤ W (W (curI m * (1031 : Int)) + (1031 : Int)) ∧ W (W (curI m * (1031
    : Int)) + (1031 : Int)) ≤ ↑(List.length m)) ∧ True ∧ (True ∧ (List.drop (W (curI m * (1031 : Int))).toNat (List.take (W (W (curI m * (1031 : Int)) + (1031 : Int))).toNat
    m)).length = (1031 : Nat)) ∧ True ∧ True ∧ True ∧ True ∧ (rR (List.drop (W (curI m * (1031 : Int))).toNat (List.take (W (W (curI m * (1031 : Int)) + (1031 : Int))).toNat
    m)) = curD m ∧ (0 : Int) = curE m ∧ True) ∧ True)) = vc26 m := by kernel_rfl
theorem vc19_eq (d : Bs) : (True ∧ True ∧ (decide (↑(List.length d) > (1024 : Int)) = true → True ∧ True ∧ True ∧ (Array.toList #[] = fmtS d ∧ (9 : Int) = fmtE d ∧ True) ∧ True) ∧ (decide (↑(List.length
    d) > (1024 : Int)) = false → (sm ((2062 : Int)) ∧ (0 : Int) ≤ (2062 : Int) ∧ (2062 : Int) ≤ (9223372036854775807 : Int) ∧ (1 : Int) * (2062 : Int) ≤ (281474976710656
    : Int)) ∧ True ∧ ((0 : Int) ≤ (0 : Int) ∧ (0 : Int) < (2062 : Int)) ∧ (0 : Nat) + (0 : Nat) < (2062 : Nat) ∧ True ∧ ((0 : Int) ≤ (1 : Int) ∧ (1 : Int) < (2062 :
    Int) ∧ (2062 : Int) ≤ (2062 : Int)) ∧ True ∧ (True ∧ List.length d ≤ (1024 : Nat)) ∧ (∀ (j : Nat), j < (hdI d).length → true = true) ∧ ((0 : Nat) + (1 : Nat) + (2061
    : Nat) ≤ (2062 : Nat) ∧ (0 : Nat) < (2061 : Nat)) ∧ IsT true ∧ ((0 : Int) ≤ (7 : Int) ∧ (7 : Int) < (2062 : Int) ∧ (2062 : Int) ≤ (2062 : Int)) ∧ ((0 : Nat) + (7
    : Nat) + (2055 : Nat) ≤ (2062 : Nat) ∧ (0 : Nat) < (2055 : Nat)) ∧ True ∧ (0 : Nat) + (2062 : Nat) ≤ (2062 : Nat) ∧ (∀ (j : Nat), j < (2062 : Nat) → isByte ((fun
    (j : Nat) => mergeL (decide ((0 : Nat) + (7 : Nat) ≤ j ∧ j < (0 : Nat) + (7 : Nat) + min (List.length d) (2055 : Nat))) (byteSV d (j - ((0 : Nat) + (7 : Nat))))
    (mergeL (decide ((0 : Nat) + (1 : Nat) ≤ j ∧ j < (0 : Nat) + (1 : Nat) + min (hdI d).length (2061 : Nat))) ((codI IntKind.u8).enc ((hdI d).getD (j - ((0 : Nat) +
    (1 : Nat))) (codI IntKind.u8).dft)) (mergeL (decide (j = (0 : Nat) + (0 : Nat))) (setL ((fun (x : List SV) => SV.int IntKind.u8 (0 : Int) :: x) []) (0 : Nat) [SV.int
    IntKind.u8 (1 : Int)]) ((fun (x : List SV) => SV.int IntKind.u8 (0 : Int) :: x) [])))) ((0 : Nat) + j)) = true) ∧ True ∧ True ∧ True ∧ ((bytesOf (2062 : Nat) fun
    i => mergeL (decide ((0 : Nat) + (7 : Nat) ≤ (0 : Nat) + i ∧ (0 : Nat) + i < (0 : Nat) + (7 : Nat) + min (List.length d) (2055 : Nat))) (byteSV d ((0 : Nat) + i
    - ((0 : Nat) + (7 : Nat)))) (mergeL (decide ((0 : Nat) + (1 : Nat) ≤ (0 : Nat) + i ∧ (0 : Nat) + i < (0 : Nat) + (1 : Nat) + min (hdI d).length (2061 : Nat))) ((codI
    IntKind.u8).enc ((hdI d).getD ((0 : Nat) + i - ((0 : Nat) + (1 : Nat))) (codI IntKind.u8).dft)) (mergeL (decide ((0 : Nat) + i = (0 : Nat) + (0 : Nat))) (setL ((fun
    (x : List SV) => SV.int IntKind.u8 (0 : Int) :: x) []) (0 : Nat) [SV.int IntKind.u8 (1 : Int)]) ((fun (x : List SV) => SV.int IntKind.u8 (0 : Int) :: x) [])))) =
    fmtS d ∧ (0 : Int) = fmtE d ∧ True) ∧ True)) = vc19 d := by kernel_rfl
theorem vc22_eq (d : Bs) : (True ∧ True ∧ (decide (↑(List.length d) > (1024 : Int)) = true → True ∧ True ∧ True ∧ (Array.toList #[] = fmtS d ∧ (9 : Int) = fmtE d ∧ True) ∧ True) ∧ (decide (↑(List.length
    d) > (1024 : Int)) = false → (sm ((2062 : Int)) ∧ (0 : Int) ≤ (2062 : Int) ∧ (2062 : Int) ≤ (9223372036854775807 : Int) ∧ (1 : Int) * (2062 : Int) ≤ (281474976710656
    : Int)) ∧ True ∧ True ∧ (True ∧ List.length d ≤ (1024 : Nat)) ∧ (1 : Nat) + List.length (bys (hdI d)) ≤ (9223372036854775807 : Nat) ∧ (#[(1 : UInt8)].toList ++ bys
    (hdI d)).length + List.length d ≤ (9223372036854775807 : Nat) ∧ ((0 : Nat) + (2062 : Nat) ≤ (2062 : Nat) ∧ (0 : Nat) < (2062 : Nat)) ∧ True ∧ (0 : Nat) + (2062 :
    Nat) ≤ (2062 : Nat) ∧ (∀ (j : Nat), j < (2062 : Nat) → isByte ((fun (j : Nat) => mergeL (decide ((0 : Nat) ≤ j ∧ j < (0 : Nat) + min (#[(1 : UInt8)].toList ++ bys
    (hdI d) ++ d).length (2062 : Nat))) (byteSV (#[(1 : UInt8)].toList ++ bys (hdI d) ++ d) (j - (0 : Nat))) ((fun (x : List SV) => SV.int IntKind.u8 (0 : Int) :: x)
    [])) ((0 : Nat) + j)) = true) ∧ True ∧ True ∧ True ∧ ((bytesOf (2062 : Nat) fun i => mergeL (decide ((0 : Nat) ≤ (0 : Nat) + i ∧ (0 : Nat) + i < (0 : Nat) + min
    (#[(1 : UInt8)].toList ++ bys (hdI d) ++ d).length (2062 : Nat))) (byteSV (#[(1 : UInt8)].toList ++ bys (hdI d) ++ d) ((0 : Nat) + i - (0 : Nat))) ((fun (x : List
    SV) => SV.int IntKind.u8 (0 : Int) :: x) [])) = fmtS d ∧ (0 : Int) = fmtE d ∧ True) ∧ True)) = vc22 d := by kernel_rfl
theorem sl_len {m : Bs} (h : m.length = 2062) : (slS m 0).length = 1031 ∧ (slS m 1).length = 1031 := by
  simp only [slS, List.length_drop, List.length_take]; omega
theorem sl_eq0 (m : Bs) : slS m 0 = m.take 1031 := by simp only [slS]; rfl
theorem sl_eq1 {m : Bs} (h : m.length = 2062) : slS m 1 = m.drop 1031 := by
  have e : (m.take ((1 + 1 : Int) * 1031).toNat) = m := List.take_of_length_le (by omega)
  simp only [slS]
  rw [e]; rfl
theorem by_take {m : Bs} {i n : Nat} (h : i < n) : by' (m.take n) i = by' m i := by
  simp only [by', List.getD_eq_getElem?_getD, List.getElem?_take, if_pos h]
theorem by_drop (m : Bs) (i n : Nat) : by' (m.drop n) i = by' m (n + i) := by
  simp only [by', List.getD_eq_getElem?_getD, List.getElem?_drop]
theorem sl_by (m : Bs) : by' (slS m 0) 0 = by' m 0 := by rw [sl_eq0, by_take (by omega)]
theorem rdD_ok {s : Bs} (h : rdB s = true) : rdD s = datS s := by
  have : hOK s = true := by simp only [rdB, Bool.and_eq_true] at h; exact h.1
  simp [rdD, this]
theorem cur_bad {m : Bs} (h : ¬ m.length = 2062) : curI m = 0 ∧ curN m = 0 ∧ curD m = [] ∧ curE m = 1 := by simp [curI, curN, curD, curE, h]
theorem cur_good {m : Bs} (h : m.length = 2062) : curI m = (if v0 m then (if v1 m && newer m then 1 else 0) else if v1 m then 1 else 0) ∧ curN m = (if v0 m then (if v1 m then 2 else 1) else if v1 m then 1 else 0) ∧ curE m = (if v0 m || v1 m then 0 else 62) := by
  simp [curI, curN, curE, h]
theorem k28 : TabOK Try.prog T28 := fn_tabA k33 hm Try.func28 (by kernel_rfl) (by kernel_rfl) sS.ok (by kernel_rfl) (fun _ => []) fun m hp => by
  have h : vc28 m := by
    rw [← vc28_eq]
    simp [-List.getD_eq_getElem?_getD, W_def, by_def]
    refine ⟨fun h => ?_, fun h => ?_⟩
    · obtain ⟨a, b, c, d⟩ := cur_bad (m := m) (by omega)
      rw [a, b, c, d]; simp
    · have hl : m.length = 2062 := by omega
      obtain ⟨e0, e1⟩ := sl_len hl
      have b := by_bd m 0
      obtain ⟨c1, c2, c3⟩ := cur_good hl
      have c4 : curD m = if curE m = 0 then datS (slS m (curI m)) else [] := by simp only [curD]
      rw [c4, c1, c2, c3, e0, e1, hl]
      have hn : newer m = decide (by' (slS m 1) 0 = nxt (by' m 0)) := by simp only [newer, sl_by]
      have r0 := @rdD_ok (slS m 0)
      have r1 := @rdD_ok (slS m 1)
      simp only [v0, v1, hn]
      cases h0 : rdB (slS m 0) <;> cases h1 : rdB (slS m 1) <;> simp [h0, h1, b] at r0 r1 ⊢
      · exact r1
      · exact r0
      · refine ⟨fun q => ?_, fun q => ?_⟩
        · simp [q, r1]
        · simp [q, r0]
  exact h
theorem k18 : TabOK Try.prog T18 := fn_tabA k28 hm Try.func18 (by kernel_rfl) (by kernel_rfl) sS.ok (by kernel_rfl) (fun _ => []) fun m hp => by
  have h : vc18 m := by
    rw [← vc18_eq]
    simp [-List.getD_eq_getElem?_getD, W_def, by_def]
  exact h
theorem k20 : TabOK Try.prog T20 := fn_tabA k18 hm Try.func20 (by kernel_rfl) (by kernel_rfl) sS.ok (by kernel_rfl) (fun _ => []) fun m hp => by
  have h : vc20 m := by
    rw [← vc20_eq]
    simp [-List.getD_eq_getElem?_getD, W_def, by_def]
  exact h
theorem rM_bd {s : Bs} : (rM s = 0 ↔ rdB s = false) ∧ (rdB s = true → rM s = by' s 0 ∧ 1 ≤ by' s 0 ∧ by' s 0 ≤ 3) := by
  cases h : rdB s
  · simp [rM, h]
  · have : hOK s = true := by simp only [rdB, Bool.and_eq_true] at h; exact h.1
    have := hOK_iff.1 this
    simp [rM, h]; omega
theorem k27 : TabOK Try.prog T27 := fn_tabA k20 hm Try.func27 (by kernel_rfl) (by kernel_rfl) sS.ok (by kernel_rfl) (fun _ => []) fun m hp => by
  have h : vc27 m := by
    rw [← vc27_eq]
    simp [-List.getD_eq_getElem?_getD, W_def, by_def]
    refine ⟨fun h => ?_, fun h => ?_⟩
    · obtain ⟨a, b, c, d⟩ := cur_bad (m := m) (by omega)
      rw [a, b, d]; simp
    · have hl : m.length = 2062 := by omega
      obtain ⟨e0, e1⟩ := sl_len hl
      obtain ⟨c1, c2, c3⟩ := cur_good hl
      rw [c1, c2, c3, ← sl_eq0, ← sl_eq1 hl, hl]
      obtain ⟨p0, q0⟩ := @rM_bd (slS m 0)
      obtain ⟨p1, q1⟩ := @rM_bd (slS m 1)
      have w : rdB (slS m 0) = true → W ((rM (slS m 0)).tmod 3 + 1) = nxt (by' (slS m 0) 0) := fun h => by
        obtain ⟨a, b, c⟩ := q0 h
        rw [a, Int.tmod_eq_emod_of_nonneg (by omega), W_id (by omega) (by omega)]
        simp only [nxt]
      have hn : newer m = decide (by' (slS m 1) 0 = nxt (by' (slS m 0) 0)) := by simp only [newer]
      simp only [v0, v1, hn]
      cases h0 : rdB (slS m 0) <;> cases h1 : rdB (slS m 1) <;> simp [h0, h1] at p0 q0 p1 q1 w ⊢ <;> simp [p0, p1]
      · simp [q0.1, q1.1] at w ⊢
        rw [w]
        exact ⟨fun h => h, fun h => h⟩
  exact h
theorem curI_bd (m : Bs) : 0 ≤ curI m ∧ curI m ≤ 1 := by
  simp only [curI]
  split
  · split
    · split <;> omega
    · split <;> omega
  · omega
theorem curE_ok {m : Bs} (h : curE m = 0) : m.length = 2062 ∧ rdB (slS m (curI m)) = true := by
  have hl : m.length = 2062 := by
    by_cases hl : m.length = 2062
    · exact hl
    · have := (cur_bad hl).2.2.2; omega
  obtain ⟨c1, c2, c3⟩ := cur_good hl
  refine ⟨hl, ?_⟩
  rw [c1]
  rw [c3] at h
  simp only [v0, v1] at h ⊢
  cases h0 : rdB (slS m 0) <;> cases h1 : rdB (slS m 1) <;> simp [h0, h1] at h ⊢
  all_goals first | assumption | (split <;> assumption)
theorem k26 : TabOK Try.prog T26 := fn_tabA k27 hm Try.func26 (by kernel_rfl) (by kernel_rfl) sS.ok (by kernel_rfl) (fun _ => []) fun m hp => by
  have h : vc26 m := by
    rw [← vc26_eq]
    have cb := curI_bd m
    simp [-List.getD_eq_getElem?_getD, W_def, by_def]
    rw [W_id (n := curI m * 1031) (by omega) (by omega), W_id (n := curI m * 1031 + 1031) (by omega) (by omega)]
    refine ⟨fun h => by simp [curD, h], fun h => ?_⟩
    obtain ⟨hl, hb⟩ := curE_ok h
    have e : List.drop (curI m * 1031).toNat (List.take (curI m * 1031 + 1031).toNat m) = slS m (curI m) := by
      simp only [slS]
      rw [show curI m * 1031 + 1031 = (curI m + 1) * 1031 by omega]
    rw [e]
    refine ⟨by omega, by omega, ?_, h.symm⟩
    simp [rR, hb, curD, h]
  exact h
theorem bys_len (l : List Int) : (bys l).length = l.length := by simp [bys]
theorem hdI_len (d : Bs) : (hdI d).length = 6 := by simp [hdI]
theorem byteSV_is (s : Bs) (j : Nat) : isByte (byteSV s j) = true := rfl
theorem byteSV_of (s : Bs) (j : Nat) : Sx.byteOf (byteSV s j) = s.getD j 0 := by
  simp only [byteSV, Sx.byteOf]
  rw [Int.toNat_natCast, UInt8.ofNat_toNat]
theorem mrgB (c : Bool) (s : Bs) (j : Nat) (n : Int) : mergeL c (byteSV s j) [SV.int IntKind.u8 n] = [SV.int IntKind.u8 (if c then ((s.getD j 0).toNat : Int) else n)] := rfl
theorem mrgI (c : Bool) (a n : Int) : mergeL c [SV.int IntKind.u8 a] [SV.int IntKind.u8 n] = [SV.int IntKind.u8 (if c then a else n)] := rfl
theorem fmt_len {d : Bs} (h : d.length ≤ 1024) : fmtS d = 1 :: (bys (hdI d) ++ (d ++ List.replicate (2055 - d.length) 0)) := by simp [fmtS]; omega
theorem hdI_bd {d : Bs} (h : d.length ≤ 1024) : ∀ i, i < 6 → 0 ≤ (hdI d).getD i 0 ∧ (hdI d).getD i 0 < 256 := fun i hi => by
  have := sumS_bd d
  rcases (show i = 0 ∨ i = 1 ∨ i = 2 ∨ i = 3 ∨ i = 4 ∨ i = 5 by omega) with rfl | rfl | rfl | rfl | rfl | rfl <;> simp [hdI] <;> omega
theorem bys_at (l : List Int) {i : Nat} (h : i < l.length) : (bys l).getD i 0 = UInt8.ofNat (l.getD i 0).toNat := by
  simp [bys, List.getD_eq_getElem?_getD, h]
/-- A formatted memory's bytes. -/
theorem fmt_at {d : Bs} (h : d.length ≤ 1024) (j : Nat) : (fmtS d).getD j 0 = if j = 0 then 1 else if j < 7 then UInt8.ofNat ((hdI d).getD (j - 1) 0).toNat else if j < 7 + d.length then d.getD (j - 7) 0 else 0 := by
  rw [fmt_len h]
  cases j with
  | zero => rfl
  | succ j =>
    have hl := bys_len (hdI d)
    rw [hdI_len] at hl
    simp only [List.getD_cons_succ, Nat.add_eq_zero_iff, Nat.succ_ne_self, and_false, if_false, Nat.add_sub_cancel]
    by_cases h1 : j < 6
    · rw [if_pos (by omega), ← bys_at _ (by rw [hdI_len]; exact h1)]
      simp only [List.getD_eq_getElem?_getD]
      rw [List.getElem?_append_left (by omega)]
    · rw [if_neg (by omega)]
      simp only [List.getD_eq_getElem?_getD]
      rw [List.getElem?_append_right (by omega), hl]
      by_cases h2 : j < 6 + d.length
      · rw [if_pos (by omega), List.getElem?_append_left (by omega), show j + 1 - 7 = j - 6 by omega]
      · rw [if_neg (by omega), List.getElem?_append_right (by omega), List.getElem?_replicate]; split <;> rfl
theorem fmt_size {d : Bs} (h : d.length ≤ 1024) : (fmtS d).length = 2062 := by
  rw [fmt_len h]
  simp only [List.length_cons, List.length_append, bys_len, hdI_len, List.length_replicate]; omega
theorem list_of {n : Nat} {l : Bs} {p : Nat → UInt8} (hl : l.length = n) (h : ∀ j, j < n → p j = l.getD j 0) : (List.range n).map p = l := by
  refine List.ext_getElem (by simp [hl]) fun j h1 h2 => ?_
  rw [List.getElem_map, List.getElem_range, h j (by omega)]
  simp [List.getD_eq_getElem?_getD, h2]
theorem ofNat_by (s : Bs) (j : Nat) : UInt8.ofNat (((s.getD j 0).toNat : Int)).toNat = s.getD j 0 := by rw [Int.toNat_natCast, UInt8.ofNat_toNat]
theorem k19 : TabOK Try.prog T19 := fn_tabA k26 hm Try.func19 (by kernel_rfl) (by kernel_rfl) sS.ok (by kernel_rfl) (fun _ => []) fun d hp => by
  have h : vc19 d := by
    rw [← vc19_eq]
    simp [-List.getD_eq_getElem?_getD, W_def, by_def]
    refine ⟨fun h => by simp [fmtS, fmtE]; omega, fun h => ?_⟩
    have hd : d.length ≤ 1024 := by omega
    rw [hdI_len]
    refine ⟨hd, fun j hj => by rw [mrgI, mrgI, mrgB]; rfl, ?_, by simp [fmtE]; omega⟩
    simp only [bytesOf]
    refine list_of (fmt_size hd) fun j hj => ?_
    rw [fmt_at hd, mrgI, mrgI, mrgB]
    simp only [Sx.byteOf]
    by_cases h0 : j = 0
    · subst h0; rfl
    · by_cases h1 : j < 7
      · rw [if_neg h0, if_pos h1]
        simp [h0, show ¬ 7 ≤ j by omega, show 1 ≤ j by omega, h1]
      · by_cases h2 : j < 7 + d.length
        · rw [if_neg h0, if_neg h1, if_pos h2, ← ofNat_by]
          simp [-List.getD_eq_getElem?_getD, show 7 ≤ j by omega, show j < 7 + min d.length 2055 by omega]
        · rw [if_neg h0, if_neg h1, if_neg h2]
          simp [h0, show ¬ j < 7 + min d.length 2055 by omega, h1]
  exact h
theorem getD_appL {l r : Bs} {j : Nat} (h : j < l.length) : (l ++ r).getD j 0 = l.getD j 0 := by
  simp only [List.getD_eq_getElem?_getD]; rw [List.getElem?_append_left h]
theorem getD_appR {l r : Bs} {j : Nat} (h : l.length ≤ j) : (l ++ r).getD j 0 = r.getD (j - l.length) 0 := by
  simp only [List.getD_eq_getElem?_getD]; rw [List.getElem?_append_right h]
theorem k22 : TabOK Try.prog T22 := fn_tabA k19 hm Try.func22 (by kernel_rfl) (by kernel_rfl) sS.ok (by kernel_rfl) (fun _ => []) fun d hp => by
  have h : vc22 d := by
    rw [← vc22_eq]
    simp [-List.getD_eq_getElem?_getD, W_def, by_def]
    refine ⟨fun h => by simp [fmtS, fmtE]; omega, fun h => ?_⟩
    have hd : d.length ≤ 1024 := by omega
    have hl := bys_len (hdI d)
    rw [hdI_len] at hl
    rw [hl]
    refine ⟨hd, by omega, by omega, fun j hj => by rw [mrgB]; rfl, ?_, by simp [fmtE]; omega⟩
    simp only [bytesOf]
    refine list_of (fmt_size hd) fun j hj => ?_
    have e : fmtS d = (1 :: (bys (hdI d) ++ d)) ++ List.replicate (2055 - d.length) 0 := by rw [fmt_len hd]; simp
    have hx : (1 :: (bys (hdI d) ++ d)).length = 7 + d.length := by simp only [List.length_cons, List.length_append, hl]; omega
    rw [e, mrgB]
    simp only [Sx.byteOf]
    by_cases h2 : j < 7 + d.length
    · rw [decide_eq_true (by omega), if_pos rfl, ofNat_by, getD_appL (by rw [hx]; exact h2)]
    · rw [decide_eq_false (by omega), if_neg (by decide), getD_appR (by rw [hx]; omega)]
      simp only [List.getD_eq_getElem?_getD, List.getElem?_replicate]
      split <;> rfl
  exact h
end Go.Proofs.Nv
