import Derived.Test.YtkpgbnchidjapaaEngZa
import Derived.Test.YtkpgbnchidjapaaProg
import Derived.Test.YtkpgbnchidjapaaRows
namespace Go.Proofs.Nv
set_option linter.unusedVariables false
set_option linter.unusedSimpArgs false
open Go Go.Sx Go.Proofs
set_option maxRecDepth 100000
-- SAME: sm
-- ABBR: IntKind.i64.wrap ==> W
abbrev iS (n : Int) : SV := .int .i64 n
theorem hm : Try.prog.follows .mixedOrders = true := by kernel_rfl
abbrev cva (T : List (Nat × Ctr)) (fn : Func) (A : List Ann) (args : List SV) (r : SV) : Prop := callVA Try.prog (tab T) fn (codeOf fn) A args r
/-- A thing is itself: a short name in printed conditions. -/
def sm {α : Type} (x : α) : Prop := x = x
@[simp] theorem sm_iff {α : Type} (x : α) : sm x ↔ True := ⟨fun _ => trivial, fun _ => rfl⟩
def W (n : Int) : Int := IntKind.i64.wrap n
abbrev Bs := List UInt8
def by' (s : Bs) (i : Nat) : Int := ((s.getD i 0).toNat : Int)
def two (s : Bs) (i : Nat) : Int := by' s i + 256 * by' s (i + 1)
def sumTo (s : Bs) : Nat → Int
  | 0 => 0
  | n + 1 => (sumTo s n + ((n : Int) + 1) * by' s n) % 65521
def sumS (s : Bs) : Int := sumTo s s.length
def hOK (s : Bs) : Bool := decide (1 ≤ by' s 0 ∧ by' s 0 ≤ 3 ∧ two s 3 = 65535 - two s 1 ∧ two s 1 ≤ 1024)
def datS (s : Bs) : Bs := (s.take (7 + two s 1).toNat).drop 7
def rdD (s : Bs) : Bs := if hOK s then datS s else []
def rdB (s : Bs) : Bool := hOK s && decide (two s 5 = sumS (datS s))
def slS (m : Bs) (i : Int) : Bs := (m.take ((i + 1) * 1031).toNat).drop (i * 1031).toNat
def nxt (c : Int) : Int := c % 3 + 1
def rM (s : Bs) : Int := if rdB s then by' s 0 else 0
def rR (s : Bs) : Bs := if rdB s then datS s else []
def hdI (d : Bs) : List Int := [(d.length : Int) % 256, (d.length : Int) / 256, 255 - (d.length : Int) % 256, 255 - (d.length : Int) / 256, sumS d % 256, sumS d / 256]
def bys (l : List Int) : Bs := l.map fun n => UInt8.ofNat n.toNat
attribute [irreducible] W by' two sumTo sumS hOK datS rdD rdB slS nxt rM rR hdI bys
def sI := Sig.one (argI .i64)
def sU := Sig.one (argI .u8)
def sS := Sig.one argS
def sSI := Sig.cons argS sI
def T39 : List (Nat × Ctr) := [(39, ctr sSI.dec (fun a => 0 ≤ a.2 ∧ a.2 + 1 < a.1.length ∧ a.1.length ≤ 1000000) (fun a => iS (two a.1 a.2.toNat)))]
def vc39 (s : Bs) (i : Int) : Prop := cva [] Try.f39 [] [.str s, iS i] (iS (two s i.toNat))
def sumI (s : Bs) (i n : Int) : Prop := 0 ≤ i ∧ i ≤ s.length ∧ n = sumTo s i.toNat
attribute [irreducible] sumI
abbrev XX := Int × Int
def A37 (s : Bs) : List Ann := [⟨.unit, .list [.int .i64 (.tm 4), .int .i64 (.tm 3)], fun _ (x : XX) => sumI s x.1 x.2, fun _ (x : XX) => ((s.length : Int) - x.1).toNat⟩]
def cSum : Ctr := ctr sS.dec (fun a => a.length ≤ 1000000) (fun a => iS (sumS a))
def T37 : List (Nat × Ctr) := (37, cSum) :: T39
def vc37 (s : Bs) : Prop := cva T39 Try.f37 (A37 s) [.str s] (iS (sumS s))
def T38 : List (Nat × Ctr) := (38, cSum) :: T37
def vc38 (s : Bs) : Prop := cva T37 Try.f38 (A37 s) [.str s] (iS (sumS s))
def T36 : List (Nat × Ctr) := (36, ctr sSI.dec (fun a => a.1.length = 2062 ∧ 0 ≤ a.2 ∧ a.2 ≤ 1) (fun a => .str (slS a.1 a.2))) :: T38
def vc36 (s : Bs) (i : Int) : Prop := cva T38 Try.f36 [] [.str s, iS i] (.str (slS s i))
def T31 : List (Nat × Ctr) := (31, ctr sU.dec (fun a => 0 ≤ a ∧ a < 256) (fun a => .int .u8 (nxt a))) :: T36
def vc31 (c : Int) : Prop := cva T36 Try.f31 [] [.int .u8 c] (.int .u8 (nxt c))
def cWr : Ctr := ctr sS.dec (fun a => a.length ≤ 1000000) (fun a => iS (8 + (a.length : Int)))
def T23 : List (Nat × Ctr) := (23, cWr) :: T31
def vc23 (s : Bs) : Prop := cva T31 Try.f23 [] [.str s] (iS (8 + (s.length : Int)))
def T34 : List (Nat × Ctr) := (34, cWr) :: T23
def vc34 (s : Bs) : Prop := cva T23 Try.f34 [] [.str s] (iS (8 + (s.length : Int)))
def T35 : List (Nat × Ctr) := (35, ctr sS.dec (fun a => a.length = 1031) (fun a => .tup [.str (rdD a), .bool (rdB a)])) :: T34
def vc35 (s : Bs) : Prop := cva T34 Try.f35 [] [.str s] (.tup [.str (rdD s), .bool (rdB s)])
def T32 : List (Nat × Ctr) := (32, ctr sS.dec (fun a => a.length = 1031) (fun a => .tup [iS (rM a), .str (rR a)])) :: T35
def vc32 (s : Bs) : Prop := cva T35 Try.f32 [] [.str s] (.tup [iS (rM s), .str (rR s)])
def T30 : List (Nat × Ctr) := (30, ctr sS.dec (fun a => a.length ≤ 1024) (fun a => encR (codI .u8) (hdI a))) :: T32
def vc30 (s : Bs) : Prop := cva T32 Try.f30 [] [.str s] (encR (codI .u8) (hdI s))
def T33 : List (Nat × Ctr) := (33, ctr sS.dec (fun a => a.length ≤ 1024) (fun a => .str (bys (hdI a)))) :: T30
def vc33 (s : Bs) : Prop := cva T30 Try.f33 [] [.str s] (.str (bys (hdI s)))
theorem vc39_eq (s : Bs) (i : Int) : (True ∧ ((0 : Int) ≤ i ∧ i < ↑(List.length s)) ∧ ((0 : Int) ≤ W (i + (1 : Int)) ∧ W (i + (1 : Int)) < ↑(List.length s)) ∧ IsT true ∧ True ∧ W (W ↑(List.getD s i.toNat
    (0 : UInt8)).toNat + W ((256 : Int) * W ↑(List.getD s (W (i + (1 : Int))).toNat (0 : UInt8)).toNat)) = two s i.toNat ∧ True) = vc39 s i := by kernel_rfl
theorem vc37_eq (s : Bs) : (True ∧ True ∧ True ∧ (sumI s (0 : Int) (0 : Int) ∧ (s = s ∧ True ∧ sm ((0 : Int)) ∧ sm ((0 : Int)) ∧ sm ((0 : Int)) ∧ True ∧ True ∧ True ∧ True ∧ True ∧ True ∧ True
    ∧ True ∧ True ∧ True ∧ True ∧ True ∧ True ∧ True ∧ True ∧ True ∧ True ∧ True) ∧ True) ∧ ∀ (n n_1 : Int), sumI s n n_1 → True ∧ (decide (n < ↑(List.length s)) = true
    → ((0 : Int) ≤ n ∧ n < ↑(List.length s)) ∧ (65521 : Int) ≠ (0 : Int) ∧ True ∧ True ∧ sumI s (W (n + (1 : Int))) ((W (n_1 + W (W (n + (1 : Int)) * W ↑(List.getD s
    n.toNat (0 : UInt8)).toNat))).tmod (65521 : Int)) ∧ (↑(List.length s) - W (n + (1 : Int))).toNat < (↑(List.length s) - n).toNat ∧ (s = s ∧ True ∧ sm ((0 : Int))
    ∧ sm ((W (n_1 + W (W (n + (1 : Int)) * W ↑(List.getD s n.toNat (0 : UInt8)).toNat))).tmod (65521 : Int)) ∧ sm (W (n + (1 : Int))) ∧ True ∧ True ∧ True ∧ True ∧ True
    ∧ True ∧ True ∧ True ∧ True ∧ True ∧ True ∧ True ∧ True ∧ True ∧ True ∧ True ∧ True ∧ True) ∧ True) ∧ (decide (n < ↑(List.length s)) = false → True ∧ True ∧ n_1
    = sumS s ∧ True)) = vc37 s := by kernel_rfl
theorem vc38_eq (s : Bs) : (True ∧ True ∧ True ∧ (sumI s (0 : Int) (0 : Int) ∧ (s = s ∧ True ∧ sm ((0 : Int)) ∧ sm ((0 : Int)) ∧ sm ((0 : Int)) ∧ True ∧ True ∧ True ∧ True ∧ True ∧ True ∧ True
    ∧ True ∧ True ∧ True ∧ True ∧ True ∧ True ∧ True ∧ True ∧ True ∧ True ∧ True) ∧ True) ∧ ∀ (n n_1 : Int), sumI s n n_1 → True ∧ (decide (n < ↑(List.length s)) = true
    → ((0 : Int) ≤ n ∧ n < ↑(List.length s)) ∧ (65521 : Int) ≠ (0 : Int) ∧ True ∧ True ∧ sumI s (W (n + (1 : Int))) ((W (n_1 + W (W (n + (1 : Int)) * W ↑(List.getD s
    n.toNat (0 : UInt8)).toNat))).tmod (65521 : Int)) ∧ (↑(List.length s) - W (n + (1 : Int))).toNat < (↑(List.length s) - n).toNat ∧ (s = s ∧ True ∧ sm ((0 : Int))
    ∧ sm ((W (n_1 + W (W (n + (1 : Int)) * W ↑(List.getD s n.toNat (0 : UInt8)).toNat))).tmod (65521 : Int)) ∧ sm (W (n + (1 : Int))) ∧ True ∧ True ∧ True ∧ True ∧ True
    ∧ True ∧ True ∧ True ∧ True ∧ True ∧ True ∧ True ∧ True ∧ True ∧ True ∧ True ∧ True ∧ True) ∧ True) ∧ (decide (n < ↑(List.length s)) = false → True ∧ True ∧ n_1
    = sumS s ∧ True)) = vc38 s := by kernel_rfl
theorem vc36_eq (s : Bs) (i : Int) : (True ∧ ((0 : Int) ≤ W (i * (1031 : Int)) ∧ W (i * (1031 : Int)) ≤ W (W (i + (1 : Int)) * (1031 : Int)) ∧ W (W (i + (1 : Int)) * (1031 : Int)) ≤ ↑(List.length s))
    ∧ True ∧ True ∧ List.drop (W (i * (1031 : Int))).toNat (List.take (W (W (i + (1 : Int)) * (1031 : Int))).toNat s) = slS s i ∧ True) = vc36 s i := by kernel_rfl
theorem vc31_eq (c : Int) : (True ∧ (3 : Int) ≠ (0 : Int) ∧ True ∧ True ∧ IntKind.u8.wrap (c.tmod (3 : Int) + (1 : Int)) = nxt c ∧ True) = vc31 c := by kernel_rfl
theorem vc23_eq (s : Bs) : (True ∧ True ∧ True ∧ W ((8 : Int) + ↑(List.length s)) = (8 : Int) + ↑(List.length s) ∧ True) = vc23 s := by kernel_rfl
theorem vc34_eq (s : Bs) : (True ∧ True ∧ True ∧ W ((8 : Int) + ↑(List.length s)) = (8 : Int) + ↑(List.length s) ∧ True) = vc34 s := by kernel_rfl
theorem vc35_eq (s : Bs) : (True ∧ True ∧ True ∧ ((True ∧ True) ∧ (0 : Int) ≤ (1 : Int) ∧ (1 : Int) + (1 : Int) < ↑(List.length s) ∧ List.length s ≤ (1000000 : Nat)) ∧ True ∧ ((0 : Int) ≤ (0
    : Int) ∧ (0 : Int) < ↑(List.length s)) ∧ (decide (↑(List.getD s (0 : Nat) (0 : UInt8)).toNat < (1 : Int)) = true → True ∧ True ∧ True ∧ True ∧ (Array.toList #[]
    = rdD s ∧ rdB s = false ∧ True) ∧ True) ∧ (decide (↑(List.getD s (0 : Nat) (0 : UInt8)).toNat < (1 : Int)) = false → ((0 : Int) ≤ (0 : Int) ∧ (0 : Int) < ↑(List.length
    s)) ∧ (decide (↑(List.getD s (0 : Nat) (0 : UInt8)).toNat > (3 : Int)) = true → True ∧ True ∧ True ∧ True ∧ (Array.toList #[] = rdD s ∧ rdB s = false ∧ True) ∧ True)
    ∧ (decide (↑(List.getD s (0 : Nat) (0 : UInt8)).toNat > (3 : Int)) = false → True ∧ True ∧ ((True ∧ True) ∧ (0 : Int) ≤ (3 : Int) ∧ (3 : Int) + (1 : Int) < ↑(List.length
    s) ∧ List.length s ≤ (1000000 : Nat)) ∧ ((two s (Int.toNat (3 : Int)) != W ((65535 : Int) - two s (Int.toNat (1 : Int)))) = true → True ∧ True ∧ True ∧ True ∧ (Array.toList
    #[] = rdD s ∧ rdB s = false ∧ True) ∧ True) ∧ ((two s (Int.toNat (3 : Int)) != W ((65535 : Int) - two s (Int.toNat (1 : Int)))) = false → True ∧ (decide (two s (Int.toNat
    (1 : Int)) > (1024 : Int)) = true → True ∧ True ∧ True ∧ (Array.toList #[] = rdD s ∧ rdB s = false ∧ True) ∧ True) ∧ (decide (two s (Int.toNat (1 : Int)) > (1024
    : Int)) = false → ((0 : Int) ≤ (7 : Int) ∧ (7 : Int) ≤ W ((7 : Int) + two s (Int.toNat (1 : Int))) ∧ W ((7 : Int) + two s (Int.toNat (1 : Int))) ≤ ↑(List.length
    s)) ∧ True ∧ True ∧ True ∧ ((True ∧ True) ∧ (0 : Int) ≤ (5 : Int) ∧ (5 : Int) + (1 : Int) < ↑(List.length s) ∧ List.length s ≤ (1000000 : Nat)) ∧ True ∧ (True ∧
    (List.drop (7 : Nat) (List.take (W ((7 : Int) + two s (Int.toNat (1 : Int)))).toNat s)).length ≤ (1000000 : Nat)) ∧ True ∧ True ∧ True ∧ (List.drop (7 : Nat) (List.take
    (W ((7 : Int) + two s (Int.toNat (1 : Int)))).toNat s) = rdD s ∧ (two s (Int.toNat (5 : Int)) == sumS (List.drop (7 : Nat) (List.take (W ((7 : Int) + two s (Int.toNat
    (1 : Int)))).toNat s))) = rdB s ∧ True) ∧ True))))) = vc35 s := by kernel_rfl
theorem vc32_eq (s : Bs) : (True ∧ ((0 : Int) ≤ (1 : Int) ∧ (1 : Int) < ↑(List.length s)) ∧ ((0 : Int) ≤ (2 : Int) ∧ (2 : Int) < ↑(List.length s)) ∧ IsT true ∧ ((0 : Int) ≤ (0 : Int) ∧ (0 :
    Int) < ↑(List.length s)) ∧ (decide (↑(List.getD s (0 : Nat) (0 : UInt8)).toNat < (1 : Int)) = true → IsT true ∧ True ∧ True ∧ True ∧ ((0 : Int) = rM s ∧ Array.toList
    #[] = rR s ∧ True) ∧ True) ∧ (decide (↑(List.getD s (0 : Nat) (0 : UInt8)).toNat < (1 : Int)) = false → ((0 : Int) ≤ (0 : Int) ∧ (0 : Int) < ↑(List.length s)) ∧
    (decide (↑(List.getD s (0 : Nat) (0 : UInt8)).toNat > (3 : Int)) = true → IsT true ∧ True ∧ True ∧ True ∧ ((0 : Int) = rM s ∧ Array.toList #[] = rR s ∧ True) ∧ True)
    ∧ (decide (↑(List.getD s (0 : Nat) (0 : UInt8)).toNat > (3 : Int)) = false → ((0 : Int) ≤ (3 : Int) ∧ (3 : Int) < ↑(List.length s)) ∧ ((0 : Int) ≤ (1 : Int) ∧ (1
    : Int) < ↑(List.length s)) ∧ ((↑(List.getD s (3 : Nat) (0 : UInt8)).toNat != IntKind.u8.wrap ((255 : Int) - ↑(List.getD s (1 : Nat) (0 : UInt8)).toNat)) = true →
    IsT true ∧ True ∧ True ∧ True ∧ ((0 : Int) = rM s ∧ Array.toList #[] = rR s ∧ True) ∧ True) ∧ ((↑(List.getD s (3 : Nat) (0 : UInt8)).toNat != IntKind.u8.wrap ((255
    : Int) - ↑(List.getD s (1 : Nat) (0 : UInt8)).toNat)) = false → ((0 : Int) ≤ (4 : Int) ∧ (4 : Int) < ↑(List.length s)) ∧ ((0 : Int) ≤ (2 : Int) ∧ (2 : Int) < ↑(List.length
    s)) ∧ ((↑(List.getD s (4 : Nat) (0 : UInt8)).toNat != IntKind.u8.wrap ((255 : Int) - ↑(List.getD s (2 : Nat) (0 : UInt8)).toNat)) = true → IsT true ∧ True ∧ True
    ∧ True ∧ ((0 : Int) = rM s ∧ Array.toList #[] = rR s ∧ True) ∧ True) ∧ ((↑(List.getD s (4 : Nat) (0 : UInt8)).toNat != IntKind.u8.wrap ((255 : Int) - ↑(List.getD
    s (2 : Nat) (0 : UInt8)).toNat)) = false → IsT true ∧ (decide (W (W ↑(List.getD s (1 : Nat) (0 : UInt8)).toNat + W ((256 : Int) * W ↑(List.getD s (2 : Nat) (0 :
    UInt8)).toNat)) > (1024 : Int)) = true → True ∧ True ∧ True ∧ ((0 : Int) = rM s ∧ Array.toList #[] = rR s ∧ True) ∧ True) ∧ (decide (W (W ↑(List.getD s (1 : Nat)
    (0 : UInt8)).toNat + W ((256 : Int) * W ↑(List.getD s (2 : Nat) (0 : UInt8)).toNat)) > (1024 : Int)) = false → ((0 : Int) ≤ (7 : Int) ∧ (7 : Int) ≤ W ((7 : Int)
    + W (W ↑(List.getD s (1 : Nat) (0 : UInt8)).toNat + W ((256 : Int) * W ↑(List.getD s (2 : Nat) (0 : UInt8)).toNat))) ∧ W ((7 : Int) + W (W ↑(List.getD s (1 : Nat)
    (0 : UInt8)).toNat + W ((256 : Int) * W ↑(List.getD s (2 : Nat) (0 : UInt8)).toNat))) ≤ ↑(List.length s)) ∧ True ∧ True ∧ (True ∧ (List.drop (7 : Nat) (List.take
    (W ((7 : Int) + W (W ↑(List.getD s (1 : Nat) (0 : UInt8)).toNat + W ((256 : Int) * W ↑(List.getD s (2 : Nat) (0 : UInt8)).toNat)))).toNat s)).length ≤ (1000000 :
    Nat)) ∧ ((0 : Int) ≤ (5 : Int) ∧ (5 : Int) < ↑(List.length s)) ∧ ((0 : Int) ≤ (6 : Int) ∧ (6 : Int) < ↑(List.length s)) ∧ IsT true ∧ ((sumS (List.drop (7 : Nat)
    (List.take (W ((7 : Int) + W (W ↑(List.getD s (1 : Nat) (0 : UInt8)).toNat + W ((256 : Int) * W ↑(List.getD s (2 : Nat) (0 : UInt8)).toNat)))).toNat s)) != W (W
    ↑(List.getD s (5 : Nat) (0 : UInt8)).toNat + W ((256 : Int) * W ↑(List.getD s (6 : Nat) (0 : UInt8)).toNat))) = true → True ∧ True ∧ True ∧ ((0 : Int) = rM s ∧ Array.toList
    #[] = rR s ∧ True) ∧ True) ∧ ((sumS (List.drop (7 : Nat) (List.take (W ((7 : Int) + W (W ↑(List.getD s (1 : Nat) (0 : UInt8)).toNat + W ((256 : Int) * W ↑(List.getD
    s (2 : Nat) (0 : UInt8)).toNat)))).toNat s)) != W (W ↑(List.getD s (5 : Nat) (0 : UInt8)).toNat + W ((256 : Int) * W ↑(List.getD s (6 : Nat) (0 : UInt8)).toNat)))
    = false → ((0 : Int) ≤ (0 : Int) ∧ (0 : Int) < ↑(List.length s)) ∧ True ∧ True ∧ True ∧ (W ↑(List.getD s (0 : Nat) (0 : UInt8)).toNat = rM s ∧ List.drop (7 : Nat)
    (List.take (W ((7 : Int) + W (W ↑(List.getD s (1 : Nat) (0 : UInt8)).toNat + W ((256 : Int) * W ↑(List.getD s (2 : Nat) (0 : UInt8)).toNat)))).toNat s) = rR s ∧
    True) ∧ True))))))) = vc32 s := by kernel_rfl
theorem vc30_eq (s : Bs) : (True ∧ True ∧ (True ∧ List.length s ≤ (1000000 : Nat)) ∧ True ∧ (0 : Int) ≤ (8 : Int) ∧ (0 : Int) ≤ (8 : Int) ∧ (0 : Int) ≤ (8 : Int) ∧ True ∧ ((0 : Nat) + (6 :
    Nat) ≤ (6 : Nat) ∧ ∀ (i : Nat), i < (6 : Nat) → true = true) ∧ ((6 : Nat) = (hdI s).length ∧ ∀ (i : Nat), i < (6 : Nat) → (if decide ((0 : Nat) + i = (5 : Nat))
    = true then IntKind.u8.wrap (sumS s / (2 : Int) ^ min (8 : Nat) (64 : Nat)) else if decide ((0 : Nat) + i = (4 : Nat)) = true then IntKind.u8.wrap (sumS s) else
    if decide ((0 : Nat) + i = (3 : Nat)) = true then IntKind.u8.wrap ((255 : Int) - IntKind.u8.wrap (↑(List.length s) / (2 : Int) ^ min (8 : Nat) (64 : Nat))) else
    if decide ((0 : Nat) + i = (2 : Nat)) = true then IntKind.u8.wrap ((255 : Int) - IntKind.u8.wrap ↑(List.length s)) else if decide ((0 : Nat) + i = (1 : Nat)) = true
    then IntKind.u8.wrap (↑(List.length s) / (2 : Int) ^ min (8 : Nat) (64 : Nat)) else if decide ((0 : Nat) + i = (0 : Nat)) = true then IntKind.u8.wrap ↑(List.length
    s) else (0 : Int)) = (hdI s).getD i (codI IntKind.u8).dft ∧ True) ∧ True) = vc30 s := by kernel_rfl
theorem vc33_eq (s : Bs) : (True ∧ True ∧ (True ∧ List.length s ≤ (1000000 : Nat)) ∧ True ∧ (0 : Int) ≤ (8 : Int) ∧ (0 : Int) ≤ (8 : Int) ∧ (0 : Int) ≤ (8 : Int) ∧ (0 : Nat) + (6 : Nat) ≤ (6
    : Nat) ∧ (∀ (j : Nat), j < (6 : Nat) → isByte ((if (6 : Nat) = (1 : Nat) then fun x => [SV.int IntKind.u8 (IntKind.u8.wrap (sumS s / (2 : Int) ^ min (8 : Nat) (64
    : Nat)))] else fun i' => mergeL (decide (i' = (5 : Nat))) [SV.int IntKind.u8 (IntKind.u8.wrap (sumS s / (2 : Int) ^ min (8 : Nat) (64 : Nat)))] ((if (6 : Nat) =
    (1 : Nat) then fun x => [SV.int IntKind.u8 (IntKind.u8.wrap (sumS s))] else fun i' => mergeL (decide (i' = (4 : Nat))) [SV.int IntKind.u8 (IntKind.u8.wrap (sumS
    s))] ((if (6 : Nat) = (1 : Nat) then fun x => [SV.int IntKind.u8 (IntKind.u8.wrap ((255 : Int) - IntKind.u8.wrap (↑(List.length s) / (2 : Int) ^ min (8 : Nat) (64
    : Nat))))] else fun i' => mergeL (decide (i' = (3 : Nat))) [SV.int IntKind.u8 (IntKind.u8.wrap ((255 : Int) - IntKind.u8.wrap (↑(List.length s) / (2 : Int) ^ min
    (8 : Nat) (64 : Nat))))] ((if (6 : Nat) = (1 : Nat) then fun x => [SV.int IntKind.u8 (IntKind.u8.wrap ((255 : Int) - IntKind.u8.wrap ↑(List.length s)))] else fun
    i' => mergeL (decide (i' = (2 : Nat))) [SV.int IntKind.u8 (IntKind.u8.wrap ((255 : Int) - IntKind.u8.wrap ↑(List.length s)))] ((if (6 : Nat) = (1 : Nat) then fun
    x => [SV.int IntKind.u8 (IntKind.u8.wrap (↑(List.length s) / (2 : Int) ^ min (8 : Nat) (64 : Nat)))] else fun i' => mergeL (decide (i' = (1 : Nat))) [SV.int IntKind.u8
    (IntKind.u8.wrap (↑(List.length s) / (2 : Int) ^ min (8 : Nat) (64 : Nat)))] ((if (6 : Nat) = (1 : Nat) then fun x => [SV.int IntKind.u8 (IntKind.u8.wrap ↑(List.length
    s))] else fun i' => mergeL (decide (i' = (0 : Nat))) [SV.int IntKind.u8 (IntKind.u8.wrap ↑(List.length s))] ((fun (x : List SV) => SV.int IntKind.u8 (0 : Int) ::
    x) [])) i')) i')) i')) i')) i')) ((0 : Nat) + j)) = true) ∧ True ∧ True ∧ (bytesOf (6 : Nat) fun i => (if (6 : Nat) = (1 : Nat) then fun x => [SV.int IntKind.u8
    (IntKind.u8.wrap (sumS s / (2 : Int) ^ min (8 : Nat) (64 : Nat)))] else fun i' => mergeL (decide (i' = (5 : Nat))) [SV.int IntKind.u8 (IntKind.u8.wrap (sumS s /
    (2 : Int) ^ min (8 : Nat) (64 : Nat)))] ((if (6 : Nat) = (1 : Nat) then fun x => [SV.int IntKind.u8 (IntKind.u8.wrap (sumS s))] else fun i' => mergeL (decide (i'
    = (4 : Nat))) [SV.int IntKind.u8 (IntKind.u8.wrap (sumS s))] ((if (6 : Nat) = (1 : Nat) then fun x => [SV.int IntKind.u8 (IntKind.u8.wrap ((255 : Int) - IntKind.u8.wrap
    (↑(List.length s) / (2 : Int) ^ min (8 : Nat) (64 : Nat))))] else fun i' => mergeL (decide (i' = (3 : Nat))) [SV.int IntKind.u8 (IntKind.u8.wrap ((255 : Int) - IntKind.u8.wrap
    (↑(List.length s) / (2 : Int) ^ min (8 : Nat) (64 : Nat))))] ((if (6 : Nat) = (1 : Nat) then fun x => [SV.int IntKind.u8 (IntKind.u8.wrap ((255 : Int) - IntKind.u8.wrap
    ↑(List.length s)))] else fun i' => mergeL (decide (i' = (2 : Nat))) [SV.int IntKind.u8 (IntKind.u8.wrap ((255 : Int) - IntKind.u8.wrap ↑(List.length s)))] ((if (6
    : Nat) = (1 : Nat) then fun x => [SV.int IntKind.u8 (IntKind.u8.wrap (↑(List.length s) / (2 : Int) ^ min (8 : Nat) (64 : Nat)))] else fun i' => mergeL (decide (i'
    = (1 : Nat))) [SV.int IntKind.u8 (IntKind.u8.wrap (↑(List.length s) / (2 : Int) ^ min (8 : Nat) (64 : Nat)))] ((if (6 : Nat) = (1 : Nat) then fun x => [SV.int IntKind.u8
    (IntKind.u8.wrap ↑(List.length s))] else fun i' => mergeL (decide (i' = (0 : Nat))) [SV.int IntKind.u8 (IntKind.u8.wrap ↑(List.length s))] ((fun (x : List SV) =>
    SV.int IntKind.u8 (0 : Int) :: x) [])) i')) i')) i')) i')) i')) ((0 : Nat) + i)) = bys (hdI s) ∧ True) = vc33 s := by kernel_rfl
theorem W_id {n : Int} (h1 : -9223372036854775808 ≤ n) (h2 : n < 9223372036854775808) : W n = n := by
  unfold W
  simp [IntKind.wrap, IntKind.bits, IntKind.signed]; omega
theorem W_def (n : Int) : IntKind.i64.wrap n = W n := by unfold W; rfl
theorem by_def (s : Bs) (i : Nat) : ((s.getD i 0).toNat : Int) = by' s i := by simp only [by']
theorem by_bd (s : Bs) (i : Nat) : 0 ≤ by' s i ∧ by' s i < 256 := by
  have := (s.getD i 0).toNat_lt
  simp only [by']; omega
theorem two_def (s : Bs) (i : Nat) : by' s i + 256 * by' s (i + 1) = two s i := by simp only [two]
theorem two_bd (s : Bs) (i : Nat) : 0 ≤ two s i ∧ two s i < 65536 := by
  have := by_bd s i; have := by_bd s (i + 1)
  simp only [two]; omega
theorem Wb (s : Bs) (i : Nat) : W (by' s i) = by' s i := by have := by_bd s i; exact W_id (by omega) (by omega)
theorem W256 (s : Bs) (i : Nat) : W (256 * by' s i) = 256 * by' s i := by have := by_bd s i; exact W_id (by omega) (by omega)
theorem Wtwo (s : Bs) (i j : Nat) : W (by' s i + 256 * by' s j) = by' s i + 256 * by' s j := by have := by_bd s i; have := by_bd s j; exact W_id (by omega) (by omega)
theorem Wt (s : Bs) (i : Nat) : W (two s i) = two s i := by have := two_bd s i; exact W_id (by omega) (by omega)
theorem wrap_u8 {n : Int} (h : 0 ≤ n) (h2 : n < 256) : IntKind.u8.wrap n = n := by
  simp [IntKind.wrap, IntKind.bits, IntKind.signed]; omega
theorem u8_mod (n : Int) : IntKind.u8.wrap n = n % 256 := by
  simp [IntKind.wrap, IntKind.bits, IntKind.signed]
theorem sum_bd (s : Bs) : ∀ n : Nat, 0 ≤ sumTo s n ∧ sumTo s n < 65521
  | 0 => by simp only [sumTo]; omega
  | n + 1 => by simp only [sumTo]; omega
theorem sumS_bd (s : Bs) : 0 ≤ sumS s ∧ sumS s < 65521 := by simp only [sumS]; exact sum_bd s _
theorem k39 : TabOK Try.prog T39 := fn_tabA (T := []) trivial hm Try.func39 (by kernel_rfl) (by kernel_rfl) sSI.ok (by kernel_rfl) (fun _ => []) fun a hp => by
  have h : vc39 a.1 a.2 := by
    rw [← vc39_eq]
    obtain ⟨s, i⟩ := a
    obtain ⟨h0, h1, h2⟩ := hp
    dsimp only at h0 h1 h2 ⊢
    have w : W (i + 1) = i + 1 := W_id (by omega) (by omega)
    have e : (i + 1).toNat = i.toNat + 1 := by omega
    simp [-List.getD_eq_getElem?_getD, W_def, w, by_def, Wb, W256, Wtwo, e, two_def, Wt]
    omega
  exact h
theorem sum_mul {n b : Int} (n0 : 0 ≤ n) (n1 : n ≤ 1000000) (b0 : 0 ≤ b) (b1 : b < 256) : 0 ≤ (n + 1) * b ∧ (n + 1) * b ≤ 256000256 := by
  refine ⟨Int.mul_nonneg (by omega) b0, ?_⟩
  have h1 : (n + 1) * b ≤ (n + 1) * 256 := Int.mul_le_mul_of_nonneg_left (by omega) (by omega)
  omega
theorem sum_step {s : Bs} (hl : s.length ≤ 1000000) {i n : Int} (hI : sumI s i n) (h : i < s.length) : (0 ≤ i ∧ i < s.length) ∧ sumI s (W (i + 1)) ((W (n + W (W (i + 1) * W (by' s i.toNat)))).tmod 65521) ∧ max ((s.length : Int) - W (i + 1)) 0 < s.length - i := by
  simp only [sumI] at hI ⊢
  obtain ⟨i0, i1, rfl⟩ := hI
  have w : W (i + 1) = i + 1 := W_id (by omega) (by omega)
  have b := by_bd s i.toNat
  have sb := sum_bd s i.toNat
  have mb := sum_mul i0 (by omega) b.1 b.2
  rw [w, Wb, W_id (n := (i + 1) * by' s i.toNat) (by omega) (by omega), W_id (n := sumTo s i.toNat + (i + 1) * by' s i.toNat) (by omega) (by omega), Int.tmod_eq_emod_of_nonneg (by omega)]
  have e : (i + 1).toNat = i.toNat + 1 := by omega
  refine ⟨⟨i0, h⟩, ⟨by omega, by omega, ?_⟩, by omega⟩
  rw [e]
  simp only [sumTo, Int.toNat_of_nonneg i0]
theorem k37 : TabOK Try.prog T37 := fn_tabA k39 hm Try.func37 (by kernel_rfl) (by kernel_rfl) sS.ok (by kernel_rfl) (fun a => A37 a) fun s hp => by
  have h : vc37 s := by
    rw [← vc37_eq]
    simp [-List.getD_eq_getElem?_getD, W_def, by_def]
    refine ⟨by simp only [sumI]; exact ⟨by omega, by omega, by simp [sumTo]⟩, fun i n hI => ⟨fun h => sum_step hp hI h, fun h => ?_⟩⟩
    simp only [sumI] at hI
    obtain ⟨i0, i1, rfl⟩ := hI
    simp only [sumS]; congr 1; omega
  exact h
theorem k38 : TabOK Try.prog T38 := fn_tabA k37 hm Try.func38 (by kernel_rfl) (by kernel_rfl) sS.ok (by kernel_rfl) (fun a => A37 a) fun s hp => by
  have h : vc38 s := by
    rw [← vc38_eq]
    simp [-List.getD_eq_getElem?_getD, W_def, by_def]
    refine ⟨by simp only [sumI]; exact ⟨by omega, by omega, by simp [sumTo]⟩, fun i n hI => ⟨fun h => sum_step hp hI h, fun h => ?_⟩⟩
    simp only [sumI] at hI
    obtain ⟨i0, i1, rfl⟩ := hI
    simp only [sumS]; congr 1; omega
  exact h
theorem k36 : TabOK Try.prog T36 := fn_tabA k38 hm Try.func36 (by kernel_rfl) (by kernel_rfl) sSI.ok (by kernel_rfl) (fun _ => []) fun a hp => by
  have h : vc36 a.1 a.2 := by
    rw [← vc36_eq]
    obtain ⟨s, i⟩ := a
    obtain ⟨h0, h1, h2⟩ := hp
    dsimp only at h0 h1 h2 ⊢
    simp [-List.getD_eq_getElem?_getD, W_def]
    rw [W_id (n := i * 1031) (by omega) (by omega), W_id (n := i + 1) (by omega) (by omega), W_id (n := (i + 1) * 1031) (by omega) (by omega)]
    refine ⟨by omega, by simp only [slS]⟩
  exact h
theorem k31 : TabOK Try.prog T31 := fn_tabA k36 hm Try.func31 (by kernel_rfl) (by kernel_rfl) sU.ok (by kernel_rfl) (fun _ => []) fun c hp => by
  have h : vc31 c := by
    rw [← vc31_eq]
    simp [-List.getD_eq_getElem?_getD, W_def]
    rw [Int.tmod_eq_emod_of_nonneg hp.1, wrap_u8 (by omega) (by omega)]
    simp only [nxt]
  exact h
theorem k23 : TabOK Try.prog T23 := fn_tabA k31 hm Try.func23 (by kernel_rfl) (by kernel_rfl) sS.ok (by kernel_rfl) (fun _ => []) fun s hp => by
  have h : vc23 s := by
    rw [← vc23_eq]
    simp [-List.getD_eq_getElem?_getD, W_def]
    exact W_id (by omega) (by omega)
  exact h
theorem k34 : TabOK Try.prog T34 := fn_tabA k23 hm Try.func34 (by kernel_rfl) (by kernel_rfl) sS.ok (by kernel_rfl) (fun _ => []) fun s hp => by
  have h : vc34 s := by
    rw [← vc34_eq]
    simp [-List.getD_eq_getElem?_getD, W_def]
    exact W_id (by omega) (by omega)
  exact h
theorem hOK_iff {s : Bs} : hOK s = true ↔ 1 ≤ by' s 0 ∧ by' s 0 ≤ 3 ∧ two s 3 = 65535 - two s 1 ∧ two s 1 ≤ 1024 := by simp only [hOK, decide_eq_true_eq]
theorem rd_bad {s : Bs} (h : ¬ (1 ≤ by' s 0 ∧ by' s 0 ≤ 3 ∧ two s 3 = 65535 - two s 1 ∧ two s 1 ≤ 1024)) : rdD s = [] ∧ rdB s = false := by
  have : hOK s = false := by simp only [hOK]; exact decide_eq_false h
  simp [rdD, rdB, this]
theorem rR_bad {s : Bs} (h : rdB s = false) : 0 = rM s ∧ rR s = [] := by simp [rM, rR, h]
theorem dat_def (s : Bs) : List.drop 7 (List.take (7 + two s 1).toNat s) = datS s := by simp only [datS]
theorem dat_len {s : Bs} (h : s.length = 1031) : (datS s).length ≤ 1024 := by
  have := two_bd s 1
  simp only [datS, List.length_drop, List.length_take]; omega
theorem k35 : TabOK Try.prog T35 := fn_tabA k34 hm Try.func35 (by kernel_rfl) (by kernel_rfl) sS.ok (by kernel_rfl) (fun _ => []) fun s hp => by
  have h : vc35 s := by
    rw [← vc35_eq]
    have t1 := two_bd s 1
    simp [-List.getD_eq_getElem?_getD, W_def, by_def]
    rw [W_id (n := 65535 - two s 1) (by omega) (by omega), W_id (n := 7 + two s 1) (by omega) (by omega), dat_def]
    refine ⟨by omega, by omega, fun h => rd_bad (by omega), fun h0 => ⟨by omega, fun h => rd_bad (by omega), fun h1 => ⟨by omega, fun h => rd_bad (fun c => h c.2.2.1), fun h2 => ⟨fun h => rd_bad (by omega), fun h3 => ?_⟩⟩⟩⟩
    have ok : hOK s = true := hOK_iff.2 ⟨h0, h1, h2, h3⟩
    refine ⟨by omega, by omega, by omega, by simp [rdD, ok], ?_⟩
    simp only [rdB, ok, Bool.true_and]
    rfl
  exact h
theorem k32 : TabOK Try.prog T32 := fn_tabA k35 hm Try.func32 (by kernel_rfl) (by kernel_rfl) sS.ok (by kernel_rfl) (fun _ => []) fun s hp => by
  have h : vc32 s := by
    rw [← vc32_eq]
    have t1 := two_bd s 1
    have b1 := by_bd s 1
    have b2 := by_bd s 2
    have b3 := by_bd s 3
    have b4 := by_bd s 4
    have e1 : two s 1 = by' s 1 + 256 * by' s 2 := by simp only [two]
    have e3 : two s 3 = by' s 3 + 256 * by' s 4 := by simp only [two]
    have e5 : two s 5 = by' s 5 + 256 * by' s 6 := by simp only [two]
    simp [-List.getD_eq_getElem?_getD, W_def, by_def, Wb, W256, Wtwo]
    rw [← e1, ← e5, wrap_u8 (n := 255 - by' s 1) (by omega) (by omega), wrap_u8 (n := 255 - by' s 2) (by omega) (by omega), W_id (n := 7 + two s 1) (by omega) (by omega), dat_def]
    have bad : ¬ (1 ≤ by' s 0 ∧ by' s 0 ≤ 3 ∧ two s 3 = 65535 - two s 1 ∧ two s 1 ≤ 1024) → 0 = rM s ∧ rR s = [] := fun h => rR_bad (rd_bad h).2
    refine ⟨by omega, by omega, by omega, fun h => bad (by omega), fun h0 => ⟨by omega, fun h => bad (by omega), fun h1 => ⟨by omega, by omega, fun h => bad (by omega), fun h2 => ⟨by omega, by omega, fun h => bad (by omega), fun h4 => ⟨fun h => bad (by omega), fun h3 => ?_⟩⟩⟩⟩⟩
    have ok : hOK s = true := hOK_iff.2 (by omega)
    refine ⟨by omega, by omega, by omega, by omega, fun h => rR_bad ?_, fun h => ⟨by omega, ?_⟩⟩
    · simp only [rdB, ok, Bool.true_and]; exact decide_eq_false fun c => h c.symm
    · have hb : rdB s = true := by simp only [rdB, ok, Bool.true_and]; exact decide_eq_true h.symm
      simp [rM, rR, hb]
  exact h
theorem hd_vals (s : Bs) (hl : s.length ≤ 1024) : IntKind.u8.wrap (sumS s / 256) = sumS s / 256 ∧ IntKind.u8.wrap (sumS s) = sumS s % 256 ∧ IntKind.u8.wrap ((s.length : Int) / 256) = (s.length : Int) / 256 ∧ IntKind.u8.wrap (s.length : Int) = (s.length : Int) % 256 ∧
    IntKind.u8.wrap (255 - (s.length : Int) / 256) = 255 - (s.length : Int) / 256 ∧ IntKind.u8.wrap (255 - (s.length : Int) % 256) = 255 - (s.length : Int) % 256 := by
  have := sumS_bd s
  refine ⟨wrap_u8 (by omega) (by omega), u8_mod _, wrap_u8 (by omega) (by omega), u8_mod _, wrap_u8 (by omega) (by omega), wrap_u8 (by omega) (by omega)⟩
theorem k30 : TabOK Try.prog T30 := fn_tabA k32 hm Try.func30 (by kernel_rfl) (by kernel_rfl) sS.ok (by kernel_rfl) (fun _ => []) fun s hp => by
  have h : vc30 s := by
    rw [← vc30_eq]
    simp [-List.getD_eq_getElem?_getD, W_def]
    obtain ⟨e1, e2, e3, e4, e5, e6⟩ := hd_vals s hp
    rw [e1, e2, e3, e4, e5, e6]
    refine ⟨by omega, by simp [hdI], fun i hi => ?_⟩
    rcases (show i = 0 ∨ i = 1 ∨ i = 2 ∨ i = 3 ∨ i = 4 ∨ i = 5 by omega) with rfl | rfl | rfl | rfl | rfl | rfl <;> simp [hdI]
  exact h
theorem k33 : TabOK Try.prog T33 := fn_tabA k30 hm Try.func33 (by kernel_rfl) (by kernel_rfl) sS.ok (by kernel_rfl) (fun _ => []) fun s hp => by
  have h : vc33 s := by
    rw [← vc33_eq]
    simp [-List.getD_eq_getElem?_getD, W_def]
    obtain ⟨e1, e2, e3, e4, e5, e6⟩ := hd_vals s hp
    rw [e1, e2, e3, e4, e5, e6]
    refine ⟨by omega, fun j hj => ?_, ?_⟩
    · rcases (show j = 0 ∨ j = 1 ∨ j = 2 ∨ j = 3 ∨ j = 4 ∨ j = 5 by omega) with rfl | rfl | rfl | rfl | rfl | rfl <;> rfl
    · simp only [bys, hdI]; rfl
  exact h
end Go.Proofs.Nv
