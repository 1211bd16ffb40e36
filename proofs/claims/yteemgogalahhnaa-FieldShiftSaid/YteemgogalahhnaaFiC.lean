import Derived.Test.YteemgogalahhnaaFiB
import Derived.Test.YteemgogalahhnaaFiU
namespace Go.Proofs.Fi
set_option linter.unusedVariables false
set_option linter.unusedSimpArgs false
open Go Go.Sx Go.Proofs Go.RowKit
set_option maxRecDepth 100000
set_option maxHeartbeats 4000000
-- SAME: sm
-- ABBR: IntKind.i64.wrap ==> W
/-- The numbers of the zones that act, and the acceleration. -/
def zonL (t : Tb) (c lv px py : Int) : List Int := (come (act c lv px py) t.zones t.zones.length).map (·.1)
def halX (t : Tb) (c lv px py : Int) : Int := limI (sumH t.gx t.gy (come (act c lv px py) t.zones t.zones.length)).1 1024
def halY (t : Tb) (c lv px py : Int) : Int := limI (sumH t.gx t.gy (come (act c lv px py) t.zones t.zones.length)).2 1024
def fewB (t : Tb) : Bool := decide (t.zones.length ≤ 40 ∧ smB t.gx t.gy = true ∧ ∀ j, j < t.zones.length → smB (t.zones.getD j default).hx (t.zones.getD j default).hy = true)
abbrev XZ := Int × List Int
abbrev XH := Int × Int × Int
def J16 (t : Tb) (i : Int) : Prop := 0 ≤ i ∧ i ≤ t.zones.length ∧ ∀ j, j < i.toNat → smB (t.zones.getD j default).hx (t.zones.getD j default).hy = true
def J18 (t : Tb) (c lv px py : Int) (x : XZ) : Prop := 0 ≤ x.1 ∧ x.1 ≤ t.zones.length ∧ x.2 = (come (act c lv px py) t.zones x.1.toNat).map (·.1)
def J20 (t : Tb) (c lv px py : Int) (x : XH) : Prop := 0 ≤ x.2.2 ∧ x.2.2 ≤ t.zones.length ∧ (x.1, x.2.1) = sumH t.gx t.gy (come (act c lv px py) t.zones x.2.2.toNat)
attribute [irreducible] zonL halX halY fewB J16 J18 J20
def sTCIV := Sig.cons argT (Sig.cons (argI .u32) (Sig.cons (argI .i64) sV))
def cZon : Ctr := ctr sTCIV.dec (fun a => a.1.zones.length ≤ 1000) (fun a => encR (codI .i64) (zonL a.1 a.2.1 a.2.2.1 a.2.2.2.x a.2.2.2.y))
def cHal : Ctr := ctr sTCIV.dec (fun a => a.1.zones.length ≤ 1000) (fun a => vS (halX a.1 a.2.1 a.2.2.1 a.2.2.2.x a.2.2.2.y) (halY a.1 a.2.1 a.2.2.1 a.2.2.2.x a.2.2.2.y))
def T17 : List (Nat × Ctr) := (17, cZon) :: T25
def T19 : List (Nat × Ctr) := (19, cHal) :: T17
def A16 (t : Tb) : List Ann := [⟨.unit, .int .i64 (.tm 3), fun _ (i : Int) => J16 t i, fun _ (i : Int) => ((t.zones.length : Int) - i).toNat⟩]
def T16 : List (Nat × Ctr) := (16, ctr sT.dec (fun a => a.zones.length ≤ 9223372036854775807) (fun a => .bool (fewB a))) :: T19
noncomputable def vc16 (t : Tb) : Prop := cva T19 Try.f16 (A16 t) [tE t] (.bool (fewB t))
def A18 (t : Tb) (c lv px py : Int) : List Ann := [⟨.unit, .list [.int .i64 (.tm 10), .rowL (codI .i64) 2 3 [.tm 9]], fun _ (x : XZ) => J18 t c lv px py x, fun _ (x : XZ) => ((t.zones.length : Int) - x.1).toNat⟩]
def T18 : List (Nat × Ctr) := (18, cZon) :: T16
noncomputable def vc18 (t : Tb) (c lv px py : Int) : Prop := cva T16 Try.f18 (A18 t c lv px py) [tE t, .int .u32 c, iS lv, vS px py] (encR (codI .i64) (zonL t c lv px py))
def A20 (t : Tb) (c lv px py : Int) : List Ann := [⟨.unit, .list [.int .i64 (.tm 9), .int .i64 (.tm 10), .int .i64 (.tm 11)], fun _ (x : XH) => J20 t c lv px py x, fun _ (x : XH) => ((t.zones.length : Int) - x.2.2).toNat⟩]
def T20 : List (Nat × Ctr) := (20, cHal) :: T18
noncomputable def vc20 (t : Tb) (c lv px py : Int) : Prop := cva T18 Try.f20 (A20 t c lv px py) [tE t, .int .u32 c, iS lv, vS px py] (vS (halX t c lv px py) (halY t c lv px py))
def T7 : List (Nat × Ctr) := (7, ctr Sig.nil.dec (fun _ => True) (fun a => .bool true)) :: T20
noncomputable def vc7 (z : Int) : Prop := cva T20 Try.f7 [] [] (.bool true)
theorem vc16_eq (t : Tb) : (True ∧ (decide (↑t.zones.length > (40 : Int)) = true → True ∧ True ∧ True ∧ fewB t = false ∧ True) ∧ (decide (↑t.zones.length > (40 : Int)) = false → True ∧ (True
    ∧ True) ∧ True ∧ ((!smB t.gx t.gy) = true → True ∧ True ∧ fewB t = false ∧ True) ∧ ((!smB t.gx t.gy) = false → True ∧ (J16 t (0 : Int) ∧ ((t.radius = t.radius ∧
    True ∧ True ∧ t.gx = t.gx ∧ t.gy = t.gy ∧ t.drag = t.drag ∧ t.shift = t.shift ∧ True ∧ True ∧ True ∧ True ∧ True ∧ (sm (t.zones.length) ∧ ∀ (i : Nat), i < t.zones.length
    → sm ((t.zones.getD i codZ.dft).name) ∧ sm ((t.zones.getD i codZ.dft).level) ∧ sm ((t.zones.getD i codZ.dft).lox) ∧ sm ((t.zones.getD i codZ.dft).loy) ∧ sm ((t.zones.getD
    i codZ.dft).hix) ∧ sm ((t.zones.getD i codZ.dft).hiy) ∧ sm ((t.zones.getD i codZ.dft).hx) ∧ sm ((t.zones.getD i codZ.dft).hy) ∧ sm ((t.zones.getD i codZ.dft).coil)
    ∧ True) ∧ True ∧ True ∧ True ∧ True ∧ True ∧ True) ∧ True ∧ True ∧ sm ((0 : Int)) ∧ True ∧ (sm (t.zones.length) ∧ ∀ (i : Nat), i < t.zones.length → sm ((t.zones.getD
    i codZ.dft).name) ∧ sm ((t.zones.getD i codZ.dft).level) ∧ sm ((t.zones.getD i codZ.dft).lox) ∧ sm ((t.zones.getD i codZ.dft).loy) ∧ sm ((t.zones.getD i codZ.dft).hix)
    ∧ sm ((t.zones.getD i codZ.dft).hiy) ∧ sm ((t.zones.getD i codZ.dft).hx) ∧ sm ((t.zones.getD i codZ.dft).hy) ∧ sm ((t.zones.getD i codZ.dft).coil) ∧ True) ∧ Eq (α
    := Int) ↑t.zones.length ↑t.zones.length ∧ sm (decide (↑t.zones.length > (40 : Int))) ∧ True ∧ True ∧ (t.gx = t.gx ∧ t.gy = t.gy ∧ True) ∧ sm (smB t.gx t.gy) ∧ sm
    (!smB t.gx t.gy) ∧ True ∧ True ∧ True ∧ True ∧ True ∧ True ∧ True ∧ True ∧ True ∧ True ∧ True ∧ True ∧ True ∧ True ∧ True ∧ True ∧ True) ∧ ((if false = true then
    [] else List.map Seg.shape [Seg.s (SV.int IntKind.i64 t.radius), Seg.s SV.opq, Seg.s SV.opq, Seg.s (SV.int IntKind.i64 t.gx), Seg.s (SV.int IntKind.i64 t.gy), Seg.s
    (SV.int IntKind.i64 t.drag), Seg.s (SV.int IntKind.i64 t.shift), Seg.s SV.opq, Seg.s SV.opq, Seg.s SV.opq, Seg.s SV.opq, Seg.s SV.opq, Seg.s (SV.ros ((0 : Nat) +
    (1 : Nat) + (1 : Nat) + (1 : Nat) + (1 : Nat) + (1 : Nat) + (1 : Nat) + (1 : Nat) + (1 : Nat) + (1 : Nat)) t.zones.length fun i => codZ.enc (t.zones.getD i codZ.dft)),
    Seg.s SV.opq, Seg.s SV.opq, Seg.s SV.opq, Seg.s SV.opq, Seg.s SV.opq]) = if false = true then [] else List.map Seg.shape [Seg.s (SV.int IntKind.i64 t.radius), Seg.s
    SV.opq, Seg.s SV.opq, Seg.s (SV.int IntKind.i64 t.gx), Seg.s (SV.int IntKind.i64 t.gy), Seg.s (SV.int IntKind.i64 t.drag), Seg.s (SV.int IntKind.i64 t.shift), Seg.s
    SV.opq, Seg.s SV.opq, Seg.s SV.opq, Seg.s SV.opq, Seg.s SV.opq, Seg.s (SV.ros ((0 : Nat) + (1 : Nat) + (1 : Nat) + (1 : Nat) + (1 : Nat) + (1 : Nat) + (1 : Nat)
    + (1 : Nat) + (1 : Nat) + (1 : Nat)) t.zones.length fun i => codZ.enc (t.zones.getD i codZ.dft)), Seg.s SV.opq, Seg.s SV.opq, Seg.s SV.opq, Seg.s SV.opq, Seg.s SV.opq])
    ∧ (t.radius = t.radius ∧ True ∧ True ∧ t.gx = t.gx ∧ t.gy = t.gy ∧ t.drag = t.drag ∧ t.shift = t.shift ∧ True ∧ True ∧ True ∧ True ∧ True ∧ (sm (t.zones.length)
    ∧ ∀ (i : Nat), i < t.zones.length → sm ((t.zones.getD i codZ.dft).name) ∧ sm ((t.zones.getD i codZ.dft).level) ∧ sm ((t.zones.getD i codZ.dft).lox) ∧ sm ((t.zones.getD
    i codZ.dft).loy) ∧ sm ((t.zones.getD i codZ.dft).hix) ∧ sm ((t.zones.getD i codZ.dft).hiy) ∧ sm ((t.zones.getD i codZ.dft).hx) ∧ sm ((t.zones.getD i codZ.dft).hy)
    ∧ sm ((t.zones.getD i codZ.dft).coil) ∧ True) ∧ True ∧ True ∧ True ∧ True ∧ True ∧ True) ∧ True) ∧ ∀ (n : Int), J16 t n → True ∧ (decide (n < ↑t.zones.length) =
    true → ((0 : Int) ≤ n ∧ n < ↑t.zones.length) ∧ True ∧ (True ∧ True) ∧ True ∧ ((!smB (t.zones.getD n.toNat codZ.dft).hx (t.zones.getD n.toNat codZ.dft).hy) = true
    → True ∧ True ∧ fewB t = false ∧ True) ∧ ((!smB (t.zones.getD n.toNat codZ.dft).hx (t.zones.getD n.toNat codZ.dft).hy) = false → True ∧ J16 t (W (n + (1 : Int)))
    ∧ (↑t.zones.length - W (n + (1 : Int))).toNat < (↑t.zones.length - n).toNat ∧ ((t.radius = t.radius ∧ True ∧ True ∧ t.gx = t.gx ∧ t.gy = t.gy ∧ t.drag = t.drag ∧
    t.shift = t.shift ∧ True ∧ True ∧ True ∧ True ∧ True ∧ (sm (t.zones.length) ∧ ∀ (i : Nat), i < t.zones.length → sm ((t.zones.getD i codZ.dft).name) ∧ sm ((t.zones.getD
    i codZ.dft).level) ∧ sm ((t.zones.getD i codZ.dft).lox) ∧ sm ((t.zones.getD i codZ.dft).loy) ∧ sm ((t.zones.getD i codZ.dft).hix) ∧ sm ((t.zones.getD i codZ.dft).hiy)
    ∧ sm ((t.zones.getD i codZ.dft).hx) ∧ sm ((t.zones.getD i codZ.dft).hy) ∧ sm ((t.zones.getD i codZ.dft).coil) ∧ True) ∧ True ∧ True ∧ True ∧ True ∧ True ∧ True)
    ∧ True ∧ True ∧ sm (W (n + (1 : Int))) ∧ True ∧ (sm (t.zones.length) ∧ ∀ (i : Nat), i < t.zones.length → sm ((t.zones.getD i codZ.dft).name) ∧ sm ((t.zones.getD
    i codZ.dft).level) ∧ sm ((t.zones.getD i codZ.dft).lox) ∧ sm ((t.zones.getD i codZ.dft).loy) ∧ sm ((t.zones.getD i codZ.dft).hix) ∧ sm ((t.zones.getD i codZ.dft).hiy)
    ∧ sm ((t.zones.getD i codZ.dft).hx) ∧ sm ((t.zones.getD i codZ.dft).hy) ∧ sm ((t.zones.getD i codZ.dft).coil) ∧ True) ∧ Eq (α := Int) ↑t.zones.length ↑t.zones.length
    ∧ sm (decide (↑t.zones.length > (40 : Int))) ∧ True ∧ True ∧ (t.gx = t.gx ∧ t.gy = t.gy ∧ True) ∧ sm (smB t.gx t.gy) ∧ sm (!smB t.gx t.gy) ∧ True ∧ True ∧ True ∧
    True ∧ True ∧ True ∧ True ∧ True ∧ True ∧ True ∧ True ∧ True ∧ True ∧ True ∧ True ∧ True ∧ True) ∧ ((if false = true then [] else List.map Seg.shape [Seg.s (SV.int
    IntKind.i64 t.radius), Seg.s SV.opq, Seg.s SV.opq, Seg.s (SV.int IntKind.i64 t.gx), Seg.s (SV.int IntKind.i64 t.gy), Seg.s (SV.int IntKind.i64 t.drag), Seg.s (SV.int
    IntKind.i64 t.shift), Seg.s SV.opq, Seg.s SV.opq, Seg.s SV.opq, Seg.s SV.opq, Seg.s SV.opq, Seg.s (SV.ros ((0 : Nat) + (1 : Nat) + (1 : Nat) + (1 : Nat) + (1 : Nat)
    + (1 : Nat) + (1 : Nat) + (1 : Nat) + (1 : Nat) + (1 : Nat)) t.zones.length fun i => codZ.enc (t.zones.getD i codZ.dft)), Seg.s SV.opq, Seg.s SV.opq, Seg.s SV.opq,
    Seg.s SV.opq, Seg.s SV.opq]) = if false = true then [] else List.map Seg.shape [Seg.s (SV.int IntKind.i64 t.radius), Seg.s SV.opq, Seg.s SV.opq, Seg.s (SV.int IntKind.i64
    t.gx), Seg.s (SV.int IntKind.i64 t.gy), Seg.s (SV.int IntKind.i64 t.drag), Seg.s (SV.int IntKind.i64 t.shift), Seg.s SV.opq, Seg.s SV.opq, Seg.s SV.opq, Seg.s SV.opq,
    Seg.s SV.opq, Seg.s (SV.ros ((0 : Nat) + (1 : Nat) + (1 : Nat) + (1 : Nat) + (1 : Nat) + (1 : Nat) + (1 : Nat) + (1 : Nat) + (1 : Nat) + (1 : Nat)) t.zones.length
    fun i => codZ.enc (t.zones.getD i codZ.dft)), Seg.s SV.opq, Seg.s SV.opq, Seg.s SV.opq, Seg.s SV.opq, Seg.s SV.opq]) ∧ (t.radius = t.radius ∧ True ∧ True ∧ t.gx
    = t.gx ∧ t.gy = t.gy ∧ t.drag = t.drag ∧ t.shift = t.shift ∧ True ∧ True ∧ True ∧ True ∧ True ∧ (sm (t.zones.length) ∧ ∀ (i : Nat), i < t.zones.length → sm ((t.zones.getD
    i codZ.dft).name) ∧ sm ((t.zones.getD i codZ.dft).level) ∧ sm ((t.zones.getD i codZ.dft).lox) ∧ sm ((t.zones.getD i codZ.dft).loy) ∧ sm ((t.zones.getD i codZ.dft).hix)
    ∧ sm ((t.zones.getD i codZ.dft).hiy) ∧ sm ((t.zones.getD i codZ.dft).hx) ∧ sm ((t.zones.getD i codZ.dft).hy) ∧ sm ((t.zones.getD i codZ.dft).coil) ∧ True) ∧ True
    ∧ True ∧ True ∧ True ∧ True ∧ True) ∧ True)) ∧ (decide (n < ↑t.zones.length) = false → True ∧ True ∧ fewB t = true ∧ True)))) = vc16 t := by kernel_rfl
theorem vc18_eq (t : Tb) (c lv px py : Int) : (True ∧ True ∧ True ∧ (J18 t c lv px py ((0 : Int), []) ∧ ((t.radius = t.radius ∧ True ∧ True ∧ t.gx = t.gx ∧ t.gy = t.gy ∧ t.drag = t.drag ∧ t.shift = t.shift ∧
    True ∧ True ∧ True ∧ True ∧ True ∧ (sm (t.zones.length) ∧ ∀ (i : Nat), i < t.zones.length → sm ((t.zones.getD i codZ.dft).name) ∧ sm ((t.zones.getD i codZ.dft).level)
    ∧ sm ((t.zones.getD i codZ.dft).lox) ∧ sm ((t.zones.getD i codZ.dft).loy) ∧ sm ((t.zones.getD i codZ.dft).hix) ∧ sm ((t.zones.getD i codZ.dft).hiy) ∧ sm ((t.zones.getD
    i codZ.dft).hx) ∧ sm ((t.zones.getD i codZ.dft).hy) ∧ sm ((t.zones.getD i codZ.dft).coil) ∧ True) ∧ True ∧ True ∧ True ∧ True ∧ True ∧ True) ∧ c = c ∧ lv = lv ∧
    (px = px ∧ py = py ∧ True) ∧ True ∧ True ∧ True ∧ True ∧ True ∧ (sm ((0 : Nat)) ∧ sm ((0 : Nat))) ∧ sm ((0 : Int)) ∧ True ∧ True ∧ True ∧ True ∧ True ∧ True ∧ True
    ∧ True ∧ True ∧ True ∧ True ∧ True ∧ True ∧ True ∧ True ∧ True ∧ True ∧ True ∧ True ∧ True ∧ True ∧ True) ∧ ((if false = true then [] else List.map Seg.shape [Seg.s
    (SV.int IntKind.i64 t.radius), Seg.s SV.opq, Seg.s SV.opq, Seg.s (SV.int IntKind.i64 t.gx), Seg.s (SV.int IntKind.i64 t.gy), Seg.s (SV.int IntKind.i64 t.drag), Seg.s
    (SV.int IntKind.i64 t.shift), Seg.s SV.opq, Seg.s SV.opq, Seg.s SV.opq, Seg.s SV.opq, Seg.s SV.opq, Seg.s (SV.ros ((0 : Nat) + (1 : Nat) + (1 : Nat) + (1 : Nat)
    + (1 : Nat) + (1 : Nat) + (1 : Nat) + (1 : Nat) + (1 : Nat) + (1 : Nat)) t.zones.length fun i => codZ.enc (t.zones.getD i codZ.dft)), Seg.s SV.opq, Seg.s SV.opq,
    Seg.s SV.opq, Seg.s SV.opq, Seg.s SV.opq]) = if false = true then [] else List.map Seg.shape [Seg.s (SV.int IntKind.i64 t.radius), Seg.s SV.opq, Seg.s SV.opq, Seg.s
    (SV.int IntKind.i64 t.gx), Seg.s (SV.int IntKind.i64 t.gy), Seg.s (SV.int IntKind.i64 t.drag), Seg.s (SV.int IntKind.i64 t.shift), Seg.s SV.opq, Seg.s SV.opq, Seg.s
    SV.opq, Seg.s SV.opq, Seg.s SV.opq, Seg.s (SV.ros ((0 : Nat) + (1 : Nat) + (1 : Nat) + (1 : Nat) + (1 : Nat) + (1 : Nat) + (1 : Nat) + (1 : Nat) + (1 : Nat) + (1
    : Nat)) t.zones.length fun i => codZ.enc (t.zones.getD i codZ.dft)), Seg.s SV.opq, Seg.s SV.opq, Seg.s SV.opq, Seg.s SV.opq, Seg.s SV.opq]) ∧ (t.radius = t.radius
    ∧ True ∧ True ∧ t.gx = t.gx ∧ t.gy = t.gy ∧ t.drag = t.drag ∧ t.shift = t.shift ∧ True ∧ True ∧ True ∧ True ∧ True ∧ (sm (t.zones.length) ∧ ∀ (i : Nat), i < t.zones.length
    → sm ((t.zones.getD i codZ.dft).name) ∧ sm ((t.zones.getD i codZ.dft).level) ∧ sm ((t.zones.getD i codZ.dft).lox) ∧ sm ((t.zones.getD i codZ.dft).loy) ∧ sm ((t.zones.getD
    i codZ.dft).hix) ∧ sm ((t.zones.getD i codZ.dft).hiy) ∧ sm ((t.zones.getD i codZ.dft).hx) ∧ sm ((t.zones.getD i codZ.dft).hy) ∧ sm ((t.zones.getD i codZ.dft).coil)
    ∧ True) ∧ True ∧ True ∧ True ∧ True ∧ True ∧ True) ∧ ((if false = true then [] else List.map Seg.shape [Seg.s (SV.int IntKind.i64 px), Seg.s (SV.int IntKind.i64
    py)]) = if false = true then [] else List.map Seg.shape [Seg.s (SV.int IntKind.i64 px), Seg.s (SV.int IntKind.i64 py)]) ∧ (px = px ∧ py = py ∧ True) ∧ sm ((0 : Nat))
    ∧ (codI IntKind.i64).n = (1 : Nat) ∧ True) ∧ ∀ (n : Int) (l : List Int), J18 t c lv px py (n, l) → True ∧ (decide (n < ↑t.zones.length) = true → ((0 : Int) ≤ n ∧
    n < ↑t.zones.length) ∧ True ∧ True ∧ True ∧ True ∧ ((True ∧ True ∧ True ∧ True) ∧ True) ∧ IsT true ∧ (act c lv px py (t.zones.getD n.toNat codZ.dft) = true → (0
    : Nat) + (1 : Nat) ≤ (1 : Nat) ∧ (∀ (j : Nat), j < (1 : Nat) → true = true) ∧ (sm ((0 : Nat)) ∧ l.length = l.length ∧ l.length + (1 : Nat) ≤ (140737488355328 : Nat)
    ∧ (l.length + (1 : Nat)) * (8 : Nat) ≤ (140737488355328 : Nat)) ∧ True ∧ True ∧ J18 t c lv px py (W (n + (1 : Int)), rowL (codI IntKind.i64) (l.length + (1 : Nat))
    fun j => mergeL (decide (j < l.length)) ((codI IntKind.i64).enc (l.getD j (codI IntKind.i64).dft)) ((if (1 : Nat) = (1 : Nat) then fun x => [SV.int IntKind.i64 n]
    else fun i' => mergeL (decide (i' = (0 : Nat))) [SV.int IntKind.i64 n] ((fun (x : List SV) => SV.int IntKind.i64 (0 : Int) :: x) [])) ((0 : Nat) + (j - l.length))))
    ∧ (↑t.zones.length - W (n + (1 : Int))).toNat < (↑t.zones.length - n).toNat ∧ ((t.radius = t.radius ∧ True ∧ True ∧ t.gx = t.gx ∧ t.gy = t.gy ∧ t.drag = t.drag ∧
    t.shift = t.shift ∧ True ∧ True ∧ True ∧ True ∧ True ∧ (sm (t.zones.length) ∧ ∀ (i : Nat), i < t.zones.length → sm ((t.zones.getD i codZ.dft).name) ∧ sm ((t.zones.getD
    i codZ.dft).level) ∧ sm ((t.zones.getD i codZ.dft).lox) ∧ sm ((t.zones.getD i codZ.dft).loy) ∧ sm ((t.zones.getD i codZ.dft).hix) ∧ sm ((t.zones.getD i codZ.dft).hiy)
    ∧ sm ((t.zones.getD i codZ.dft).hx) ∧ sm ((t.zones.getD i codZ.dft).hy) ∧ sm ((t.zones.getD i codZ.dft).coil) ∧ True) ∧ True ∧ True ∧ True ∧ True ∧ True ∧ True)
    ∧ c = c ∧ lv = lv ∧ (px = px ∧ py = py ∧ True) ∧ True ∧ True ∧ True ∧ True ∧ True ∧ (sm ((0 : Nat)) ∧ l.length + (1 : Nat) = (rowL (codI IntKind.i64) (l.length +
    (1 : Nat)) fun j => mergeL (decide (j < l.length)) ((codI IntKind.i64).enc (l.getD j (codI IntKind.i64).dft)) ((if (1 : Nat) = (1 : Nat) then fun x => [SV.int IntKind.i64
    n] else fun i' => mergeL (decide (i' = (0 : Nat))) [SV.int IntKind.i64 n] ((fun (x : List SV) => SV.int IntKind.i64 (0 : Int) :: x) [])) ((0 : Nat) + (j - l.length)))).length)
    ∧ sm (W (n + (1 : Int))) ∧ True ∧ True ∧ True ∧ True ∧ True ∧ True ∧ True ∧ True ∧ True ∧ True ∧ True ∧ True ∧ True ∧ True ∧ True ∧ True ∧ True ∧ True ∧ True ∧ True
    ∧ True ∧ True) ∧ ((if false = true then [] else List.map Seg.shape [Seg.s (SV.int IntKind.i64 t.radius), Seg.s SV.opq, Seg.s SV.opq, Seg.s (SV.int IntKind.i64 t.gx),
    Seg.s (SV.int IntKind.i64 t.gy), Seg.s (SV.int IntKind.i64 t.drag), Seg.s (SV.int IntKind.i64 t.shift), Seg.s SV.opq, Seg.s SV.opq, Seg.s SV.opq, Seg.s SV.opq, Seg.s
    SV.opq, Seg.s (SV.ros ((0 : Nat) + (1 : Nat) + (1 : Nat) + (1 : Nat) + (1 : Nat) + (1 : Nat) + (1 : Nat) + (1 : Nat) + (1 : Nat) + (1 : Nat)) t.zones.length fun
    i => codZ.enc (t.zones.getD i codZ.dft)), Seg.s SV.opq, Seg.s SV.opq, Seg.s SV.opq, Seg.s SV.opq, Seg.s SV.opq]) = if false = true then [] else List.map Seg.shape
    [Seg.s (SV.int IntKind.i64 t.radius), Seg.s SV.opq, Seg.s SV.opq, Seg.s (SV.int IntKind.i64 t.gx), Seg.s (SV.int IntKind.i64 t.gy), Seg.s (SV.int IntKind.i64 t.drag),
    Seg.s (SV.int IntKind.i64 t.shift), Seg.s SV.opq, Seg.s SV.opq, Seg.s SV.opq, Seg.s SV.opq, Seg.s SV.opq, Seg.s (SV.ros ((0 : Nat) + (1 : Nat) + (1 : Nat) + (1 :
    Nat) + (1 : Nat) + (1 : Nat) + (1 : Nat) + (1 : Nat) + (1 : Nat) + (1 : Nat)) t.zones.length fun i => codZ.enc (t.zones.getD i codZ.dft)), Seg.s SV.opq, Seg.s SV.opq,
    Seg.s SV.opq, Seg.s SV.opq, Seg.s SV.opq]) ∧ (t.radius = t.radius ∧ True ∧ True ∧ t.gx = t.gx ∧ t.gy = t.gy ∧ t.drag = t.drag ∧ t.shift = t.shift ∧ True ∧ True ∧
    True ∧ True ∧ True ∧ (sm (t.zones.length) ∧ ∀ (i : Nat), i < t.zones.length → sm ((t.zones.getD i codZ.dft).name) ∧ sm ((t.zones.getD i codZ.dft).level) ∧ sm ((t.zones.getD
    i codZ.dft).lox) ∧ sm ((t.zones.getD i codZ.dft).loy) ∧ sm ((t.zones.getD i codZ.dft).hix) ∧ sm ((t.zones.getD i codZ.dft).hiy) ∧ sm ((t.zones.getD i codZ.dft).hx)
    ∧ sm ((t.zones.getD i codZ.dft).hy) ∧ sm ((t.zones.getD i codZ.dft).coil) ∧ True) ∧ True ∧ True ∧ True ∧ True ∧ True ∧ True) ∧ ((if false = true then [] else List.map
    Seg.shape [Seg.s (SV.int IntKind.i64 px), Seg.s (SV.int IntKind.i64 py)]) = if false = true then [] else List.map Seg.shape [Seg.s (SV.int IntKind.i64 px), Seg.s
    (SV.int IntKind.i64 py)]) ∧ (px = px ∧ py = py ∧ True) ∧ Eq (α := List (Option (Nat × Nat))) [] [] ∧ ((l.length + (1 : Nat) = (rowL (codI IntKind.i64) (l.length
    + (1 : Nat)) fun j => mergeL (decide (j < l.length)) ((codI IntKind.i64).enc (l.getD j (codI IntKind.i64).dft)) ((if (1 : Nat) = (1 : Nat) then fun x => [SV.int
    IntKind.i64 n] else fun i' => mergeL (decide (i' = (0 : Nat))) [SV.int IntKind.i64 n] ((fun (x : List SV) => SV.int IntKind.i64 (0 : Int) :: x) [])) ((0 : Nat) +
    (j - l.length)))).length ∧ (1 : Nat) = (codI IntKind.i64).n ∧ ∀ (i : Nat), i < l.length + (1 : Nat) → (if decide (i < l.length) = true then l.getD i (codI IntKind.i64).dft
    else n) = (rowL (codI IntKind.i64) (l.length + (1 : Nat)) fun j => mergeL (decide (j < l.length)) ((codI IntKind.i64).enc (l.getD j (codI IntKind.i64).dft)) ((if
    (1 : Nat) = (1 : Nat) then fun x => [SV.int IntKind.i64 n] else fun i' => mergeL (decide (i' = (0 : Nat))) [SV.int IntKind.i64 n] ((fun (x : List SV) => SV.int IntKind.i64
    (0 : Int) :: x) [])) ((0 : Nat) + (j - l.length)))).getD i (codI IntKind.i64).dft ∧ True) ∧ True) ∧ True) ∧ (act c lv px py (t.zones.getD n.toNat codZ.dft) = false
    → True ∧ J18 t c lv px py (W (n + (1 : Int)), rowL (codI IntKind.i64) l.length fun j => (codI IntKind.i64).enc (l.getD j (codI IntKind.i64).dft)) ∧ (↑t.zones.length
    - W (n + (1 : Int))).toNat < (↑t.zones.length - n).toNat ∧ ((t.radius = t.radius ∧ True ∧ True ∧ t.gx = t.gx ∧ t.gy = t.gy ∧ t.drag = t.drag ∧ t.shift = t.shift
    ∧ True ∧ True ∧ True ∧ True ∧ True ∧ (sm (t.zones.length) ∧ ∀ (i : Nat), i < t.zones.length → sm ((t.zones.getD i codZ.dft).name) ∧ sm ((t.zones.getD i codZ.dft).level)
    ∧ sm ((t.zones.getD i codZ.dft).lox) ∧ sm ((t.zones.getD i codZ.dft).loy) ∧ sm ((t.zones.getD i codZ.dft).hix) ∧ sm ((t.zones.getD i codZ.dft).hiy) ∧ sm ((t.zones.getD
    i codZ.dft).hx) ∧ sm ((t.zones.getD i codZ.dft).hy) ∧ sm ((t.zones.getD i codZ.dft).coil) ∧ True) ∧ True ∧ True ∧ True ∧ True ∧ True ∧ True) ∧ c = c ∧ lv = lv ∧
    (px = px ∧ py = py ∧ True) ∧ True ∧ True ∧ True ∧ True ∧ True ∧ (sm ((0 : Nat)) ∧ l.length = (rowL (codI IntKind.i64) l.length fun j => (codI IntKind.i64).enc (l.getD
    j (codI IntKind.i64).dft)).length) ∧ sm (W (n + (1 : Int))) ∧ True ∧ True ∧ True ∧ True ∧ True ∧ True ∧ True ∧ True ∧ True ∧ True ∧ True ∧ True ∧ True ∧ True ∧ True
    ∧ True ∧ True ∧ True ∧ True ∧ True ∧ True ∧ True) ∧ ((if false = true then [] else List.map Seg.shape [Seg.s (SV.int IntKind.i64 t.radius), Seg.s SV.opq, Seg.s SV.opq,
    Seg.s (SV.int IntKind.i64 t.gx), Seg.s (SV.int IntKind.i64 t.gy), Seg.s (SV.int IntKind.i64 t.drag), Seg.s (SV.int IntKind.i64 t.shift), Seg.s SV.opq, Seg.s SV.opq,
    Seg.s SV.opq, Seg.s SV.opq, Seg.s SV.opq, Seg.s (SV.ros ((0 : Nat) + (1 : Nat) + (1 : Nat) + (1 : Nat) + (1 : Nat) + (1 : Nat) + (1 : Nat) + (1 : Nat) + (1 : Nat)
    + (1 : Nat)) t.zones.length fun i => codZ.enc (t.zones.getD i codZ.dft)), Seg.s SV.opq, Seg.s SV.opq, Seg.s SV.opq, Seg.s SV.opq, Seg.s SV.opq]) = if false = true
    then [] else List.map Seg.shape [Seg.s (SV.int IntKind.i64 t.radius), Seg.s SV.opq, Seg.s SV.opq, Seg.s (SV.int IntKind.i64 t.gx), Seg.s (SV.int IntKind.i64 t.gy),
    Seg.s (SV.int IntKind.i64 t.drag), Seg.s (SV.int IntKind.i64 t.shift), Seg.s SV.opq, Seg.s SV.opq, Seg.s SV.opq, Seg.s SV.opq, Seg.s SV.opq, Seg.s (SV.ros ((0 :
    Nat) + (1 : Nat) + (1 : Nat) + (1 : Nat) + (1 : Nat) + (1 : Nat) + (1 : Nat) + (1 : Nat) + (1 : Nat) + (1 : Nat)) t.zones.length fun i => codZ.enc (t.zones.getD
    i codZ.dft)), Seg.s SV.opq, Seg.s SV.opq, Seg.s SV.opq, Seg.s SV.opq, Seg.s SV.opq]) ∧ (t.radius = t.radius ∧ True ∧ True ∧ t.gx = t.gx ∧ t.gy = t.gy ∧ t.drag =
    t.drag ∧ t.shift = t.shift ∧ True ∧ True ∧ True ∧ True ∧ True ∧ (sm (t.zones.length) ∧ ∀ (i : Nat), i < t.zones.length → sm ((t.zones.getD i codZ.dft).name) ∧ sm
    ((t.zones.getD i codZ.dft).level) ∧ sm ((t.zones.getD i codZ.dft).lox) ∧ sm ((t.zones.getD i codZ.dft).loy) ∧ sm ((t.zones.getD i codZ.dft).hix) ∧ sm ((t.zones.getD
    i codZ.dft).hiy) ∧ sm ((t.zones.getD i codZ.dft).hx) ∧ sm ((t.zones.getD i codZ.dft).hy) ∧ sm ((t.zones.getD i codZ.dft).coil) ∧ True) ∧ True ∧ True ∧ True ∧ True
    ∧ True ∧ True) ∧ ((if false = true then [] else List.map Seg.shape [Seg.s (SV.int IntKind.i64 px), Seg.s (SV.int IntKind.i64 py)]) = if false = true then [] else
    List.map Seg.shape [Seg.s (SV.int IntKind.i64 px), Seg.s (SV.int IntKind.i64 py)]) ∧ (px = px ∧ py = py ∧ True) ∧ Eq (α := List (Option (Nat × Nat))) [] [] ∧ ((l.length
    = (rowL (codI IntKind.i64) l.length fun j => (codI IntKind.i64).enc (l.getD j (codI IntKind.i64).dft)).length ∧ sm ((codI IntKind.i64).n) ∧ ∀ (i : Nat), i < l.length
    → l.getD i (codI IntKind.i64).dft = (rowL (codI IntKind.i64) l.length fun j => (codI IntKind.i64).enc (l.getD j (codI IntKind.i64).dft)).getD i (codI IntKind.i64).dft
    ∧ True) ∧ True) ∧ True)) ∧ (decide (n < ↑t.zones.length) = false → True ∧ ((0 : Nat) + l.length ≤ l.length ∧ ∀ (i : Nat), i < l.length → true = true) ∧ (l.length
    = (zonL t c lv px py).length ∧ ∀ (i : Nat), i < l.length → l.getD ((0 : Nat) + i) (codI IntKind.i64).dft = (zonL t c lv px py).getD i (codI IntKind.i64).dft ∧ True)
    ∧ True)) = vc18 t c lv px py := by kernel_rfl
theorem vc20_eq (t : Tb) (c lv px py : Int) : (True ∧ IsT true ∧ True ∧ (J20 t c lv px py (t.gx, t.gy, (0 : Int)) ∧ ((t.radius = t.radius ∧ True ∧ True ∧ t.gx = t.gx ∧ t.gy = t.gy ∧ t.drag = t.drag ∧ t.shift
    = t.shift ∧ True ∧ True ∧ True ∧ True ∧ True ∧ (sm (t.zones.length) ∧ ∀ (i : Nat), i < t.zones.length → sm ((t.zones.getD i codZ.dft).name) ∧ sm ((t.zones.getD i
    codZ.dft).level) ∧ sm ((t.zones.getD i codZ.dft).lox) ∧ sm ((t.zones.getD i codZ.dft).loy) ∧ sm ((t.zones.getD i codZ.dft).hix) ∧ sm ((t.zones.getD i codZ.dft).hiy)
    ∧ sm ((t.zones.getD i codZ.dft).hx) ∧ sm ((t.zones.getD i codZ.dft).hy) ∧ sm ((t.zones.getD i codZ.dft).coil) ∧ True) ∧ True ∧ True ∧ True ∧ True ∧ True ∧ True)
    ∧ c = c ∧ lv = lv ∧ (px = px ∧ py = py ∧ True) ∧ True ∧ True ∧ True ∧ True ∧ True ∧ t.gx = t.gx ∧ t.gy = t.gy ∧ sm ((0 : Int)) ∧ True ∧ True ∧ t.gx = t.gx ∧ True
    ∧ True ∧ t.gy = t.gy ∧ True ∧ True ∧ True ∧ True ∧ True ∧ True ∧ True ∧ True ∧ True ∧ True ∧ True ∧ True ∧ True ∧ True ∧ True ∧ True ∧ True ∧ True ∧ True ∧ True
    ∧ True ∧ True ∧ True ∧ True ∧ True ∧ True ∧ True ∧ True ∧ True ∧ True ∧ True ∧ True ∧ True ∧ True ∧ True ∧ True ∧ True ∧ True ∧ True ∧ True) ∧ ((if false = true
    then [] else List.map Seg.shape [Seg.s (SV.int IntKind.i64 t.radius), Seg.s SV.opq, Seg.s SV.opq, Seg.s (SV.int IntKind.i64 t.gx), Seg.s (SV.int IntKind.i64 t.gy),
    Seg.s (SV.int IntKind.i64 t.drag), Seg.s (SV.int IntKind.i64 t.shift), Seg.s SV.opq, Seg.s SV.opq, Seg.s SV.opq, Seg.s SV.opq, Seg.s SV.opq, Seg.s (SV.ros ((0 :
    Nat) + (1 : Nat) + (1 : Nat) + (1 : Nat) + (1 : Nat) + (1 : Nat) + (1 : Nat) + (1 : Nat) + (1 : Nat) + (1 : Nat)) t.zones.length fun i => codZ.enc (t.zones.getD
    i codZ.dft)), Seg.s SV.opq, Seg.s SV.opq, Seg.s SV.opq, Seg.s SV.opq, Seg.s SV.opq]) = if false = true then [] else List.map Seg.shape [Seg.s (SV.int IntKind.i64
    t.radius), Seg.s SV.opq, Seg.s SV.opq, Seg.s (SV.int IntKind.i64 t.gx), Seg.s (SV.int IntKind.i64 t.gy), Seg.s (SV.int IntKind.i64 t.drag), Seg.s (SV.int IntKind.i64
    t.shift), Seg.s SV.opq, Seg.s SV.opq, Seg.s SV.opq, Seg.s SV.opq, Seg.s SV.opq, Seg.s (SV.ros ((0 : Nat) + (1 : Nat) + (1 : Nat) + (1 : Nat) + (1 : Nat) + (1 : Nat)
    + (1 : Nat) + (1 : Nat) + (1 : Nat) + (1 : Nat)) t.zones.length fun i => codZ.enc (t.zones.getD i codZ.dft)), Seg.s SV.opq, Seg.s SV.opq, Seg.s SV.opq, Seg.s SV.opq,
    Seg.s SV.opq]) ∧ (t.radius = t.radius ∧ True ∧ True ∧ t.gx = t.gx ∧ t.gy = t.gy ∧ t.drag = t.drag ∧ t.shift = t.shift ∧ True ∧ True ∧ True ∧ True ∧ True ∧ (sm (t.zones.length)
    ∧ ∀ (i : Nat), i < t.zones.length → sm ((t.zones.getD i codZ.dft).name) ∧ sm ((t.zones.getD i codZ.dft).level) ∧ sm ((t.zones.getD i codZ.dft).lox) ∧ sm ((t.zones.getD
    i codZ.dft).loy) ∧ sm ((t.zones.getD i codZ.dft).hix) ∧ sm ((t.zones.getD i codZ.dft).hiy) ∧ sm ((t.zones.getD i codZ.dft).hx) ∧ sm ((t.zones.getD i codZ.dft).hy)
    ∧ sm ((t.zones.getD i codZ.dft).coil) ∧ True) ∧ True ∧ True ∧ True ∧ True ∧ True ∧ True) ∧ ((if false = true then [] else List.map Seg.shape [Seg.s (SV.int IntKind.i64
    px), Seg.s (SV.int IntKind.i64 py)]) = if false = true then [] else List.map Seg.shape [Seg.s (SV.int IntKind.i64 px), Seg.s (SV.int IntKind.i64 py)]) ∧ (px = px
    ∧ py = py ∧ True) ∧ ((if false = true then [] else List.map Seg.shape ([Seg.s (SV.int IntKind.i64 (0 : Int))] ++ ([Seg.s (SV.int IntKind.i64 (0 : Int))] ++ [])))
    = if false = true then [] else List.map Seg.shape ([Seg.s (SV.int IntKind.i64 (0 : Int))] ++ ([Seg.s (SV.int IntKind.i64 (0 : Int))] ++ []))) ∧ (sm ((0 : Int)) ∧
    sm ((0 : Int)) ∧ True) ∧ True) ∧ ∀ (n n_1 n_2 : Int), J20 t c lv px py (n, n_1, n_2) → True ∧ (decide (n_2 < ↑t.zones.length) = true → ((0 : Int) ≤ n_2 ∧ n_2 < ↑t.zones.length)
    ∧ True ∧ True ∧ True ∧ True ∧ ((True ∧ True ∧ True ∧ True) ∧ True) ∧ IsT true ∧ (act c lv px py (t.zones.getD n_2.toNat codZ.dft) = true → ((0 : Int) ≤ n_2 ∧ n_2
    < ↑t.zones.length) ∧ ((0 : Int) ≤ n_2 ∧ n_2 < ↑t.zones.length) ∧ IsT true ∧ True ∧ J20 t c lv px py (W (n + (t.zones.getD n_2.toNat codZ.dft).hx), W (n_1 + (t.zones.getD
    n_2.toNat codZ.dft).hy), W (n_2 + (1 : Int))) ∧ (↑t.zones.length - W (n_2 + (1 : Int))).toNat < (↑t.zones.length - n_2).toNat ∧ ((t.radius = t.radius ∧ True ∧ True
    ∧ t.gx = t.gx ∧ t.gy = t.gy ∧ t.drag = t.drag ∧ t.shift = t.shift ∧ True ∧ True ∧ True ∧ True ∧ True ∧ (sm (t.zones.length) ∧ ∀ (i : Nat), i < t.zones.length → sm
    ((t.zones.getD i codZ.dft).name) ∧ sm ((t.zones.getD i codZ.dft).level) ∧ sm ((t.zones.getD i codZ.dft).lox) ∧ sm ((t.zones.getD i codZ.dft).loy) ∧ sm ((t.zones.getD
    i codZ.dft).hix) ∧ sm ((t.zones.getD i codZ.dft).hiy) ∧ sm ((t.zones.getD i codZ.dft).hx) ∧ sm ((t.zones.getD i codZ.dft).hy) ∧ sm ((t.zones.getD i codZ.dft).coil)
    ∧ True) ∧ True ∧ True ∧ True ∧ True ∧ True ∧ True) ∧ c = c ∧ lv = lv ∧ (px = px ∧ py = py ∧ True) ∧ True ∧ True ∧ True ∧ True ∧ True ∧ sm (W (n + (t.zones.getD n_2.toNat
    codZ.dft).hx)) ∧ sm (W (n_1 + (t.zones.getD n_2.toNat codZ.dft).hy)) ∧ sm (W (n_2 + (1 : Int))) ∧ True ∧ True ∧ t.gx = t.gx ∧ True ∧ True ∧ t.gy = t.gy ∧ True ∧
    True ∧ True ∧ True ∧ True ∧ True ∧ True ∧ True ∧ True ∧ True ∧ True ∧ True ∧ True ∧ True ∧ True ∧ True ∧ True ∧ True ∧ True ∧ True ∧ True ∧ True ∧ True ∧ True ∧
    True ∧ True ∧ True ∧ True ∧ True ∧ True ∧ True ∧ True ∧ True ∧ True ∧ True ∧ True ∧ True ∧ True ∧ True ∧ True) ∧ ((if false = true then [] else List.map Seg.shape
    [Seg.s (SV.int IntKind.i64 t.radius), Seg.s SV.opq, Seg.s SV.opq, Seg.s (SV.int IntKind.i64 t.gx), Seg.s (SV.int IntKind.i64 t.gy), Seg.s (SV.int IntKind.i64 t.drag),
    Seg.s (SV.int IntKind.i64 t.shift), Seg.s SV.opq, Seg.s SV.opq, Seg.s SV.opq, Seg.s SV.opq, Seg.s SV.opq, Seg.s (SV.ros ((0 : Nat) + (1 : Nat) + (1 : Nat) + (1 :
    Nat) + (1 : Nat) + (1 : Nat) + (1 : Nat) + (1 : Nat) + (1 : Nat) + (1 : Nat)) t.zones.length fun i => codZ.enc (t.zones.getD i codZ.dft)), Seg.s SV.opq, Seg.s SV.opq,
    Seg.s SV.opq, Seg.s SV.opq, Seg.s SV.opq]) = if false = true then [] else List.map Seg.shape [Seg.s (SV.int IntKind.i64 t.radius), Seg.s SV.opq, Seg.s SV.opq, Seg.s
    (SV.int IntKind.i64 t.gx), Seg.s (SV.int IntKind.i64 t.gy), Seg.s (SV.int IntKind.i64 t.drag), Seg.s (SV.int IntKind.i64 t.shift), Seg.s SV.opq, Seg.s SV.opq, Seg.s
    SV.opq, Seg.s SV.opq, Seg.s SV.opq, Seg.s (SV.ros ((0 : Nat) + (1 : Nat) + (1 : Nat) + (1 : Nat) + (1 : Nat) + (1 : Nat) + (1 : Nat) + (1 : Nat) + (1 : Nat) + (1
    : Nat)) t.zones.length fun i => codZ.enc (t.zones.getD i codZ.dft)), Seg.s SV.opq, Seg.s SV.opq, Seg.s SV.opq, Seg.s SV.opq, Seg.s SV.opq]) ∧ (t.radius = t.radius
    ∧ True ∧ True ∧ t.gx = t.gx ∧ t.gy = t.gy ∧ t.drag = t.drag ∧ t.shift = t.shift ∧ True ∧ True ∧ True ∧ True ∧ True ∧ (sm (t.zones.length) ∧ ∀ (i : Nat), i < t.zones.length
    → sm ((t.zones.getD i codZ.dft).name) ∧ sm ((t.zones.getD i codZ.dft).level) ∧ sm ((t.zones.getD i codZ.dft).lox) ∧ sm ((t.zones.getD i codZ.dft).loy) ∧ sm ((t.zones.getD
    i codZ.dft).hix) ∧ sm ((t.zones.getD i codZ.dft).hiy) ∧ sm ((t.zones.getD i codZ.dft).hx) ∧ sm ((t.zones.getD i codZ.dft).hy) ∧ sm ((t.zones.getD i codZ.dft).coil)
    ∧ True) ∧ True ∧ True ∧ True ∧ True ∧ True ∧ True) ∧ ((if false = true then [] else List.map Seg.shape [Seg.s (SV.int IntKind.i64 px), Seg.s (SV.int IntKind.i64
    py)]) = if false = true then [] else List.map Seg.shape [Seg.s (SV.int IntKind.i64 px), Seg.s (SV.int IntKind.i64 py)]) ∧ (px = px ∧ py = py ∧ True) ∧ ((if false
    = true then [] else List.map Seg.shape ([Seg.s (SV.int IntKind.i64 (0 : Int))] ++ ([Seg.s (SV.int IntKind.i64 (0 : Int))] ++ []))) = if false = true then [] else
    List.map Seg.shape ([Seg.s (SV.int IntKind.i64 (0 : Int))] ++ ([Seg.s (SV.int IntKind.i64 (0 : Int))] ++ []))) ∧ (sm ((0 : Int)) ∧ sm ((0 : Int)) ∧ True) ∧ True)
    ∧ (act c lv px py (t.zones.getD n_2.toNat codZ.dft) = false → True ∧ J20 t c lv px py (n, n_1, W (n_2 + (1 : Int))) ∧ (↑t.zones.length - W (n_2 + (1 : Int))).toNat
    < (↑t.zones.length - n_2).toNat ∧ ((t.radius = t.radius ∧ True ∧ True ∧ t.gx = t.gx ∧ t.gy = t.gy ∧ t.drag = t.drag ∧ t.shift = t.shift ∧ True ∧ True ∧ True ∧ True
    ∧ True ∧ (sm (t.zones.length) ∧ ∀ (i : Nat), i < t.zones.length → sm ((t.zones.getD i codZ.dft).name) ∧ sm ((t.zones.getD i codZ.dft).level) ∧ sm ((t.zones.getD
    i codZ.dft).lox) ∧ sm ((t.zones.getD i codZ.dft).loy) ∧ sm ((t.zones.getD i codZ.dft).hix) ∧ sm ((t.zones.getD i codZ.dft).hiy) ∧ sm ((t.zones.getD i codZ.dft).hx)
    ∧ sm ((t.zones.getD i codZ.dft).hy) ∧ sm ((t.zones.getD i codZ.dft).coil) ∧ True) ∧ True ∧ True ∧ True ∧ True ∧ True ∧ True) ∧ c = c ∧ lv = lv ∧ (px = px ∧ py =
    py ∧ True) ∧ True ∧ True ∧ True ∧ True ∧ True ∧ n = n ∧ n_1 = n_1 ∧ sm (W (n_2 + (1 : Int))) ∧ True ∧ True ∧ t.gx = t.gx ∧ True ∧ True ∧ t.gy = t.gy ∧ True ∧ True
    ∧ True ∧ True ∧ True ∧ True ∧ True ∧ True ∧ True ∧ True ∧ True ∧ True ∧ True ∧ True ∧ True ∧ True ∧ True ∧ True ∧ True ∧ True ∧ True ∧ True ∧ True ∧ True ∧ True
    ∧ True ∧ True ∧ True ∧ True ∧ True ∧ True ∧ True ∧ True ∧ True ∧ True ∧ True ∧ True ∧ True ∧ True ∧ True) ∧ ((if false = true then [] else List.map Seg.shape [Seg.s
    (SV.int IntKind.i64 t.radius), Seg.s SV.opq, Seg.s SV.opq, Seg.s (SV.int IntKind.i64 t.gx), Seg.s (SV.int IntKind.i64 t.gy), Seg.s (SV.int IntKind.i64 t.drag), Seg.s
    (SV.int IntKind.i64 t.shift), Seg.s SV.opq, Seg.s SV.opq, Seg.s SV.opq, Seg.s SV.opq, Seg.s SV.opq, Seg.s (SV.ros ((0 : Nat) + (1 : Nat) + (1 : Nat) + (1 : Nat)
    + (1 : Nat) + (1 : Nat) + (1 : Nat) + (1 : Nat) + (1 : Nat) + (1 : Nat)) t.zones.length fun i => codZ.enc (t.zones.getD i codZ.dft)), Seg.s SV.opq, Seg.s SV.opq,
    Seg.s SV.opq, Seg.s SV.opq, Seg.s SV.opq]) = if false = true then [] else List.map Seg.shape [Seg.s (SV.int IntKind.i64 t.radius), Seg.s SV.opq, Seg.s SV.opq, Seg.s
    (SV.int IntKind.i64 t.gx), Seg.s (SV.int IntKind.i64 t.gy), Seg.s (SV.int IntKind.i64 t.drag), Seg.s (SV.int IntKind.i64 t.shift), Seg.s SV.opq, Seg.s SV.opq, Seg.s
    SV.opq, Seg.s SV.opq, Seg.s SV.opq, Seg.s (SV.ros ((0 : Nat) + (1 : Nat) + (1 : Nat) + (1 : Nat) + (1 : Nat) + (1 : Nat) + (1 : Nat) + (1 : Nat) + (1 : Nat) + (1
    : Nat)) t.zones.length fun i => codZ.enc (t.zones.getD i codZ.dft)), Seg.s SV.opq, Seg.s SV.opq, Seg.s SV.opq, Seg.s SV.opq, Seg.s SV.opq]) ∧ (t.radius = t.radius
    ∧ True ∧ True ∧ t.gx = t.gx ∧ t.gy = t.gy ∧ t.drag = t.drag ∧ t.shift = t.shift ∧ True ∧ True ∧ True ∧ True ∧ True ∧ (sm (t.zones.length) ∧ ∀ (i : Nat), i < t.zones.length
    → sm ((t.zones.getD i codZ.dft).name) ∧ sm ((t.zones.getD i codZ.dft).level) ∧ sm ((t.zones.getD i codZ.dft).lox) ∧ sm ((t.zones.getD i codZ.dft).loy) ∧ sm ((t.zones.getD
    i codZ.dft).hix) ∧ sm ((t.zones.getD i codZ.dft).hiy) ∧ sm ((t.zones.getD i codZ.dft).hx) ∧ sm ((t.zones.getD i codZ.dft).hy) ∧ sm ((t.zones.getD i codZ.dft).coil)
    ∧ True) ∧ True ∧ True ∧ True ∧ True ∧ True ∧ True) ∧ ((if false = true then [] else List.map Seg.shape [Seg.s (SV.int IntKind.i64 px), Seg.s (SV.int IntKind.i64
    py)]) = if false = true then [] else List.map Seg.shape [Seg.s (SV.int IntKind.i64 px), Seg.s (SV.int IntKind.i64 py)]) ∧ (px = px ∧ py = py ∧ True) ∧ ((if false
    = true then [] else List.map Seg.shape ([Seg.s (SV.int IntKind.i64 (0 : Int))] ++ ([Seg.s (SV.int IntKind.i64 (0 : Int))] ++ []))) = if false = true then [] else
    List.map Seg.shape ([Seg.s (SV.int IntKind.i64 (0 : Int))] ++ ([Seg.s (SV.int IntKind.i64 (0 : Int))] ++ []))) ∧ (sm ((0 : Int)) ∧ sm ((0 : Int)) ∧ True) ∧ True))
    ∧ (decide (n_2 < ↑t.zones.length) = false → True ∧ True ∧ ((True ∧ True) ∧ True) ∧ True ∧ True ∧ ((True ∧ True) ∧ True) ∧ True ∧ True ∧ (limI n (1024 : Int) = halX
    t c lv px py ∧ limI n_1 (1024 : Int) = halY t c lv px py ∧ True) ∧ True)) = vc20 t c lv px py := by kernel_rfl
theorem vc7_eq (z : Int) : (True ∧ True ∧ True ∧ True ∧ True ∧ True ∧ True ∧ True ∧ True ∧ True ∧ True ∧ True ∧ True ∧ True ∧ True ∧ ((0 : Nat) + (1 : Nat) ≤ (1 : Nat) ∧ ∀ (i : Nat), i < (1
    : Nat) → true = true) ∧ True ∧ True ∧ True ∧ True ∧ True ∧ True ∧ True ∧ ((((true = true ∧ true = true ∧ true = true ∧ true = true ∧ true = true ∧ true = true ∧
    true = true ∧ true = true ∧ true = true ∧ true = true ∧ true = true ∧ true = true) ∧ ∀ (i : Nat), i < (1 : Nat) → true = true ∧ True) ∧ True ∧ True) ∧ ((-9223372036854775808
    : Int) ≤ (17 : Int) ∧ (17 : Int) < (9223372036854775808 : Int)) ∧ (-9223372036854775808 : Int) ≤ (-7 : Int) ∧ (-7 : Int) < (9223372036854775808 : Int)) ∧ (True ∧
    True) ∧ (true = true → True ∧ True ∧ True ∧ True ∧ True ∧ True ∧ True ∧ True ∧ True ∧ True ∧ True ∧ True ∧ ((0 : Nat) + (1 : Nat) ≤ (1 : Nat) ∧ ∀ (i : Nat), i <
    (1 : Nat) → true = true) ∧ True ∧ True ∧ True ∧ True ∧ True ∧ True ∧ True ∧ ((((true = true ∧ true = true ∧ true = true ∧ true = true ∧ true = true ∧ true = true
    ∧ true = true ∧ true = true ∧ true = true ∧ true = true ∧ true = true ∧ true = true) ∧ ∀ (i : Nat), i < (1 : Nat) → true = true ∧ True) ∧ True ∧ True) ∧ ((-9223372036854775808
    : Int) ≤ (17 : Int) ∧ (17 : Int) < (9223372036854775808 : Int)) ∧ (-9223372036854775808 : Int) ≤ (-7 : Int) ∧ (-7 : Int) < (9223372036854775808 : Int)) ∧ (True ∧
    True) ∧ (true = true → True ∧ True ∧ True ∧ True ∧ True ∧ True ∧ True ∧ True ∧ True ∧ True ∧ True ∧ True ∧ ((0 : Nat) + (1 : Nat) ≤ (1 : Nat) ∧ ∀ (i : Nat), i <
    (1 : Nat) → true = true) ∧ True ∧ True ∧ True ∧ True ∧ True ∧ True ∧ True ∧ True ∧ ((((true = true ∧ true = true ∧ true = true ∧ true = true ∧ true = true ∧ true
    = true ∧ true = true ∧ true = true ∧ true = true ∧ true = true ∧ true = true ∧ true = true) ∧ ∀ (i : Nat), i < (1 : Nat) → true = true ∧ True) ∧ True ∧ True ∧ True)
    ∧ (1 : Nat) ≤ (1000 : Nat)) ∧ (True ∧ True) ∧ (true = true → True ∧ True ∧ True ∧ True ∧ True ∧ True ∧ True ∧ True ∧ True ∧ True ∧ True ∧ True ∧ ((0 : Nat) + (1
    : Nat) ≤ (1 : Nat) ∧ ∀ (i : Nat), i < (1 : Nat) → true = true) ∧ True ∧ True ∧ True ∧ True ∧ True ∧ True ∧ True ∧ True ∧ ((((true = true ∧ true = true ∧ true = true
    ∧ true = true ∧ true = true ∧ true = true ∧ true = true ∧ true = true ∧ true = true ∧ true = true ∧ true = true ∧ true = true) ∧ ∀ (i : Nat), i < (1 : Nat) → true
    = true ∧ True) ∧ True ∧ True ∧ True) ∧ (1 : Nat) ≤ (1000 : Nat)) ∧ (True ∧ True) ∧ (true = true → True ∧ True ∧ True ∧ True ∧ True ∧ True ∧ True ∧ True ∧ True ∧
    True ∧ True ∧ True ∧ ((0 : Nat) + (1 : Nat) ≤ (1 : Nat) ∧ ∀ (i : Nat), i < (1 : Nat) → true = true) ∧ True ∧ True ∧ True ∧ True ∧ True ∧ (((true = true ∧ true =
    true ∧ true = true ∧ true = true ∧ true = true ∧ true = true ∧ true = true ∧ true = true ∧ true = true ∧ true = true ∧ true = true ∧ true = true) ∧ ∀ (i : Nat),
    i < (1 : Nat) → true = true ∧ True) ∧ True) ∧ True ∧ True ∧ ((800 : Int) == (800 : Int)) = true ∧ True) ∧ (true = false → True ∧ True ∧ true = false ∧ True)) ∧ (true
    = false → True ∧ True ∧ true = false ∧ True)) ∧ (true = false → True ∧ True ∧ true = false ∧ True)) ∧ (true = false → True ∧ True ∧ true = false ∧ True)) = vc7 z := by kernel_rfl
theorem zd : (⟨[], 0, 0, 0, 0, 0, 0, 0, 0⟩ : Zn) = default := rfl
theorem come_succ (p : Zn → Bool) (zs : List Zn) (k : Nat) : come p zs (k + 1) = if p (zs.getD k default) then come p zs k ++ [((k : Int), zs.getD k default)] else come p zs k := rfl
theorem few_iff {t : Tb} : fewB t = true ↔ t.zones.length ≤ 40 ∧ smB t.gx t.gy = true ∧ ∀ j, j < t.zones.length → smB (t.zones.getD j default).hx (t.zones.getD j default).hy = true := by simp only [fewB, decide_eq_true_eq]
theorem few_no {t : Tb} (h : ¬ (t.zones.length ≤ 40 ∧ smB t.gx t.gy = true ∧ ∀ j, j < t.zones.length → smB (t.zones.getD j default).hx (t.zones.getD j default).hy = true)) : fewB t = false := by
  rw [Bool.eq_false_iff]; exact fun h2 => h (few_iff.1 h2)
theorem t16 (t : Tb) (hl : t.zones.length ≤ 9223372036854775807) : vc16 t := by
  rw [← vc16_eq]
  simp [-List.getD_eq_getElem?_getD]
  simp only [zd]
  refine ⟨fun h => few_no (by omega), fun h => ⟨fun h2 => few_no fun q => by simp [h2] at q, fun h2 => ⟨by simp only [J16]; exact ⟨by omega, by omega, fun j hj => by simp at hj⟩, fun n hJ => ?_⟩⟩⟩
  simp only [J16] at hJ ⊢
  obtain ⟨n0, n1, hj⟩ := hJ
  refine ⟨fun h3 => ⟨⟨n0, h3⟩, fun h4 => few_no fun q => ?_, fun h4 => ?_⟩, fun h3 => few_iff.2 ⟨by omega, h2, fun j hj2 => hj j (by omega)⟩⟩
  · have := q.2.2 n.toNat (by omega)
    rw [h4] at this; cases this
  · rw [W_id (n := n + 1) (by omega) (by omega)]
    refine ⟨⟨by omega, by omega, fun j hj2 => ?_⟩, by omega⟩
    by_cases e : j = n.toNat
    · rw [e]; exact h4
    · exact hj j (by omega)
theorem come_lt (p : Zn → Bool) (zs : List Zn) : ∀ k, (come p zs k).length ≤ k := come_len p zs
theorem t18 (t : Tb) (c lv px py : Int) (hl : t.zones.length ≤ 1000) : vc18 t c lv px py := by
  rw [← vc18_eq]
  simp [-List.getD_eq_getElem?_getD]
  simp only [zd]
  refine ⟨by simp only [J18]; exact ⟨by omega, by omega, rfl⟩, fun n l hJ => ?_⟩
  simp only [J18] at hJ ⊢
  obtain ⟨n0, n1, hl2⟩ := hJ
  have ll : l.length ≤ n.toNat := by rw [hl2, List.length_map]; exact come_len _ _ _
  refine ⟨fun h3 => ⟨⟨n0, h3⟩, fun h4 => ⟨by omega, ?_, by rw [W_id (n := n + 1) (by omega) (by omega)]; omega, fun i hi => ?_⟩, fun h4 => ?_⟩, fun h3 => ?_⟩
  · rw [W_id (n := n + 1) (by omega) (by omega)]
    refine ⟨by omega, by omega, ?_⟩
    rw [show (n + 1).toNat = n.toNat + 1 by omega, come_succ, if_pos h4, List.map_append, ← hl2]
    simp; omega
  · exact (getD_push (l := l) (v := n) (d := 0) hi).symm
  · rw [W_id (n := n + 1) (by omega) (by omega)]
    refine ⟨⟨by omega, by omega, ?_⟩, by omega⟩
    rw [show (n + 1).toNat = n.toNat + 1 by omega, come_succ, if_neg (by rw [h4]; decide)]; exact hl2
  · have e : l = zonL t c lv px py := by simp only [zonL]; rw [hl2, show n.toNat = t.zones.length by omega]
    rw [e]; exact ⟨rfl, fun _ _ => rfl⟩
theorem wrap_W (n : Int) : wrap64 n = W n := by
  unfold W wrap64
  simp [IntKind.wrap, IntKind.bits, IntKind.signed]
  omega
theorem t20 (t : Tb) (c lv px py : Int) (hl : t.zones.length ≤ 1000) : vc20 t c lv px py := by
  rw [← vc20_eq]
  simp [-List.getD_eq_getElem?_getD]
  simp only [zd]
  refine ⟨by simp only [J20]; exact ⟨by omega, by omega, rfl⟩, fun x y n hJ => ?_⟩
  simp only [J20] at hJ ⊢
  obtain ⟨n0, n1, hs⟩ := hJ
  refine ⟨fun h3 => ⟨⟨n0, h3⟩, fun h4 => ⟨⟨n0, h3⟩, ?_, by rw [W_id (n := n + 1) (by omega) (by omega)]; omega⟩, fun h4 => ?_⟩, fun h3 => ?_⟩
  · rw [W_id (n := n + 1) (by omega) (by omega)]
    refine ⟨by omega, by omega, ?_⟩
    rw [show (n + 1).toNat = n.toNat + 1 by omega, come_succ, if_pos h4, sumH_snoc, ← hs]
    simp only [wrap_W]
  · rw [W_id (n := n + 1) (by omega) (by omega)]
    refine ⟨⟨by omega, by omega, ?_⟩, by omega⟩
    rw [show (n + 1).toNat = n.toNat + 1 by omega, come_succ, if_neg (by rw [h4]; decide)]; exact hs
  · rw [show n.toNat = t.zones.length by omega] at hs
    simp only [halX, halY]
    rw [← hs]; exact ⟨rfl, rfl⟩
theorem t7 (z : Int) : vc7 z := by
  rw [← vc7_eq]
  simp [-List.getD_eq_getElem?_getD]
/-! The two functions that were walked by hand. -/
theorem size18 {cs : Array Value} (h : cs.size = 18) : ∃ v0 v1 v2 v3 v4 v5 v6 v7 v8 v9 v10 v11 v12 v13 v14 v15 v16 v17, cs = #[v0, v1, v2, v3, v4, v5, v6, v7, v8, v9, v10, v11, v12, v13, v14, v15, v16, v17] := by
  obtain ⟨l⟩ := cs
  simp at h
  match l, h with
  | [v0, v1, v2, v3, v4, v5, v6, v7, v8, v9, v10, v11, v12, v13, v14, v15, v16, v17], _ => exact ⟨_, _, _, _, _, _, _, _, _, _, _, _, _, _, _, _, _, _, rfl⟩
theorem tab_val {R : RO} {t : Tb} {v : Value} (h : Rel R Own.empty (tE t) v) : ∃ v0 v1 v2 v5 v6 v7 v8 v9 v10 v11 v12 v13 v14 v15 v16 v17, v = .agg #[v0, v1, v2, vI t.gx, vI t.gy, v5, v6, v7, v8, v9, v10, v11, v12, v13, v14, v15, v16, v17] ∧ Rel R Own.empty (encR codZ t.zones) v12 := by
  obtain ⟨cs, rfl, hs, hh⟩ := inv_agg h
  obtain ⟨v0, v1, v2, v3, v4, v5, v6, v7, v8, v9, v10, v11, v12, v13, v14, v15, v16, v17, rfl⟩ := size18 hs
  have h3 := inv_int (hh 3 (iS t.gx) rfl)
  have h4 := inv_int (hh 4 (iS t.gy) rfl)
  have h12 := hh 12 (encR codZ t.zones) rfl
  have h3 : v3 = vI t.gx := h3
  have h4 : v4 = vI t.gy := h4
  subst h3; subst h4
  exact ⟨_, _, _, _, _, _, _, _, _, _, _, _, _, _, _, _, rfl, h12⟩
theorem vec_val {R : RO} {x y : Int} {v : Value} (h : Rel R Own.empty (vS x y) v) : v = .agg #[vI x, vI y] := by
  obtain ⟨cs, rfl, hs, hh⟩ := inv_agg h
  obtain ⟨l⟩ := cs
  have hs : l.length = 2 := hs
  match l, hs with
  | [a, b], _ =>
    have h0 : a = vI x := inv_int (hh 0 (iS x) rfl)
    have h1 : b = vI y := inv_int (hh 1 (iS y) rfl)
    rw [h0, h1]
theorem vec_rel (R : RO) (x y : Int) : Rel R Own.empty (vS x y) (.agg #[vI x, vI y]) := by
  refine .agg _ _ _ rfl fun k sv hk => ?_
  match k, hk with
  | 0, hk => cases hk; exact .int _ _ _
  | 1, hk => cases hk; exact .int _ _ _
theorem cell_lt {w : World} {b o : Nat} {v : Value} (h : w.cell? ⟨b, o, none⟩ = some v) : b < w.heap.size := by
  by_cases hb : b < w.heap.size
  · exact hb
  · have e : w.heap[b]? = none := Array.getElem?_eq_none (by omega)
    simp [World.cell?, e] at h
theorem zones_of {R : RO} {w : World} {zs : List Zn} {v : Value} (hR : ∀ b o v, R b o = some v → w.cell? ⟨b, o, none⟩ = some v) (h : Rel R Own.empty (encR codZ zs) v) : Zones w.heap.size w v zs := by
  rcases inv_ros h with ⟨hl, A, cap, rfl⟩ | ⟨b, k0, cap, vs, rfl, hcap, hl, hm, hh⟩
  · exact .inl ⟨List.eq_nil_of_length_eq_zero hl, A, cap, rfl⟩
  · by_cases he : zs.length = 0
    · exact .inl ⟨List.eq_nil_of_length_eq_zero he, some ⟨b, k0, none⟩, cap, by rw [he]⟩
    · refine .inr ⟨b, k0, cap, rfl, cell_lt (hR _ _ _ (hm 0 (by simp; omega))), fun j hj i hi => ?_⟩
      have c := hR _ _ _ (hm (j * 9 + i) (by simp; omega))
      rw [show k0 + (j * 9 + i) = k0 + j * 9 + i by omega] at c
      rw [c]
      congr 1
      have r := fun sv hs => hh j i sv hj hs
      rcases (show i = 0 ∨ i = 1 ∨ i = 2 ∨ i = 3 ∨ i = 4 ∨ i = 5 ∨ i = 6 ∨ i = 7 ∨ i = 8 by omega) with rfl | rfl | rfl | rfl | rfl | rfl | rfl | rfl | rfl
      · exact inv_str (r _ rfl)
      all_goals exact inv_int (r _ rfl)
theorem row_ro {R : RO} {w W' : World} {v : Value} {l : List Int} (hR : ∀ b o v, R b o = some v → w.cell? ⟨b, o, none⟩ = some v) (hB : Below w.heap.size w W') (h : W'.ownsRow w.heap.size 3 1 v l.length (l.map vI)) :
    ∃ R', Rel R' Own.empty (encR (codI .i64) l) v ∧ ROle R R' ∧ (∀ b o v, R' b o = some v → W'.cell? ⟨b, o, none⟩ = some v) ∧ (∀ b o, b < w.heap.size → R' b o = R b o) := by
  have old : ∀ b o v, R b o = some v → W'.cell? ⟨b, o, none⟩ = some v := fun b o v hv => (hB.cell (p := ⟨b, o, none⟩) (cell_lt (hR _ _ _ hv))).trans (hR _ _ _ hv)
  obtain ⟨h1, ⟨rfl, h2⟩ | ⟨g, cap, cur, rfl, hg, hh, hn, hm, hs, ht⟩⟩ := h
  · exact ⟨R, .ros0 _ _ _ _ _ _ h2, .refl _, old, fun _ _ _ => rfl⟩
  · refine ⟨fun b o => if b = g then W'.cell? ⟨g, o, none⟩ else R b o, ?_, fun b o v hv => ?_, fun b o v hv => ?_, fun b o hb => ?_⟩
    · refine .ros _ _ _ _ g 0 cap (fun k => vI (l.getD k 0)) hn (fun i hi => rfl) (fun k hk => ?_) (fun i j sv hi hj => ?_)
      · have hk : k < l.length := by
          have e : (codI .i64).n = 1 := rfl
          rw [e] at hk; omega
        simp only [if_true, Nat.zero_add]
        rw [cell_of hh]
        have e : (cur.toList.take (l.length * 1))[k]? = some (vI (l.getD k 0)) := by
          rw [ht, List.getElem?_map, List.getD_eq_getElem?_getD, List.getElem?_eq_getElem hk]; rfl
        rw [List.getElem?_take, if_pos (by omega)] at e
        rw [← Array.getElem?_toList]; exact e
      · match j, hj with
        | 0, hj =>
          cases hj
          have e : (codI .i64).n = 1 := rfl
          rw [e, Nat.mul_one, Nat.add_zero]
          exact .int _ _ _
    · have := cell_lt (hR _ _ _ hv)
      simp only [if_neg (show ¬ b = g by omega)]; exact hv
    · simp only at hv
      split at hv
      · rename_i e; subst e; exact hv
      · exact old b o v hv
    · simp only [if_neg (show ¬ b = g by omega)]
theorem open4 {R : RO} {a : Tb × Int × Int × Vc} {vals : Array Value} (h : RelL R Own.empty (sTCIV.enc a) vals.toList) : ∃ v, vals = #[v, .int .u32 a.2.1, vI a.2.2.1, .agg #[vI a.2.2.2.x, vI a.2.2.2.y]] ∧ Rel R Own.empty (tE a.1) v := by
  obtain ⟨l⟩ := vals
  match l, h with
  | [v0, v1, v2, v3], ⟨h0, h1, h2, h3, _⟩ =>
    have e1 : v1 = .int .u32 a.2.1 := inv_int h1
    have e2 : v2 = vI a.2.2.1 := inv_int h2
    have e3 : v3 = .agg #[vI a.2.2.2.x, vI a.2.2.2.y] := vec_val h3
    subst e1; subst e2; subst e3
    exact ⟨_, rfl, h0⟩
  | [], h => exact h.elim
  | [_], h => exact h.2.elim
  | [_, _], h => exact h.2.2.elim
  | [_, _, _], h => exact h.2.2.2.elim
  | _ :: _ :: _ :: _ :: _ :: _, h => exact h.2.2.2.2.elim
theorem fn_hand {P : Program} {f : Nat} {fn : Func} (hf : P.funcs[f]? = some fn) (hb : fn.body.isSome = true) (hname : (fn.name == "runtime.NumGoroutine") = false) {α : Type} {n : Nat} {dec : List SV → Option (Prop × α)} {enc : α → List SV} {pre : α → Prop} {res : α → SV} (hd : DecOK n dec enc)
    (H : ∀ a, pre a → ∀ (R : RO) (w : World) (vals : Array Value), (∀ b o v, R b o = some v → w.cell? ⟨b, o, none⟩ = some v) → RelL R Own.empty (enc a) vals.toList →
      Calls P f vals w fun e w' => ∃ v R', e = .returned v ∧ Rel R' Own.empty (res a) v ∧ ROle R R' ∧ (∀ b o v, R' b o = some v → w'.cell? ⟨b, o, none⟩ = some v) ∧ (∀ b o, b < w.heap.size → R' b o = R b o) ∧ Below w.heap.size w w') : FnOK P f (ctr dec pre res) := by
  refine ⟨⟨fn, hf, hb, hname⟩, fun args p r hc hp R w vals hR hrel => ?_⟩
  unfold ctr at hc
  rw [forceL_eq] at hc
  split at hc
  case h_2 => cases hc
  rename_i q a ha
  simp only [Option.some.injEq, Prod.mk.injEq] at hc
  obtain ⟨rfl, rfl⟩ := hc
  obtain ⟨h1, h2⟩ := hd _ _ _ ha hp.1
  exact H a hp.2 R w vals hR (leBL_relL (Kp.none _ _) h1 hrel)
theorem zon_eq (t : Tb) (c lv px py : Int) : (zonL t c lv px py).map vI = (come (act c lv px py) t.zones t.zones.length).map fun x => vI x.1 := by
  simp only [zonL, List.map_map]; rfl
theorem zon_len (t : Tb) (c lv px py : Int) : (zonL t c lv px py).length = (come (act c lv px py) t.zones t.zones.length).length := by simp only [zonL, List.length_map]
theorem k17 : TabOK Try.prog T17 := ⟨fn_hand Try.func17 rfl (by kernel_rfl) sTCIV.ok fun a hp R w vals hR hrel => by
  obtain ⟨v, rfl, hv⟩ := open4 hrel
  obtain ⟨v0, v1, v2, v5, v6, v7, v8, v9, v10, v11, v12, v13, v14, v15, v16, v17, rfl, hz⟩ := tab_val hv
  refine callsIn_wide.1 ((zones_in Fence.wide 4 trivial trivial trivial trivial rfl (Nat.le_refl _) v0 v1 v2 (vI a.1.gx) (vI a.1.gy) v5 v6 v7 v8 v9 v10 v11 v12 v13 v14 v15 v16 v17 a.1.zones (by omega) a.2.1 a.2.2.1 a.2.2.2.x a.2.2.2.y w (zones_of hR hz)).mono ?_)
  rintro e W' ⟨v, rfl, hrow, hB⟩
  rw [← zon_eq, ← zon_len] at hrow
  obtain ⟨R', r1, r2, r3, r4⟩ := row_ro hR hB hrow
  exact ⟨v, R', rfl, r1, r2, r3, r4, hB⟩, k25⟩
theorem lim_calls (n : Nat) (x y : Int) (W : World) : CallsIn Fence.wide n Try.prog 22 #[.agg #[vI x, vI y], vI 1024] W fun e W' => e = .returned (.agg #[vI (limI x 1024), vI (limI y 1024)]) ∧ Below W.heap.size W W' := by
  have k := tab_ok k22 22 _ rfl
  have := k.calls [vS x y, iS 1024] _ _ rfl ⟨⟨trivial, trivial⟩, trivial⟩ (fun _ _ => none) W #[.agg #[vI x, vI y], vI 1024] (fun _ _ _ h => by cases h) ⟨vec_rel _ x y, .int _ _ _, trivial⟩
  refine callsIn_wide.2 (this.mono ?_)
  rintro e W' ⟨v, R', rfl, hv, _, _, _, hB⟩
  exact ⟨by rw [vec_val hv], hB⟩
theorem k19 : TabOK Try.prog T19 := ⟨fn_hand Try.func19 rfl (by kernel_rfl) sTCIV.ok fun a hp R w vals hR hrel => by
  obtain ⟨v, rfl, hv⟩ := open4 hrel
  obtain ⟨v0, v1, v2, v5, v6, v7, v8, v9, v10, v11, v12, v13, v14, v15, v16, v17, rfl, hz⟩ := tab_val hv
  refine callsIn_wide.1 ((half_in Fence.wide 4 trivial trivial trivial trivial trivial rfl (Nat.le_refl _) v0 v1 v2 v5 v6 v7 v8 v9 v10 v11 v12 v13 v14 v15 v16 v17 a.1.gx a.1.gy a.1.zones (by omega) a.2.1 a.2.2.1 a.2.2.2.x a.2.2.2.y (fun x => limI x 1024) (lim_calls _) w (zones_of hR hz)).mono ?_)
  rintro e W' ⟨rfl, hB⟩
  refine ⟨_, R, rfl, ?_, .refl _, fun b o v hv => (hB.cell (p := ⟨b, o, none⟩) (cell_lt (hR _ _ _ hv))).trans (hR _ _ _ hv), fun _ _ _ => rfl, hB⟩
  simp only [halX, halY]
  exact vec_rel _ _ _, k17⟩
theorem k16 : TabOK Try.prog T16 := fn_tabA k19 hm Try.func16 (by kernel_rfl) (by kernel_rfl) sT.ok (by kernel_rfl) (fun a => A16 a) fun a hp => by
  have h := t16 a hp
  exact h
theorem k18 : TabOK Try.prog T18 := fn_tabA k16 hm Try.func18 (by kernel_rfl) (by kernel_rfl) sTCIV.ok (by kernel_rfl) (fun a => A18 a.1 a.2.1 a.2.2.1 a.2.2.2.x a.2.2.2.y) fun a hp => by
  have h := t18 a.1 a.2.1 a.2.2.1 a.2.2.2.x a.2.2.2.y hp
  exact h
theorem k20 : TabOK Try.prog T20 := fn_tabA k18 hm Try.func20 (by kernel_rfl) (by kernel_rfl) sTCIV.ok (by kernel_rfl) (fun a => A20 a.1 a.2.1 a.2.2.1 a.2.2.2.x a.2.2.2.y) fun a hp => by
  have h := t20 a.1 a.2.1 a.2.2.1 a.2.2.2.x a.2.2.2.y hp
  exact h
theorem k7 : TabOK Try.prog T7 := fn_tabA k20 hm Try.func7 (by kernel_rfl) (by kernel_rfl) Sig.nil.ok (by kernel_rfl) (fun _ => []) fun a hp => by
  have h := t7 0
  exact h
end Go.Proofs.Fi
