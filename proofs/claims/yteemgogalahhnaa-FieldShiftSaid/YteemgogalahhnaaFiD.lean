import Derived.Test.YteemgogalahhnaaFiC
namespace Go.Proofs.Fi
set_option linter.unusedVariables false
set_option linter.unusedSimpArgs false
open Go Go.Sx Go.Proofs
set_option maxRecDepth 100000
set_option maxHeartbeats 4000000
-- SAME: sm
-- ABBR: IntKind.i64.wrap ==> W
abbrev XS := Vc × Int × Int
def cntI (d i : Int) : Int := if i ≤ 0 then 0 else if i ≤ d then 1 else 2
def J4 (t : Tb) (x : XS) : Prop := 0 ≤ x.2.2 ∧ x.2.2 ≤ 2 * t.drag ∧ 0 ≤ x.2.1 ∧ x.2.1 ≤ cntI t.drag x.2.2 ∧ smB x.1.x x.1.y = true
attribute [irreducible] J4
noncomputable def vc3 (t : Tb) (x y k : Int) : Prop := cva T7 Try.f3 [] [tE t, vS x y, iS k] (.bool true)
def A4 (t : Tb) : List Ann := [⟨.unit, .list [.cod codV 2 0, .int .i64 (.tm 8), .int .i64 (.tm 9)], fun _ (x : XS) => J4 t x, fun _ (x : XS) => (2 * t.drag - x.2.2).toNat⟩]
noncomputable def vc4 (t : Tb) (x y k : Int) : Prop := cva T7 Try.f4 (A4 t) [tE t, vS x y, iS k] (.bool true)
def A5 (t : Tb) : List Ann := [⟨.unit, .int .i64 (.tm 7), fun _ (n : Int) => -1 ≤ n ∧ n ≤ 5, fun _ (n : Int) => (5 - n).toNat⟩, ⟨.unit, .int .i64 (.tm 10), fun _ (n : Int) => 0 ≤ n ∧ n ≤ t.zones.length, fun _ (n : Int) => ((t.zones.length : Int) - n).toNat⟩]
noncomputable def vc5 (t : Tb) (x y c : Int) : Prop := cva T7 Try.f5 (A5 t) [tE t, vS x y, .int .u32 c] (.bool true)
theorem vc3_eq (t : Tb) (x y k : Int) : (True ∧ (True ∧ True) ∧ True ∧ (false = true → True ∧ True ∧ true = false ∧ True) ∧ (false = false → True ∧ (True ∧ True) ∧ True ∧ ((!smB x y) = true → (True ∧ True)
    ∧ True ∧ True ∧ true = true ∧ True) ∧ ((!smB x y) = false → True ∧ True ∧ True ∧ ((((true = true ∧ true = true ∧ true = true ∧ true = true ∧ true = true ∧ true =
    true ∧ true = true ∧ true = true ∧ true = true ∧ true = true ∧ true = true ∧ true = true) ∧ ∀ (i : Nat), i < t.zones.length → true = true ∧ True) ∧ True ∧ True)
    ∧ ((-9223372036854775808 : Int) ≤ x ∧ x < (9223372036854775808 : Int)) ∧ (-9223372036854775808 : Int) ≤ y ∧ y < (9223372036854775808 : Int)) ∧ True ∧ True ∧ True
    ∧ ((((true = true ∧ true = true ∧ true = true ∧ true = true ∧ true = true ∧ true = true ∧ true = true ∧ true = true ∧ true = true ∧ true = true ∧ true = true ∧ true
    = true) ∧ ∀ (i : Nat), i < t.zones.length → true = true ∧ True) ∧ True ∧ True) ∧ ((-9223372036854775808 : Int) ≤ x ∧ x < (9223372036854775808 : Int)) ∧ (-9223372036854775808
    : Int) ≤ y ∧ y < (9223372036854775808 : Int)) ∧ (True ∧ True) ∧ (eqSegs [Seg.s (SV.int IntKind.i64 (drV { radius := t.radius, gx := t.gx, gy := t.gy, drag := t.drag, shift := t.shift, zones := rowL codZ t.zones.length fun i => codZ.enc (t.zones.getD i codZ.dft) : Tb }
    k x)), Seg.s (SV.int IntKind.i64 (drV { radius := t.radius, gx := t.gx, gy := t.gy, drag := t.drag, shift := t.shift, zones := rowL codZ t.zones.length fun i => codZ.enc (t.zones.getD i codZ.dft) : Tb }
    k y))] [Seg.s (SV.int IntKind.i64 (drV { radius := t.radius, gx := t.gx, gy := t.gy, drag := t.drag, shift := t.shift, zones := rowL codZ t.zones.length fun i => codZ.enc (t.zones.getD i codZ.dft) : Tb }
    k x)), Seg.s (SV.int IntKind.i64 (drV { radius := t.radius, gx := t.gx, gy := t.gy, drag := t.drag, shift := t.shift, zones := rowL codZ t.zones.length fun i => codZ.enc (t.zones.getD i codZ.dft) : Tb }
    k y))] = true → True ∧ (((true = true ∧ true = true ∧ true = true ∧ true = true ∧ true = true ∧ true = true ∧ true = true ∧ true = true ∧ true = true ∧ true = true
    ∧ true = true ∧ true = true) ∧ ∀ (i : Nat), i < t.zones.length → true = true ∧ True) ∧ True) ∧ True ∧ (((true = true ∧ true = true ∧ true = true ∧ true = true ∧
    true = true ∧ true = true ∧ true = true ∧ true = true ∧ true = true ∧ true = true ∧ true = true ∧ true = true) ∧ ∀ (i : Nat), i < t.zones.length → true = true ∧
    True) ∧ True) ∧ ((limT t.radius == limT t.radius) = true → True ∧ True ∧ ((((true = true ∧ true = true ∧ true = true ∧ true = true ∧ true = true ∧ true = true ∧
    true = true ∧ true = true ∧ true = true ∧ true = true ∧ true = true ∧ true = true) ∧ ∀ (i : Nat), i < t.zones.length → true = true ∧ True) ∧ True) ∧ True) ∧ True
    ∧ True ∧ ((((true = true ∧ true = true ∧ true = true ∧ true = true ∧ true = true ∧ true = true ∧ true = true ∧ true = true ∧ true = true ∧ true = true ∧ true = true
    ∧ true = true) ∧ ∀ (i : Nat), i < t.zones.length → true = true ∧ True) ∧ True) ∧ True) ∧ (True ∧ True) ∧ IsT true ∧ True ∧ eqSegs [Seg.s (SV.int IntKind.i64 (limI
    x (limT t.radius))), Seg.s (SV.int IntKind.i64 (limI y (limT t.radius)))] [Seg.s (SV.int IntKind.i64 (limI x (limT t.radius))), Seg.s (SV.int IntKind.i64 (limI y
    (limT t.radius)))] = true ∧ True) ∧ ((limT t.radius == limT t.radius) = false → IsT true ∧ True ∧ true = false ∧ True)) ∧ (eqSegs [Seg.s (SV.int IntKind.i64 (drV
    { radius := t.radius, gx := t.gx, gy := t.gy, drag := t.drag, shift := t.shift, zones := rowL codZ t.zones.length fun i => codZ.enc (t.zones.getD i codZ.dft) : Tb }
    k x)), Seg.s (SV.int IntKind.i64 (drV { radius := t.radius, gx := t.gx, gy := t.gy, drag := t.drag, shift := t.shift, zones := rowL codZ t.zones.length fun i => codZ.enc (t.zones.getD i codZ.dft) : Tb }
    k y))] [Seg.s (SV.int IntKind.i64 (drV { radius := t.radius, gx := t.gx, gy := t.gy, drag := t.drag, shift := t.shift, zones := rowL codZ t.zones.length fun i => codZ.enc (t.zones.getD i codZ.dft) : Tb }
    k x)), Seg.s (SV.int IntKind.i64 (drV { radius := t.radius, gx := t.gx, gy := t.gy, drag := t.drag, shift := t.shift, zones := rowL codZ t.zones.length fun i => codZ.enc (t.zones.getD i codZ.dft) : Tb }
    k y))] = false → IsT true ∧ True ∧ true = false ∧ True)))) = vc3 t x y k := by kernel_rfl
theorem vc4_eq (t : Tb) (x y k : Int) : (True ∧ (True ∧ True) ∧ True ∧ (false = true → True ∧ True ∧ true = false ∧ True) ∧ (false = false → True ∧ (True ∧ True) ∧ ((!smB x y) = true → True ∧ (True ∧ True)
    ∧ True ∧ True ∧ true = true ∧ True) ∧ ((!smB x y) = false → (decide (t.drag < (1 : Int)) = true → True ∧ (True ∧ True) ∧ True ∧ True ∧ true = true ∧ True) ∧ (decide
    (t.drag < (1 : Int)) = false → True ∧ (decide (t.drag > (50 : Int)) = true → (True ∧ True) ∧ True ∧ True ∧ true = true ∧ True) ∧ (decide (t.drag > (50 : Int)) =
    false → True ∧ True ∧ True ∧ (J4 t ({ x := x, y := y : Vc }, (0 : Int), (0 : Int)) ∧ ((t.radius = t.radius ∧ True ∧ True ∧ t.gx = t.gx ∧ t.gy = t.gy ∧ t.drag = t.drag
    ∧ t.shift = t.shift ∧ True ∧ True ∧ True ∧ True ∧ True ∧ (sm (t.zones.length) ∧ ∀ (i : Nat), i < t.zones.length → sm ((t.zones.getD i codZ.dft).name) ∧ sm ((t.zones.getD
    i codZ.dft).level) ∧ sm ((t.zones.getD i codZ.dft).lox) ∧ sm ((t.zones.getD i codZ.dft).loy) ∧ sm ((t.zones.getD i codZ.dft).hix) ∧ sm ((t.zones.getD i codZ.dft).hiy)
    ∧ sm ((t.zones.getD i codZ.dft).hx) ∧ sm ((t.zones.getD i codZ.dft).hy) ∧ sm ((t.zones.getD i codZ.dft).coil) ∧ True) ∧ True ∧ True ∧ True ∧ True ∧ True ∧ True)
    ∧ (x = x ∧ y = y ∧ True) ∧ k = k ∧ True ∧ True ∧ True ∧ True ∧ True ∧ sm ((0 : Int)) ∧ sm ((0 : Int)) ∧ True ∧ True ∧ true = true ∧ True ∧ (x = x ∧ y = y ∧ True)
    ∧ smB x y = smB x y ∧ (!smB x y) = !smB x y ∧ True ∧ True ∧ t.drag = t.drag ∧ sm (decide (t.drag < (1 : Int))) ∧ sm (decide (t.drag < (1 : Int))) ∧ True ∧ True ∧
    t.drag = t.drag ∧ sm (decide (t.drag > (50 : Int))) ∧ True ∧ True ∧ (x = x ∧ y = y ∧ True) ∧ True ∧ True ∧ True ∧ True ∧ True ∧ True ∧ True ∧ True ∧ True ∧ True
    ∧ True ∧ True ∧ True ∧ True ∧ True ∧ True ∧ True ∧ True ∧ True ∧ True ∧ True ∧ True ∧ True ∧ True ∧ True ∧ True ∧ True ∧ True ∧ True ∧ True ∧ True ∧ True ∧ True
    ∧ True ∧ True ∧ True ∧ True ∧ True ∧ True ∧ True ∧ True ∧ True ∧ True ∧ True ∧ True ∧ True ∧ True ∧ True ∧ True ∧ True ∧ True ∧ True ∧ True ∧ True ∧ True ∧ True
    ∧ True ∧ True) ∧ ((if false = true then [] else List.map Seg.shape [Seg.s (SV.int IntKind.i64 t.radius), Seg.s SV.opq, Seg.s SV.opq, Seg.s (SV.int IntKind.i64 t.gx),
    Seg.s (SV.int IntKind.i64 t.gy), Seg.s (SV.int IntKind.i64 t.drag), Seg.s (SV.int IntKind.i64 t.shift), Seg.s SV.opq, Seg.s SV.opq, Seg.s SV.opq, Seg.s SV.opq, Seg.s
    SV.opq, Seg.s (SV.ros ((0 : Nat) + (1 : Nat) + (1 : Nat) + (1 : Nat) + (1 : Nat) + (1 : Nat) + (1 : Nat) + (1 : Nat) + (1 : Nat) + (1 : Nat)) t.zones.length fun
    i => codZ.enc (t.zones.getD i codZ.dft)), Seg.s SV.opq, Seg.s SV.opq, Seg.s SV.opq, Seg.s SV.opq, Seg.s SV.opq]) = if false = true then [] else List.map Seg.shape
    [Seg.s (SV.int IntKind.i64 t.radius), Seg.s SV.opq, Seg.s SV.opq, Seg.s (SV.int IntKind.i64 t.gx), Seg.s (SV.int IntKind.i64 t.gy), Seg.s (SV.int IntKind.i64 t.drag),
    Seg.s (SV.int IntKind.i64 t.shift), Seg.s SV.opq, Seg.s SV.opq, Seg.s SV.opq, Seg.s SV.opq, Seg.s SV.opq, Seg.s (SV.ros ((0 : Nat) + (1 : Nat) + (1 : Nat) + (1 :
    Nat) + (1 : Nat) + (1 : Nat) + (1 : Nat) + (1 : Nat) + (1 : Nat) + (1 : Nat)) t.zones.length fun i => codZ.enc (t.zones.getD i codZ.dft)), Seg.s SV.opq, Seg.s SV.opq,
    Seg.s SV.opq, Seg.s SV.opq, Seg.s SV.opq]) ∧ (t.radius = t.radius ∧ True ∧ True ∧ t.gx = t.gx ∧ t.gy = t.gy ∧ t.drag = t.drag ∧ t.shift = t.shift ∧ True ∧ True ∧
    True ∧ True ∧ True ∧ (sm (t.zones.length) ∧ ∀ (i : Nat), i < t.zones.length → sm ((t.zones.getD i codZ.dft).name) ∧ sm ((t.zones.getD i codZ.dft).level) ∧ sm ((t.zones.getD
    i codZ.dft).lox) ∧ sm ((t.zones.getD i codZ.dft).loy) ∧ sm ((t.zones.getD i codZ.dft).hix) ∧ sm ((t.zones.getD i codZ.dft).hiy) ∧ sm ((t.zones.getD i codZ.dft).hx)
    ∧ sm ((t.zones.getD i codZ.dft).hy) ∧ sm ((t.zones.getD i codZ.dft).coil) ∧ True) ∧ True ∧ True ∧ True ∧ True ∧ True ∧ True) ∧ ((if false = true then [] else List.map
    Seg.shape [Seg.s (SV.int IntKind.i64 x), Seg.s (SV.int IntKind.i64 y)]) = if false = true then [] else List.map Seg.shape [Seg.s (SV.int IntKind.i64 x), Seg.s (SV.int
    IntKind.i64 y)]) ∧ (x = x ∧ y = y ∧ True) ∧ ((if false = true then [] else List.map Seg.shape ([Seg.s (SV.int IntKind.i64 (0 : Int))] ++ ([Seg.s (SV.int IntKind.i64
    (0 : Int))] ++ []))) = if false = true then [] else List.map Seg.shape ([Seg.s (SV.int IntKind.i64 (0 : Int))] ++ ([Seg.s (SV.int IntKind.i64 (0 : Int))] ++ [])))
    ∧ (x = x ∧ y = y ∧ True) ∧ True) ∧ ∀ (a : Vc) (n n_1 : Int), J4 t (a, n, n_1) → True ∧ (decide (n_1 < W ((2 : Int) * t.drag)) = true → True ∧ True ∧ True ∧ ((((true
    = true ∧ true = true ∧ true = true ∧ true = true ∧ true = true ∧ true = true ∧ true = true ∧ true = true ∧ true = true ∧ true = true ∧ true = true ∧ true = true)
    ∧ ∀ (i : Nat), i < t.zones.length → true = true ∧ True) ∧ True ∧ True) ∧ ((-9223372036854775808 : Int) ≤ a.x ∧ a.x < (9223372036854775808 : Int)) ∧ (-9223372036854775808
    : Int) ≤ a.y ∧ a.y < (9223372036854775808 : Int)) ∧ True ∧ (True ∧ True) ∧ True ∧ ((!eqSegs [Seg.s (SV.int IntKind.i64 (drV { radius := t.radius, gx := t.gx, gy := t.gy, drag := t.drag, shift := t.shift, zones := rowL codZ t.zones.length fun i => codZ.enc (t.zones.getD i codZ.dft) : Tb }
    n_1 a.x)), Seg.s (SV.int IntKind.i64 (drV { radius := t.radius, gx := t.gx, gy := t.gy, drag := t.drag, shift := t.shift, zones := rowL codZ t.zones.length fun i => codZ.enc (t.zones.getD i codZ.dft) : Tb }
    n_1 a.y))] [Seg.s (SV.int IntKind.i64 a.x), Seg.s (SV.int IntKind.i64 a.y)]) = true → True ∧ True ∧ True ∧ ((True ∧ True) ∧ True) ∧ (outB (drV { radius := t.radius, gx := t.gx, gy := t.gy, drag := t.drag, shift := t.shift, zones := rowL codZ t.zones.length fun i => codZ.enc (t.zones.getD i codZ.dft) : Tb }
    n_1 a.x) a.x = true → True ∧ True ∧ True ∧ true = false ∧ True) ∧ (outB (drV { radius := t.radius, gx := t.gx, gy := t.gy, drag := t.drag, shift := t.shift, zones := rowL codZ t.zones.length fun i => codZ.enc (t.zones.getD i codZ.dft) : Tb }
    n_1 a.x) a.x = false → True ∧ True ∧ ((True ∧ True) ∧ True) ∧ True ∧ (outB (drV { radius := t.radius, gx := t.gx, gy := t.gy, drag := t.drag, shift := t.shift, zones := rowL codZ t.zones.length fun i => codZ.enc (t.zones.getD i codZ.dft) : Tb }
    n_1 a.y) a.y = true → True ∧ True ∧ true = false ∧ True) ∧ (outB (drV { radius := t.radius, gx := t.gx, gy := t.gy, drag := t.drag, shift := t.shift, zones := rowL codZ t.zones.length fun i => codZ.enc (t.zones.getD i codZ.dft) : Tb }
    n_1 a.y) a.y = false → True ∧ True ∧ J4 t ({ x := drV { radius := t.radius, gx := t.gx, gy := t.gy, drag := t.drag, shift := t.shift, zones := rowL codZ t.zones.length fun i => codZ.enc (t.zones.getD i codZ.dft) : Tb } n_1 a.x, y := drV { radius := t.radius, gx := t.gx, gy := t.gy, drag := t.drag, shift := t.shift, zones := rowL codZ t.zones.length fun i => codZ.enc (t.zones.getD i codZ.dft) : Tb } n_1 a.y : Vc },
    W (n + (1 : Int)), W (n_1 + (1 : Int))) ∧ ((2 : Int) * t.drag - W (n_1 + (1 : Int))).toNat < ((2 : Int) * t.drag - n_1).toNat ∧ ((t.radius = t.radius ∧ True ∧ True
    ∧ t.gx = t.gx ∧ t.gy = t.gy ∧ t.drag = t.drag ∧ t.shift = t.shift ∧ True ∧ True ∧ True ∧ True ∧ True ∧ (sm (t.zones.length) ∧ ∀ (i : Nat), i < t.zones.length → sm
    ((t.zones.getD i codZ.dft).name) ∧ sm ((t.zones.getD i codZ.dft).level) ∧ sm ((t.zones.getD i codZ.dft).lox) ∧ sm ((t.zones.getD i codZ.dft).loy) ∧ sm ((t.zones.getD
    i codZ.dft).hix) ∧ sm ((t.zones.getD i codZ.dft).hiy) ∧ sm ((t.zones.getD i codZ.dft).hx) ∧ sm ((t.zones.getD i codZ.dft).hy) ∧ sm ((t.zones.getD i codZ.dft).coil)
    ∧ True) ∧ True ∧ True ∧ True ∧ True ∧ True ∧ True) ∧ (x = x ∧ y = y ∧ True) ∧ k = k ∧ True ∧ True ∧ True ∧ True ∧ True ∧ sm (W (n + (1 : Int))) ∧ sm (W (n_1 + (1
    : Int))) ∧ True ∧ True ∧ true = true ∧ True ∧ (x = x ∧ y = y ∧ True) ∧ smB x y = smB x y ∧ (!smB x y) = !smB x y ∧ True ∧ True ∧ t.drag = t.drag ∧ sm (decide (t.drag
    < (1 : Int))) ∧ sm (decide (t.drag < (1 : Int))) ∧ True ∧ True ∧ t.drag = t.drag ∧ sm (decide (t.drag > (50 : Int))) ∧ True ∧ True ∧ (x = x ∧ y = y ∧ True) ∧ True
    ∧ True ∧ True ∧ True ∧ True ∧ True ∧ True ∧ True ∧ True ∧ True ∧ True ∧ True ∧ True ∧ True ∧ True ∧ True ∧ True ∧ True ∧ True ∧ True ∧ True ∧ True ∧ True ∧ True
    ∧ True ∧ True ∧ True ∧ True ∧ True ∧ True ∧ True ∧ True ∧ True ∧ True ∧ True ∧ True ∧ True ∧ True ∧ True ∧ True ∧ True ∧ True ∧ True ∧ True ∧ True ∧ True ∧ True
    ∧ True ∧ True ∧ True ∧ True ∧ True ∧ True ∧ True ∧ True ∧ True ∧ True ∧ True) ∧ ((if false = true then [] else List.map Seg.shape [Seg.s (SV.int IntKind.i64 t.radius),
    Seg.s SV.opq, Seg.s SV.opq, Seg.s (SV.int IntKind.i64 t.gx), Seg.s (SV.int IntKind.i64 t.gy), Seg.s (SV.int IntKind.i64 t.drag), Seg.s (SV.int IntKind.i64 t.shift),
    Seg.s SV.opq, Seg.s SV.opq, Seg.s SV.opq, Seg.s SV.opq, Seg.s SV.opq, Seg.s (SV.ros ((0 : Nat) + (1 : Nat) + (1 : Nat) + (1 : Nat) + (1 : Nat) + (1 : Nat) + (1 :
    Nat) + (1 : Nat) + (1 : Nat) + (1 : Nat)) t.zones.length fun i => codZ.enc (t.zones.getD i codZ.dft)), Seg.s SV.opq, Seg.s SV.opq, Seg.s SV.opq, Seg.s SV.opq, Seg.s
    SV.opq]) = if false = true then [] else List.map Seg.shape [Seg.s (SV.int IntKind.i64 t.radius), Seg.s SV.opq, Seg.s SV.opq, Seg.s (SV.int IntKind.i64 t.gx), Seg.s
    (SV.int IntKind.i64 t.gy), Seg.s (SV.int IntKind.i64 t.drag), Seg.s (SV.int IntKind.i64 t.shift), Seg.s SV.opq, Seg.s SV.opq, Seg.s SV.opq, Seg.s SV.opq, Seg.s SV.opq,
    Seg.s (SV.ros ((0 : Nat) + (1 : Nat) + (1 : Nat) + (1 : Nat) + (1 : Nat) + (1 : Nat) + (1 : Nat) + (1 : Nat) + (1 : Nat) + (1 : Nat)) t.zones.length fun i => codZ.enc
    (t.zones.getD i codZ.dft)), Seg.s SV.opq, Seg.s SV.opq, Seg.s SV.opq, Seg.s SV.opq, Seg.s SV.opq]) ∧ (t.radius = t.radius ∧ True ∧ True ∧ t.gx = t.gx ∧ t.gy = t.gy
    ∧ t.drag = t.drag ∧ t.shift = t.shift ∧ True ∧ True ∧ True ∧ True ∧ True ∧ (sm (t.zones.length) ∧ ∀ (i : Nat), i < t.zones.length → sm ((t.zones.getD i codZ.dft).name)
    ∧ sm ((t.zones.getD i codZ.dft).level) ∧ sm ((t.zones.getD i codZ.dft).lox) ∧ sm ((t.zones.getD i codZ.dft).loy) ∧ sm ((t.zones.getD i codZ.dft).hix) ∧ sm ((t.zones.getD
    i codZ.dft).hiy) ∧ sm ((t.zones.getD i codZ.dft).hx) ∧ sm ((t.zones.getD i codZ.dft).hy) ∧ sm ((t.zones.getD i codZ.dft).coil) ∧ True) ∧ True ∧ True ∧ True ∧ True
    ∧ True ∧ True) ∧ ((if false = true then [] else List.map Seg.shape [Seg.s (SV.int IntKind.i64 x), Seg.s (SV.int IntKind.i64 y)]) = if false = true then [] else List.map
    Seg.shape [Seg.s (SV.int IntKind.i64 x), Seg.s (SV.int IntKind.i64 y)]) ∧ (x = x ∧ y = y ∧ True) ∧ ((if false = true then [] else List.map Seg.shape ([Seg.s (SV.int
    IntKind.i64 (0 : Int))] ++ ([Seg.s (SV.int IntKind.i64 (0 : Int))] ++ []))) = if false = true then [] else List.map Seg.shape ([Seg.s (SV.int IntKind.i64 (0 : Int))]
    ++ ([Seg.s (SV.int IntKind.i64 (0 : Int))] ++ []))) ∧ (sm (drV { radius := t.radius, gx := t.gx, gy := t.gy, drag := t.drag, shift := t.shift, zones := rowL codZ t.zones.length fun i => codZ.enc (t.zones.getD i codZ.dft) : Tb }
    n_1 a.x) ∧ sm (drV { radius := t.radius, gx := t.gx, gy := t.gy, drag := t.drag, shift := t.shift, zones := rowL codZ t.zones.length fun i => codZ.enc (t.zones.getD i codZ.dft) : Tb }
    n_1 a.y) ∧ True) ∧ True))) ∧ ((!eqSegs [Seg.s (SV.int IntKind.i64 (drV { radius := t.radius, gx := t.gx, gy := t.gy, drag := t.drag, shift := t.shift, zones := rowL codZ t.zones.length fun i => codZ.enc (t.zones.getD i codZ.dft) : Tb }
    n_1 a.x)), Seg.s (SV.int IntKind.i64 (drV { radius := t.radius, gx := t.gx, gy := t.gy, drag := t.drag, shift := t.shift, zones := rowL codZ t.zones.length fun i => codZ.enc (t.zones.getD i codZ.dft) : Tb }
    n_1 a.y))] [Seg.s (SV.int IntKind.i64 a.x), Seg.s (SV.int IntKind.i64 a.y)]) = false → True ∧ True ∧ ((True ∧ True) ∧ True) ∧ (outB (drV { radius := t.radius, gx := t.gx, gy := t.gy, drag := t.drag, shift := t.shift, zones := rowL codZ t.zones.length fun i => codZ.enc (t.zones.getD i codZ.dft) : Tb }
    n_1 a.x) a.x = true → True ∧ True ∧ True ∧ true = false ∧ True) ∧ (outB (drV { radius := t.radius, gx := t.gx, gy := t.gy, drag := t.drag, shift := t.shift, zones := rowL codZ t.zones.length fun i => codZ.enc (t.zones.getD i codZ.dft) : Tb }
    n_1 a.x) a.x = false → True ∧ True ∧ ((True ∧ True) ∧ True) ∧ True ∧ (outB (drV { radius := t.radius, gx := t.gx, gy := t.gy, drag := t.drag, shift := t.shift, zones := rowL codZ t.zones.length fun i => codZ.enc (t.zones.getD i codZ.dft) : Tb }
    n_1 a.y) a.y = true → True ∧ True ∧ true = false ∧ True) ∧ (outB (drV { radius := t.radius, gx := t.gx, gy := t.gy, drag := t.drag, shift := t.shift, zones := rowL codZ t.zones.length fun i => codZ.enc (t.zones.getD i codZ.dft) : Tb }
    n_1 a.y) a.y = false → True ∧ True ∧ J4 t ({ x := drV { radius := t.radius, gx := t.gx, gy := t.gy, drag := t.drag, shift := t.shift, zones := rowL codZ t.zones.length fun i => codZ.enc (t.zones.getD i codZ.dft) : Tb } n_1 a.x, y := drV { radius := t.radius, gx := t.gx, gy := t.gy, drag := t.drag, shift := t.shift, zones := rowL codZ t.zones.length fun i => codZ.enc (t.zones.getD i codZ.dft) : Tb } n_1 a.y : Vc },
    n, W (n_1 + (1 : Int))) ∧ ((2 : Int) * t.drag - W (n_1 + (1 : Int))).toNat < ((2 : Int) * t.drag - n_1).toNat ∧ ((t.radius = t.radius ∧ True ∧ True ∧ t.gx = t.gx
    ∧ t.gy = t.gy ∧ t.drag = t.drag ∧ t.shift = t.shift ∧ True ∧ True ∧ True ∧ True ∧ True ∧ (sm (t.zones.length) ∧ ∀ (i : Nat), i < t.zones.length → sm ((t.zones.getD
    i codZ.dft).name) ∧ sm ((t.zones.getD i codZ.dft).level) ∧ sm ((t.zones.getD i codZ.dft).lox) ∧ sm ((t.zones.getD i codZ.dft).loy) ∧ sm ((t.zones.getD i codZ.dft).hix)
    ∧ sm ((t.zones.getD i codZ.dft).hiy) ∧ sm ((t.zones.getD i codZ.dft).hx) ∧ sm ((t.zones.getD i codZ.dft).hy) ∧ sm ((t.zones.getD i codZ.dft).coil) ∧ True) ∧ True
    ∧ True ∧ True ∧ True ∧ True ∧ True) ∧ (x = x ∧ y = y ∧ True) ∧ k = k ∧ True ∧ True ∧ True ∧ True ∧ True ∧ n = n ∧ sm (W (n_1 + (1 : Int))) ∧ True ∧ True ∧ true =
    true ∧ True ∧ (x = x ∧ y = y ∧ True) ∧ smB x y = smB x y ∧ (!smB x y) = !smB x y ∧ True ∧ True ∧ t.drag = t.drag ∧ sm (decide (t.drag < (1 : Int))) ∧ sm (decide
    (t.drag < (1 : Int))) ∧ True ∧ True ∧ t.drag = t.drag ∧ sm (decide (t.drag > (50 : Int))) ∧ True ∧ True ∧ (x = x ∧ y = y ∧ True) ∧ True ∧ True ∧ True ∧ True ∧ True
    ∧ True ∧ True ∧ True ∧ True ∧ True ∧ True ∧ True ∧ True ∧ True ∧ True ∧ True ∧ True ∧ True ∧ True ∧ True ∧ True ∧ True ∧ True ∧ True ∧ True ∧ True ∧ True ∧ True
    ∧ True ∧ True ∧ True ∧ True ∧ True ∧ True ∧ True ∧ True ∧ True ∧ True ∧ True ∧ True ∧ True ∧ True ∧ True ∧ True ∧ True ∧ True ∧ True ∧ True ∧ True ∧ True ∧ True
    ∧ True ∧ True ∧ True ∧ True ∧ True ∧ True ∧ True) ∧ ((if false = true then [] else List.map Seg.shape [Seg.s (SV.int IntKind.i64 t.radius), Seg.s SV.opq, Seg.s SV.opq,
    Seg.s (SV.int IntKind.i64 t.gx), Seg.s (SV.int IntKind.i64 t.gy), Seg.s (SV.int IntKind.i64 t.drag), Seg.s (SV.int IntKind.i64 t.shift), Seg.s SV.opq, Seg.s SV.opq,
    Seg.s SV.opq, Seg.s SV.opq, Seg.s SV.opq, Seg.s (SV.ros ((0 : Nat) + (1 : Nat) + (1 : Nat) + (1 : Nat) + (1 : Nat) + (1 : Nat) + (1 : Nat) + (1 : Nat) + (1 : Nat)
    + (1 : Nat)) t.zones.length fun i => codZ.enc (t.zones.getD i codZ.dft)), Seg.s SV.opq, Seg.s SV.opq, Seg.s SV.opq, Seg.s SV.opq, Seg.s SV.opq]) = if false = true
    then [] else List.map Seg.shape [Seg.s (SV.int IntKind.i64 t.radius), Seg.s SV.opq, Seg.s SV.opq, Seg.s (SV.int IntKind.i64 t.gx), Seg.s (SV.int IntKind.i64 t.gy),
    Seg.s (SV.int IntKind.i64 t.drag), Seg.s (SV.int IntKind.i64 t.shift), Seg.s SV.opq, Seg.s SV.opq, Seg.s SV.opq, Seg.s SV.opq, Seg.s SV.opq, Seg.s (SV.ros ((0 :
    Nat) + (1 : Nat) + (1 : Nat) + (1 : Nat) + (1 : Nat) + (1 : Nat) + (1 : Nat) + (1 : Nat) + (1 : Nat) + (1 : Nat)) t.zones.length fun i => codZ.enc (t.zones.getD
    i codZ.dft)), Seg.s SV.opq, Seg.s SV.opq, Seg.s SV.opq, Seg.s SV.opq, Seg.s SV.opq]) ∧ (t.radius = t.radius ∧ True ∧ True ∧ t.gx = t.gx ∧ t.gy = t.gy ∧ t.drag =
    t.drag ∧ t.shift = t.shift ∧ True ∧ True ∧ True ∧ True ∧ True ∧ (sm (t.zones.length) ∧ ∀ (i : Nat), i < t.zones.length → sm ((t.zones.getD i codZ.dft).name) ∧ sm
    ((t.zones.getD i codZ.dft).level) ∧ sm ((t.zones.getD i codZ.dft).lox) ∧ sm ((t.zones.getD i codZ.dft).loy) ∧ sm ((t.zones.getD i codZ.dft).hix) ∧ sm ((t.zones.getD
    i codZ.dft).hiy) ∧ sm ((t.zones.getD i codZ.dft).hx) ∧ sm ((t.zones.getD i codZ.dft).hy) ∧ sm ((t.zones.getD i codZ.dft).coil) ∧ True) ∧ True ∧ True ∧ True ∧ True
    ∧ True ∧ True) ∧ ((if false = true then [] else List.map Seg.shape [Seg.s (SV.int IntKind.i64 x), Seg.s (SV.int IntKind.i64 y)]) = if false = true then [] else List.map
    Seg.shape [Seg.s (SV.int IntKind.i64 x), Seg.s (SV.int IntKind.i64 y)]) ∧ (x = x ∧ y = y ∧ True) ∧ ((if false = true then [] else List.map Seg.shape ([Seg.s (SV.int
    IntKind.i64 (0 : Int))] ++ ([Seg.s (SV.int IntKind.i64 (0 : Int))] ++ []))) = if false = true then [] else List.map Seg.shape ([Seg.s (SV.int IntKind.i64 (0 : Int))]
    ++ ([Seg.s (SV.int IntKind.i64 (0 : Int))] ++ []))) ∧ (sm (drV { radius := t.radius, gx := t.gx, gy := t.gy, drag := t.drag, shift := t.shift, zones := rowL codZ t.zones.length fun i => codZ.enc (t.zones.getD i codZ.dft) : Tb }
    n_1 a.x) ∧ sm (drV { radius := t.radius, gx := t.gx, gy := t.gy, drag := t.drag, shift := t.shift, zones := rowL codZ t.zones.length fun i => codZ.enc (t.zones.getD i codZ.dft) : Tb }
    n_1 a.y) ∧ True) ∧ True)))) ∧ (decide (n_1 < W ((2 : Int) * t.drag)) = false → True ∧ True ∧ ((((true = true ∧ true = true ∧ true = true ∧ true = true ∧ true = true
    ∧ true = true ∧ true = true ∧ true = true ∧ true = true ∧ true = true ∧ true = true ∧ true = true) ∧ ∀ (i : Nat), i < t.zones.length → true = true ∧ True) ∧ True)
    ∧ True) ∧ True ∧ (decide (n ≤ (2 : Int)) = true → True ∧ True ∧ ((((true = true ∧ true = true ∧ true = true ∧ true = true ∧ true = true ∧ true = true ∧ true = true
    ∧ true = true ∧ true = true ∧ true = true ∧ true = true ∧ true = true) ∧ ∀ (i : Nat), i < t.zones.length → true = true ∧ True) ∧ True) ∧ True) ∧ (True ∧ True) ∧
    (eqSegs [Seg.s (SV.int IntKind.i64 (limI (limI x (limT t.radius)) (limT t.radius))), Seg.s (SV.int IntKind.i64 (limI (limI y (limT t.radius)) (limT t.radius)))]
    [Seg.s (SV.int IntKind.i64 (limI x (limT t.radius))), Seg.s (SV.int IntKind.i64 (limI y (limT t.radius)))] = true → True ∧ True ∧ ((True ∧ True) ∧ True) ∧ ((!outB
    (limI x (limT t.radius)) x) = true → True ∧ True ∧ ((True ∧ True) ∧ True) ∧ IsT true ∧ True ∧ (!outB (limI y (limT t.radius)) y) = true ∧ True) ∧ ((!outB (limI x
    (limT t.radius)) x) = false → IsT true ∧ True ∧ true = false ∧ True)) ∧ (eqSegs [Seg.s (SV.int IntKind.i64 (limI (limI x (limT t.radius)) (limT t.radius))), Seg.s
    (SV.int IntKind.i64 (limI (limI y (limT t.radius)) (limT t.radius)))] [Seg.s (SV.int IntKind.i64 (limI x (limT t.radius))), Seg.s (SV.int IntKind.i64 (limI y (limT
    t.radius)))] = false → IsT true ∧ True ∧ true = false ∧ True)) ∧ (decide (n ≤ (2 : Int)) = false → IsT true ∧ True ∧ true = false ∧ True))))))) = vc4 t x y k := by kernel_rfl
theorem vc5_eq (t : Tb) (x y c : Int) : (True ∧ (True ∧ True) ∧ True ∧ (false = true → True ∧ True ∧ true = false ∧ True) ∧ (false = false → True ∧ (((true = true ∧ true = true ∧ true = true ∧ true = true
    ∧ true = true ∧ true = true ∧ true = true ∧ true = true ∧ true = true ∧ true = true ∧ true = true ∧ true = true) ∧ ∀ (i : Nat), i < t.zones.length → true = true
    ∧ True) ∧ (rowL codZ t.zones.length fun i => codZ.enc (t.zones.getD i codZ.dft)).length ≤ (9223372036854775807 : Nat)) ∧ True ∧ ((!fewB { radius := t.radius, gx := t.gx, gy := t.gy, drag := t.drag, shift := t.shift, zones := rowL codZ t.zones.length fun i => codZ.enc (t.zones.getD i codZ.dft) : Tb })
    = true → (True ∧ True) ∧ True ∧ True ∧ true = true ∧ True) ∧ ((!fewB { radius := t.radius, gx := t.gx, gy := t.gy, drag := t.drag, shift := t.shift, zones := rowL codZ t.zones.length fun i => codZ.enc (t.zones.getD i codZ.dft) : Tb })
    = false → True ∧ (((-1 : Int) ≤ (-1 : Int) ∧ (-1 : Int) ≤ (5 : Int)) ∧ ((t.radius = t.radius ∧ True ∧ True ∧ t.gx = t.gx ∧ t.gy = t.gy ∧ t.drag = t.drag ∧ t.shift
    = t.shift ∧ True ∧ True ∧ True ∧ True ∧ True ∧ (sm (t.zones.length) ∧ ∀ (i : Nat), i < t.zones.length → sm ((t.zones.getD i codZ.dft).name) ∧ sm ((t.zones.getD i
    codZ.dft).level) ∧ sm ((t.zones.getD i codZ.dft).lox) ∧ sm ((t.zones.getD i codZ.dft).loy) ∧ sm ((t.zones.getD i codZ.dft).hix) ∧ sm ((t.zones.getD i codZ.dft).hiy)
    ∧ sm ((t.zones.getD i codZ.dft).hx) ∧ sm ((t.zones.getD i codZ.dft).hy) ∧ sm ((t.zones.getD i codZ.dft).coil) ∧ True) ∧ True ∧ True ∧ True ∧ True ∧ True ∧ True)
    ∧ (x = x ∧ y = y ∧ True) ∧ c = c ∧ True ∧ True ∧ True ∧ True ∧ sm ((-1 : Int)) ∧ True ∧ True ∧ True ∧ true = true ∧ True ∧ (t.radius = t.radius ∧ True ∧ True ∧ t.gx
    = t.gx ∧ t.gy = t.gy ∧ t.drag = t.drag ∧ t.shift = t.shift ∧ True ∧ True ∧ True ∧ True ∧ True ∧ (sm (t.zones.length) ∧ ∀ (i : Nat), i < t.zones.length → sm ((t.zones.getD
    i codZ.dft).name) ∧ sm ((t.zones.getD i codZ.dft).level) ∧ sm ((t.zones.getD i codZ.dft).lox) ∧ sm ((t.zones.getD i codZ.dft).loy) ∧ sm ((t.zones.getD i codZ.dft).hix)
    ∧ sm ((t.zones.getD i codZ.dft).hiy) ∧ sm ((t.zones.getD i codZ.dft).hx) ∧ sm ((t.zones.getD i codZ.dft).hy) ∧ sm ((t.zones.getD i codZ.dft).coil) ∧ True) ∧ True
    ∧ True ∧ True ∧ True ∧ True ∧ True) ∧ sm (fewB { radius := t.radius, gx := t.gx, gy := t.gy, drag := t.drag, shift := t.shift, zones := rowL codZ t.zones.length fun i => codZ.enc (t.zones.getD i codZ.dft) : Tb })
    ∧ True ∧ True ∧ True ∧ True ∧ True ∧ True ∧ True ∧ True ∧ True ∧ True ∧ True ∧ True ∧ True ∧ True ∧ True ∧ True ∧ True ∧ True ∧ True ∧ True ∧ True ∧ True ∧ True
    ∧ True ∧ True ∧ True ∧ True ∧ True ∧ True ∧ True ∧ True ∧ True ∧ True ∧ True ∧ True ∧ True ∧ True ∧ True ∧ True ∧ True ∧ True ∧ True ∧ True ∧ True ∧ True ∧ True
    ∧ True ∧ True ∧ True ∧ True) ∧ ((if false = true then [] else List.map Seg.shape [Seg.s (SV.int IntKind.i64 t.radius), Seg.s SV.opq, Seg.s SV.opq, Seg.s (SV.int
    IntKind.i64 t.gx), Seg.s (SV.int IntKind.i64 t.gy), Seg.s (SV.int IntKind.i64 t.drag), Seg.s (SV.int IntKind.i64 t.shift), Seg.s SV.opq, Seg.s SV.opq, Seg.s SV.opq,
    Seg.s SV.opq, Seg.s SV.opq, Seg.s (SV.ros ((0 : Nat) + (1 : Nat) + (1 : Nat) + (1 : Nat) + (1 : Nat) + (1 : Nat) + (1 : Nat) + (1 : Nat) + (1 : Nat) + (1 : Nat))
    t.zones.length fun i => codZ.enc (t.zones.getD i codZ.dft)), Seg.s SV.opq, Seg.s SV.opq, Seg.s SV.opq, Seg.s SV.opq, Seg.s SV.opq]) = if false = true then [] else
    List.map Seg.shape [Seg.s (SV.int IntKind.i64 t.radius), Seg.s SV.opq, Seg.s SV.opq, Seg.s (SV.int IntKind.i64 t.gx), Seg.s (SV.int IntKind.i64 t.gy), Seg.s (SV.int
    IntKind.i64 t.drag), Seg.s (SV.int IntKind.i64 t.shift), Seg.s SV.opq, Seg.s SV.opq, Seg.s SV.opq, Seg.s SV.opq, Seg.s SV.opq, Seg.s (SV.ros ((0 : Nat) + (1 : Nat)
    + (1 : Nat) + (1 : Nat) + (1 : Nat) + (1 : Nat) + (1 : Nat) + (1 : Nat) + (1 : Nat) + (1 : Nat)) t.zones.length fun i => codZ.enc (t.zones.getD i codZ.dft)), Seg.s
    SV.opq, Seg.s SV.opq, Seg.s SV.opq, Seg.s SV.opq, Seg.s SV.opq]) ∧ (t.radius = t.radius ∧ True ∧ True ∧ t.gx = t.gx ∧ t.gy = t.gy ∧ t.drag = t.drag ∧ t.shift = t.shift
    ∧ True ∧ True ∧ True ∧ True ∧ True ∧ (sm (t.zones.length) ∧ ∀ (i : Nat), i < t.zones.length → sm ((t.zones.getD i codZ.dft).name) ∧ sm ((t.zones.getD i codZ.dft).level)
    ∧ sm ((t.zones.getD i codZ.dft).lox) ∧ sm ((t.zones.getD i codZ.dft).loy) ∧ sm ((t.zones.getD i codZ.dft).hix) ∧ sm ((t.zones.getD i codZ.dft).hiy) ∧ sm ((t.zones.getD
    i codZ.dft).hx) ∧ sm ((t.zones.getD i codZ.dft).hy) ∧ sm ((t.zones.getD i codZ.dft).coil) ∧ True) ∧ True ∧ True ∧ True ∧ True ∧ True ∧ True) ∧ ((if false = true
    then [] else List.map Seg.shape [Seg.s (SV.int IntKind.i64 x), Seg.s (SV.int IntKind.i64 y)]) = if false = true then [] else List.map Seg.shape [Seg.s (SV.int IntKind.i64
    x), Seg.s (SV.int IntKind.i64 y)]) ∧ (x = x ∧ y = y ∧ True) ∧ True) ∧ ∀ (n : Int), (-1 : Int) ≤ n ∧ n ≤ (5 : Int) → True ∧ (decide (n ≤ (4 : Int)) = true → True
    ∧ True ∧ True ∧ True ∧ ((((true = true ∧ true = true ∧ true = true ∧ true = true ∧ true = true ∧ true = true ∧ true = true ∧ true = true ∧ true = true ∧ true = true
    ∧ true = true ∧ true = true) ∧ ∀ (i : Nat), i < t.zones.length → true = true ∧ True) ∧ True ∧ True ∧ True) ∧ (rowL codZ t.zones.length fun i => codZ.enc (t.zones.getD
    i codZ.dft)).length ≤ (1000 : Nat)) ∧ True ∧ True ∧ True ∧ True ∧ ((((true = true ∧ true = true ∧ true = true ∧ true = true ∧ true = true ∧ true = true ∧ true =
    true ∧ true = true ∧ true = true ∧ true = true ∧ true = true ∧ true = true) ∧ ∀ (i : Nat), i < t.zones.length → true = true ∧ True) ∧ True ∧ True ∧ True) ∧ (rowL
    codZ t.zones.length fun i => codZ.enc (t.zones.getD i codZ.dft)).length ≤ (1000 : Nat)) ∧ IsT true ∧ (bne (α := Int) ↑(zonL { radius := t.radius, gx := t.gx, gy := t.gy, drag := t.drag, shift := t.shift, zones := rowL codZ t.zones.length fun i => codZ.enc (t.zones.getD i codZ.dft) : Tb }
    c n x y).length ↑(zonL { radius := t.radius, gx := t.gx, gy := t.gy, drag := t.drag, shift := t.shift, zones := rowL codZ t.zones.length fun i => codZ.enc (t.zones.getD i codZ.dft) : Tb }
    c n x y).length = true → IsT true ∧ True ∧ True ∧ true = false ∧ True) ∧ (bne (α := Int) ↑(zonL { radius := t.radius, gx := t.gx, gy := t.gy, drag := t.drag, shift := t.shift, zones := rowL codZ t.zones.length fun i => codZ.enc (t.zones.getD i codZ.dft) : Tb }
    c n x y).length ↑(zonL { radius := t.radius, gx := t.gx, gy := t.gy, drag := t.drag, shift := t.shift, zones := rowL codZ t.zones.length fun i => codZ.enc (t.zones.getD i codZ.dft) : Tb }
    c n x y).length = false → True ∧ True ∧ True ∧ True ∧ ((((true = true ∧ true = true ∧ true = true ∧ true = true ∧ true = true ∧ true = true ∧ true = true ∧ true
    = true ∧ true = true ∧ true = true ∧ true = true ∧ true = true) ∧ ∀ (i : Nat), i < t.zones.length → true = true ∧ True) ∧ True ∧ True ∧ True) ∧ (rowL codZ t.zones.length
    fun i => codZ.enc (t.zones.getD i codZ.dft)).length ≤ (1000 : Nat)) ∧ True ∧ True ∧ True ∧ True ∧ ((((true = true ∧ true = true ∧ true = true ∧ true = true ∧ true
    = true ∧ true = true ∧ true = true ∧ true = true ∧ true = true ∧ true = true ∧ true = true ∧ true = true) ∧ ∀ (i : Nat), i < t.zones.length → true = true ∧ True)
    ∧ True ∧ True ∧ True) ∧ (rowL codZ t.zones.length fun i => codZ.enc (t.zones.getD i codZ.dft)).length ≤ (1000 : Nat)) ∧ (True ∧ True) ∧ IsT true ∧ ((!eqSegs [Seg.s
    (SV.int IntKind.i64 (halX { radius := t.radius, gx := t.gx, gy := t.gy, drag := t.drag, shift := t.shift, zones := rowL codZ t.zones.length fun i => codZ.enc (t.zones.getD i codZ.dft) : Tb }
    c n x y)), Seg.s (SV.int IntKind.i64 (halY { radius := t.radius, gx := t.gx, gy := t.gy, drag := t.drag, shift := t.shift, zones := rowL codZ t.zones.length fun i => codZ.enc (t.zones.getD i codZ.dft) : Tb }
    c n x y))] [Seg.s (SV.int IntKind.i64 (halX { radius := t.radius, gx := t.gx, gy := t.gy, drag := t.drag, shift := t.shift, zones := rowL codZ t.zones.length fun i => codZ.enc (t.zones.getD i codZ.dft) : Tb }
    c n x y)), Seg.s (SV.int IntKind.i64 (halY { radius := t.radius, gx := t.gx, gy := t.gy, drag := t.drag, shift := t.shift, zones := rowL codZ t.zones.length fun i => codZ.enc (t.zones.getD i codZ.dft) : Tb }
    c n x y))]) = true → True ∧ True ∧ true = false ∧ True) ∧ ((!eqSegs [Seg.s (SV.int IntKind.i64 (halX { radius := t.radius, gx := t.gx, gy := t.gy, drag := t.drag, shift := t.shift, zones := rowL codZ t.zones.length fun i => codZ.enc (t.zones.getD i codZ.dft) : Tb }
    c n x y)), Seg.s (SV.int IntKind.i64 (halY { radius := t.radius, gx := t.gx, gy := t.gy, drag := t.drag, shift := t.shift, zones := rowL codZ t.zones.length fun i => codZ.enc (t.zones.getD i codZ.dft) : Tb }
    c n x y))] [Seg.s (SV.int IntKind.i64 (halX { radius := t.radius, gx := t.gx, gy := t.gy, drag := t.drag, shift := t.shift, zones := rowL codZ t.zones.length fun i => codZ.enc (t.zones.getD i codZ.dft) : Tb }
    c n x y)), Seg.s (SV.int IntKind.i64 (halY { radius := t.radius, gx := t.gx, gy := t.gy, drag := t.drag, shift := t.shift, zones := rowL codZ t.zones.length fun i => codZ.enc (t.zones.getD i codZ.dft) : Tb }
    c n x y))]) = false → True ∧ (((0 : Int) ≤ (0 : Int) ∧ (0 : Int) ≤ ↑t.zones.length) ∧ ((t.radius = t.radius ∧ True ∧ True ∧ t.gx = t.gx ∧ t.gy = t.gy ∧ t.drag =
    t.drag ∧ t.shift = t.shift ∧ True ∧ True ∧ True ∧ True ∧ True ∧ (sm (t.zones.length) ∧ ∀ (i : Nat), i < t.zones.length → sm ((t.zones.getD i codZ.dft).name) ∧ sm
    ((t.zones.getD i codZ.dft).level) ∧ sm ((t.zones.getD i codZ.dft).lox) ∧ sm ((t.zones.getD i codZ.dft).loy) ∧ sm ((t.zones.getD i codZ.dft).hix) ∧ sm ((t.zones.getD
    i codZ.dft).hiy) ∧ sm ((t.zones.getD i codZ.dft).hx) ∧ sm ((t.zones.getD i codZ.dft).hy) ∧ sm ((t.zones.getD i codZ.dft).coil) ∧ True) ∧ True ∧ True ∧ True ∧ True
    ∧ True ∧ True) ∧ (x = x ∧ y = y ∧ True) ∧ c = c ∧ True ∧ True ∧ True ∧ True ∧ n = n ∧ (sm ((zonL { radius := t.radius, gx := t.gx, gy := t.gy, drag := t.drag, shift := t.shift, zones := rowL codZ t.zones.length fun i => codZ.enc (t.zones.getD i codZ.dft) : Tb }
    c n x y).length) ∧ ∀ (i : Nat), i < (zonL { radius := t.radius, gx := t.gx, gy := t.gy, drag := t.drag, shift := t.shift, zones := rowL codZ t.zones.length fun i => codZ.enc (t.zones.getD i codZ.dft) : Tb }
    c n x y).length → sm ((zonL { radius := t.radius, gx := t.gx, gy := t.gy, drag := t.drag, shift := t.shift, zones := rowL codZ t.zones.length fun i => codZ.enc (t.zones.getD i codZ.dft) : Tb }
    c n x y).getD i (codI IntKind.i64).dft) ∧ True) ∧ (sm ((zonL { radius := t.radius, gx := t.gx, gy := t.gy, drag := t.drag, shift := t.shift, zones := rowL codZ t.zones.length fun i => codZ.enc (t.zones.getD i codZ.dft) : Tb }
    c n x y).length) ∧ ∀ (i : Nat), i < (zonL { radius := t.radius, gx := t.gx, gy := t.gy, drag := t.drag, shift := t.shift, zones := rowL codZ t.zones.length fun i => codZ.enc (t.zones.getD i codZ.dft) : Tb }
    c n x y).length → sm ((zonL { radius := t.radius, gx := t.gx, gy := t.gy, drag := t.drag, shift := t.shift, zones := rowL codZ t.zones.length fun i => codZ.enc (t.zones.getD i codZ.dft) : Tb }
    c n x y).getD i (codI IntKind.i64).dft) ∧ True) ∧ sm ((0 : Int)) ∧ true = true ∧ True ∧ (t.radius = t.radius ∧ True ∧ True ∧ t.gx = t.gx ∧ t.gy = t.gy ∧ t.drag =
    t.drag ∧ t.shift = t.shift ∧ True ∧ True ∧ True ∧ True ∧ True ∧ (sm (t.zones.length) ∧ ∀ (i : Nat), i < t.zones.length → sm ((t.zones.getD i codZ.dft).name) ∧ sm
    ((t.zones.getD i codZ.dft).level) ∧ sm ((t.zones.getD i codZ.dft).lox) ∧ sm ((t.zones.getD i codZ.dft).loy) ∧ sm ((t.zones.getD i codZ.dft).hix) ∧ sm ((t.zones.getD
    i codZ.dft).hiy) ∧ sm ((t.zones.getD i codZ.dft).hx) ∧ sm ((t.zones.getD i codZ.dft).hy) ∧ sm ((t.zones.getD i codZ.dft).coil) ∧ True) ∧ True ∧ True ∧ True ∧ True
    ∧ True ∧ True) ∧ sm (fewB { radius := t.radius, gx := t.gx, gy := t.gy, drag := t.drag, shift := t.shift, zones := rowL codZ t.zones.length fun i => codZ.enc (t.zones.getD i codZ.dft) : Tb })
    ∧ True ∧ True ∧ n = n ∧ True ∧ True ∧ True ∧ (t.radius = t.radius ∧ True ∧ True ∧ t.gx = t.gx ∧ t.gy = t.gy ∧ t.drag = t.drag ∧ t.shift = t.shift ∧ True ∧ True ∧
    True ∧ True ∧ True ∧ (sm (t.zones.length) ∧ ∀ (i : Nat), i < t.zones.length → sm ((t.zones.getD i codZ.dft).name) ∧ sm ((t.zones.getD i codZ.dft).level) ∧ sm ((t.zones.getD
    i codZ.dft).lox) ∧ sm ((t.zones.getD i codZ.dft).loy) ∧ sm ((t.zones.getD i codZ.dft).hix) ∧ sm ((t.zones.getD i codZ.dft).hiy) ∧ sm ((t.zones.getD i codZ.dft).hx)
    ∧ sm ((t.zones.getD i codZ.dft).hy) ∧ sm ((t.zones.getD i codZ.dft).coil) ∧ True) ∧ True ∧ True ∧ True ∧ True ∧ True ∧ True) ∧ c = c ∧ n = n ∧ (x = x ∧ y = y ∧ True)
    ∧ (sm ((zonL { radius := t.radius, gx := t.gx, gy := t.gy, drag := t.drag, shift := t.shift, zones := rowL codZ t.zones.length fun i => codZ.enc (t.zones.getD i codZ.dft) : Tb }
    c n x y).length) ∧ ∀ (i : Nat), i < (zonL { radius := t.radius, gx := t.gx, gy := t.gy, drag := t.drag, shift := t.shift, zones := rowL codZ t.zones.length fun i => codZ.enc (t.zones.getD i codZ.dft) : Tb }
    c n x y).length → sm ((zonL { radius := t.radius, gx := t.gx, gy := t.gy, drag := t.drag, shift := t.shift, zones := rowL codZ t.zones.length fun i => codZ.enc (t.zones.getD i codZ.dft) : Tb }
    c n x y).getD i (codI IntKind.i64).dft) ∧ True) ∧ (t.radius = t.radius ∧ True ∧ True ∧ t.gx = t.gx ∧ t.gy = t.gy ∧ t.drag = t.drag ∧ t.shift = t.shift ∧ True ∧ True
    ∧ True ∧ True ∧ True ∧ (sm (t.zones.length) ∧ ∀ (i : Nat), i < t.zones.length → sm ((t.zones.getD i codZ.dft).name) ∧ sm ((t.zones.getD i codZ.dft).level) ∧ sm ((t.zones.getD
    i codZ.dft).lox) ∧ sm ((t.zones.getD i codZ.dft).loy) ∧ sm ((t.zones.getD i codZ.dft).hix) ∧ sm ((t.zones.getD i codZ.dft).hiy) ∧ sm ((t.zones.getD i codZ.dft).hx)
    ∧ sm ((t.zones.getD i codZ.dft).hy) ∧ sm ((t.zones.getD i codZ.dft).coil) ∧ True) ∧ True ∧ True ∧ True ∧ True ∧ True ∧ True) ∧ c = c ∧ n = n ∧ (x = x ∧ y = y ∧ True)
    ∧ (sm ((zonL { radius := t.radius, gx := t.gx, gy := t.gy, drag := t.drag, shift := t.shift, zones := rowL codZ t.zones.length fun i => codZ.enc (t.zones.getD i codZ.dft) : Tb }
    c n x y).length) ∧ ∀ (i : Nat), i < (zonL { radius := t.radius, gx := t.gx, gy := t.gy, drag := t.drag, shift := t.shift, zones := rowL codZ t.zones.length fun i => codZ.enc (t.zones.getD i codZ.dft) : Tb }
    c n x y).length → sm ((zonL { radius := t.radius, gx := t.gx, gy := t.gy, drag := t.drag, shift := t.shift, zones := rowL codZ t.zones.length fun i => codZ.enc (t.zones.getD i codZ.dft) : Tb }
    c n x y).getD i (codI IntKind.i64).dft) ∧ True) ∧ (sm ((zonL { radius := t.radius, gx := t.gx, gy := t.gy, drag := t.drag, shift := t.shift, zones := rowL codZ t.zones.length fun i => codZ.enc (t.zones.getD i codZ.dft) : Tb }
    c n x y).length) ∧ ∀ (i : Nat), i < (zonL { radius := t.radius, gx := t.gx, gy := t.gy, drag := t.drag, shift := t.shift, zones := rowL codZ t.zones.length fun i => codZ.enc (t.zones.getD i codZ.dft) : Tb }
    c n x y).length → sm ((zonL { radius := t.radius, gx := t.gx, gy := t.gy, drag := t.drag, shift := t.shift, zones := rowL codZ t.zones.length fun i => codZ.enc (t.zones.getD i codZ.dft) : Tb }
    c n x y).getD i (codI IntKind.i64).dft) ∧ True) ∧ Eq (α := Int) ↑(zonL { radius := t.radius, gx := t.gx, gy := t.gy, drag := t.drag, shift := t.shift, zones := rowL codZ t.zones.length fun i => codZ.enc (t.zones.getD i codZ.dft) : Tb }
    c n x y).length ↑(zonL { radius := t.radius, gx := t.gx, gy := t.gy, drag := t.drag, shift := t.shift, zones := rowL codZ t.zones.length fun i => codZ.enc (t.zones.getD i codZ.dft) : Tb }
    c n x y).length ∧ (sm ((zonL { radius := t.radius, gx := t.gx, gy := t.gy, drag := t.drag, shift := t.shift, zones := rowL codZ t.zones.length fun i => codZ.enc (t.zones.getD i codZ.dft) : Tb }
    c n x y).length) ∧ ∀ (i : Nat), i < (zonL { radius := t.radius, gx := t.gx, gy := t.gy, drag := t.drag, shift := t.shift, zones := rowL codZ t.zones.length fun i => codZ.enc (t.zones.getD i codZ.dft) : Tb }
    c n x y).length → sm ((zonL { radius := t.radius, gx := t.gx, gy := t.gy, drag := t.drag, shift := t.shift, zones := rowL codZ t.zones.length fun i => codZ.enc (t.zones.getD i codZ.dft) : Tb }
    c n x y).getD i (codI IntKind.i64).dft) ∧ True) ∧ Eq (α := Int) ↑(zonL { radius := t.radius, gx := t.gx, gy := t.gy, drag := t.drag, shift := t.shift, zones := rowL codZ t.zones.length fun i => codZ.enc (t.zones.getD i codZ.dft) : Tb }
    c n x y).length ↑(zonL { radius := t.radius, gx := t.gx, gy := t.gy, drag := t.drag, shift := t.shift, zones := rowL codZ t.zones.length fun i => codZ.enc (t.zones.getD i codZ.dft) : Tb }
    c n x y).length ∧ sm (bne (α := Int) ↑(zonL { radius := t.radius, gx := t.gx, gy := t.gy, drag := t.drag, shift := t.shift, zones := rowL codZ t.zones.length fun i => codZ.enc (t.zones.getD i codZ.dft) : Tb }
    c n x y).length ↑(zonL { radius := t.radius, gx := t.gx, gy := t.gy, drag := t.drag, shift := t.shift, zones := rowL codZ t.zones.length fun i => codZ.enc (t.zones.getD i codZ.dft) : Tb }
    c n x y).length) ∧ True ∧ (t.radius = t.radius ∧ True ∧ True ∧ t.gx = t.gx ∧ t.gy = t.gy ∧ t.drag = t.drag ∧ t.shift = t.shift ∧ True ∧ True ∧ True ∧ True ∧ True
    ∧ (sm (t.zones.length) ∧ ∀ (i : Nat), i < t.zones.length → sm ((t.zones.getD i codZ.dft).name) ∧ sm ((t.zones.getD i codZ.dft).level) ∧ sm ((t.zones.getD i codZ.dft).lox)
    ∧ sm ((t.zones.getD i codZ.dft).loy) ∧ sm ((t.zones.getD i codZ.dft).hix) ∧ sm ((t.zones.getD i codZ.dft).hiy) ∧ sm ((t.zones.getD i codZ.dft).hx) ∧ sm ((t.zones.getD
    i codZ.dft).hy) ∧ sm ((t.zones.getD i codZ.dft).coil) ∧ True) ∧ True ∧ True ∧ True ∧ True ∧ True ∧ True) ∧ c = c ∧ n = n ∧ (x = x ∧ y = y ∧ True) ∧ (sm (halX { radius := t.radius, gx := t.gx, gy := t.gy, drag := t.drag, shift := t.shift, zones := rowL codZ t.zones.length fun i => codZ.enc (t.zones.getD i codZ.dft) : Tb }
    c n x y) ∧ sm (halY { radius := t.radius, gx := t.gx, gy := t.gy, drag := t.drag, shift := t.shift, zones := rowL codZ t.zones.length fun i => codZ.enc (t.zones.getD i codZ.dft) : Tb }
    c n x y) ∧ True) ∧ (t.radius = t.radius ∧ True ∧ True ∧ t.gx = t.gx ∧ t.gy = t.gy ∧ t.drag = t.drag ∧ t.shift = t.shift ∧ True ∧ True ∧ True ∧ True ∧ True ∧ (sm
    (t.zones.length) ∧ ∀ (i : Nat), i < t.zones.length → sm ((t.zones.getD i codZ.dft).name) ∧ sm ((t.zones.getD i codZ.dft).level) ∧ sm ((t.zones.getD i codZ.dft).lox)
    ∧ sm ((t.zones.getD i codZ.dft).loy) ∧ sm ((t.zones.getD i codZ.dft).hix) ∧ sm ((t.zones.getD i codZ.dft).hiy) ∧ sm ((t.zones.getD i codZ.dft).hx) ∧ sm ((t.zones.getD
    i codZ.dft).hy) ∧ sm ((t.zones.getD i codZ.dft).coil) ∧ True) ∧ True ∧ True ∧ True ∧ True ∧ True ∧ True) ∧ c = c ∧ n = n ∧ (x = x ∧ y = y ∧ True) ∧ (sm (halX { radius := t.radius, gx := t.gx, gy := t.gy, drag := t.drag, shift := t.shift, zones := rowL codZ t.zones.length fun i => codZ.enc (t.zones.getD i codZ.dft) : Tb }
    c n x y) ∧ sm (halY { radius := t.radius, gx := t.gx, gy := t.gy, drag := t.drag, shift := t.shift, zones := rowL codZ t.zones.length fun i => codZ.enc (t.zones.getD i codZ.dft) : Tb }
    c n x y) ∧ True) ∧ sm (!eqSegs [Seg.s (SV.int IntKind.i64 (halX { radius := t.radius, gx := t.gx, gy := t.gy, drag := t.drag, shift := t.shift, zones := rowL codZ t.zones.length fun i => codZ.enc (t.zones.getD i codZ.dft) : Tb }
    c n x y)), Seg.s (SV.int IntKind.i64 (halY { radius := t.radius, gx := t.gx, gy := t.gy, drag := t.drag, shift := t.shift, zones := rowL codZ t.zones.length fun i => codZ.enc (t.zones.getD i codZ.dft) : Tb }
    c n x y))] [Seg.s (SV.int IntKind.i64 (halX { radius := t.radius, gx := t.gx, gy := t.gy, drag := t.drag, shift := t.shift, zones := rowL codZ t.zones.length fun i => codZ.enc (t.zones.getD i codZ.dft) : Tb }
    c n x y)), Seg.s (SV.int IntKind.i64 (halY { radius := t.radius, gx := t.gx, gy := t.gy, drag := t.drag, shift := t.shift, zones := rowL codZ t.zones.length fun i => codZ.enc (t.zones.getD i codZ.dft) : Tb }
    c n x y))]) ∧ True ∧ True ∧ True ∧ True ∧ True ∧ True ∧ True ∧ True ∧ True ∧ True ∧ True ∧ True ∧ True ∧ True ∧ True ∧ True ∧ True) ∧ ((if false = true then [] else
    List.map Seg.shape [Seg.s (SV.int IntKind.i64 t.radius), Seg.s SV.opq, Seg.s SV.opq, Seg.s (SV.int IntKind.i64 t.gx), Seg.s (SV.int IntKind.i64 t.gy), Seg.s (SV.int
    IntKind.i64 t.drag), Seg.s (SV.int IntKind.i64 t.shift), Seg.s SV.opq, Seg.s SV.opq, Seg.s SV.opq, Seg.s SV.opq, Seg.s SV.opq, Seg.s (SV.ros ((0 : Nat) + (1 : Nat)
    + (1 : Nat) + (1 : Nat) + (1 : Nat) + (1 : Nat) + (1 : Nat) + (1 : Nat) + (1 : Nat) + (1 : Nat)) t.zones.length fun i => codZ.enc (t.zones.getD i codZ.dft)), Seg.s
    SV.opq, Seg.s SV.opq, Seg.s SV.opq, Seg.s SV.opq, Seg.s SV.opq]) = if false = true then [] else List.map Seg.shape [Seg.s (SV.int IntKind.i64 t.radius), Seg.s SV.opq,
    Seg.s SV.opq, Seg.s (SV.int IntKind.i64 t.gx), Seg.s (SV.int IntKind.i64 t.gy), Seg.s (SV.int IntKind.i64 t.drag), Seg.s (SV.int IntKind.i64 t.shift), Seg.s SV.opq,
    Seg.s SV.opq, Seg.s SV.opq, Seg.s SV.opq, Seg.s SV.opq, Seg.s (SV.ros ((0 : Nat) + (1 : Nat) + (1 : Nat) + (1 : Nat) + (1 : Nat) + (1 : Nat) + (1 : Nat) + (1 : Nat)
    + (1 : Nat) + (1 : Nat)) t.zones.length fun i => codZ.enc (t.zones.getD i codZ.dft)), Seg.s SV.opq, Seg.s SV.opq, Seg.s SV.opq, Seg.s SV.opq, Seg.s SV.opq]) ∧ (t.radius
    = t.radius ∧ True ∧ True ∧ t.gx = t.gx ∧ t.gy = t.gy ∧ t.drag = t.drag ∧ t.shift = t.shift ∧ True ∧ True ∧ True ∧ True ∧ True ∧ (sm (t.zones.length) ∧ ∀ (i : Nat),
    i < t.zones.length → sm ((t.zones.getD i codZ.dft).name) ∧ sm ((t.zones.getD i codZ.dft).level) ∧ sm ((t.zones.getD i codZ.dft).lox) ∧ sm ((t.zones.getD i codZ.dft).loy)
    ∧ sm ((t.zones.getD i codZ.dft).hix) ∧ sm ((t.zones.getD i codZ.dft).hiy) ∧ sm ((t.zones.getD i codZ.dft).hx) ∧ sm ((t.zones.getD i codZ.dft).hy) ∧ sm ((t.zones.getD
    i codZ.dft).coil) ∧ True) ∧ True ∧ True ∧ True ∧ True ∧ True ∧ True) ∧ ((if false = true then [] else List.map Seg.shape [Seg.s (SV.int IntKind.i64 x), Seg.s (SV.int
    IntKind.i64 y)]) = if false = true then [] else List.map Seg.shape [Seg.s (SV.int IntKind.i64 x), Seg.s (SV.int IntKind.i64 y)]) ∧ (x = x ∧ y = y ∧ True) ∧ True)
    ∧ ∀ (n_1 : Int), (0 : Int) ≤ n_1 ∧ n_1 ≤ ↑t.zones.length → True ∧ (decide (n_1 < ↑(zonL { radius := t.radius, gx := t.gx, gy := t.gy, drag := t.drag, shift := t.shift, zones := rowL codZ t.zones.length fun i => codZ.enc (t.zones.getD i codZ.dft) : Tb }
    c n x y).length) = true → ((0 : Int) ≤ n_1 ∧ n_1 < ↑(zonL { radius := t.radius, gx := t.gx, gy := t.gy, drag := t.drag, shift := t.shift, zones := rowL codZ t.zones.length fun i => codZ.enc (t.zones.getD i codZ.dft) : Tb }
    c n x y).length) ∧ ((0 : Int) ≤ n_1 ∧ n_1 < ↑(zonL { radius := t.radius, gx := t.gx, gy := t.gy, drag := t.drag, shift := t.shift, zones := rowL codZ t.zones.length fun i => codZ.enc (t.zones.getD i codZ.dft) : Tb }
    c n x y).length) ∧ IsT true ∧ (((zonL { radius := t.radius, gx := t.gx, gy := t.gy, drag := t.drag, shift := t.shift, zones := rowL codZ t.zones.length fun i => codZ.enc (t.zones.getD i codZ.dft) : Tb }
    c n x y).getD n_1.toNat (codI IntKind.i64).dft != (zonL { radius := t.radius, gx := t.gx, gy := t.gy, drag := t.drag, shift := t.shift, zones := rowL codZ t.zones.length fun i => codZ.enc (t.zones.getD i codZ.dft) : Tb }
    c n x y).getD n_1.toNat (codI IntKind.i64).dft) = true → True ∧ True ∧ true = false ∧ True) ∧ (((zonL { radius := t.radius, gx := t.gx, gy := t.gy, drag := t.drag, shift := t.shift, zones := rowL codZ t.zones.length fun i => codZ.enc (t.zones.getD i codZ.dft) : Tb }
    c n x y).getD n_1.toNat (codI IntKind.i64).dft != (zonL { radius := t.radius, gx := t.gx, gy := t.gy, drag := t.drag, shift := t.shift, zones := rowL codZ t.zones.length fun i => codZ.enc (t.zones.getD i codZ.dft) : Tb }
    c n x y).getD n_1.toNat (codI IntKind.i64).dft) = false → True ∧ ((0 : Int) ≤ W (n_1 + (1 : Int)) ∧ W (n_1 + (1 : Int)) ≤ ↑t.zones.length) ∧ (↑t.zones.length - W
    (n_1 + (1 : Int))).toNat < (↑t.zones.length - n_1).toNat ∧ ((t.radius = t.radius ∧ True ∧ True ∧ t.gx = t.gx ∧ t.gy = t.gy ∧ t.drag = t.drag ∧ t.shift = t.shift
    ∧ True ∧ True ∧ True ∧ True ∧ True ∧ (sm (t.zones.length) ∧ ∀ (i : Nat), i < t.zones.length → sm ((t.zones.getD i codZ.dft).name) ∧ sm ((t.zones.getD i codZ.dft).level)
    ∧ sm ((t.zones.getD i codZ.dft).lox) ∧ sm ((t.zones.getD i codZ.dft).loy) ∧ sm ((t.zones.getD i codZ.dft).hix) ∧ sm ((t.zones.getD i codZ.dft).hiy) ∧ sm ((t.zones.getD
    i codZ.dft).hx) ∧ sm ((t.zones.getD i codZ.dft).hy) ∧ sm ((t.zones.getD i codZ.dft).coil) ∧ True) ∧ True ∧ True ∧ True ∧ True ∧ True ∧ True) ∧ (x = x ∧ y = y ∧ True)
    ∧ c = c ∧ True ∧ True ∧ True ∧ True ∧ n = n ∧ (sm ((zonL { radius := t.radius, gx := t.gx, gy := t.gy, drag := t.drag, shift := t.shift, zones := rowL codZ t.zones.length fun i => codZ.enc (t.zones.getD i codZ.dft) : Tb }
    c n x y).length) ∧ ∀ (i : Nat), i < (zonL { radius := t.radius, gx := t.gx, gy := t.gy, drag := t.drag, shift := t.shift, zones := rowL codZ t.zones.length fun i => codZ.enc (t.zones.getD i codZ.dft) : Tb }
    c n x y).length → sm ((zonL { radius := t.radius, gx := t.gx, gy := t.gy, drag := t.drag, shift := t.shift, zones := rowL codZ t.zones.length fun i => codZ.enc (t.zones.getD i codZ.dft) : Tb }
    c n x y).getD i (codI IntKind.i64).dft) ∧ True) ∧ (sm ((zonL { radius := t.radius, gx := t.gx, gy := t.gy, drag := t.drag, shift := t.shift, zones := rowL codZ t.zones.length fun i => codZ.enc (t.zones.getD i codZ.dft) : Tb }
    c n x y).length) ∧ ∀ (i : Nat), i < (zonL { radius := t.radius, gx := t.gx, gy := t.gy, drag := t.drag, shift := t.shift, zones := rowL codZ t.zones.length fun i => codZ.enc (t.zones.getD i codZ.dft) : Tb }
    c n x y).length → sm ((zonL { radius := t.radius, gx := t.gx, gy := t.gy, drag := t.drag, shift := t.shift, zones := rowL codZ t.zones.length fun i => codZ.enc (t.zones.getD i codZ.dft) : Tb }
    c n x y).getD i (codI IntKind.i64).dft) ∧ True) ∧ sm (W (n_1 + (1 : Int))) ∧ true = true ∧ True ∧ (t.radius = t.radius ∧ True ∧ True ∧ t.gx = t.gx ∧ t.gy = t.gy
    ∧ t.drag = t.drag ∧ t.shift = t.shift ∧ True ∧ True ∧ True ∧ True ∧ True ∧ (sm (t.zones.length) ∧ ∀ (i : Nat), i < t.zones.length → sm ((t.zones.getD i codZ.dft).name)
    ∧ sm ((t.zones.getD i codZ.dft).level) ∧ sm ((t.zones.getD i codZ.dft).lox) ∧ sm ((t.zones.getD i codZ.dft).loy) ∧ sm ((t.zones.getD i codZ.dft).hix) ∧ sm ((t.zones.getD
    i codZ.dft).hiy) ∧ sm ((t.zones.getD i codZ.dft).hx) ∧ sm ((t.zones.getD i codZ.dft).hy) ∧ sm ((t.zones.getD i codZ.dft).coil) ∧ True) ∧ True ∧ True ∧ True ∧ True
    ∧ True ∧ True) ∧ sm (fewB { radius := t.radius, gx := t.gx, gy := t.gy, drag := t.drag, shift := t.shift, zones := rowL codZ t.zones.length fun i => codZ.enc (t.zones.getD i codZ.dft) : Tb })
    ∧ True ∧ True ∧ n = n ∧ True ∧ True ∧ True ∧ (t.radius = t.radius ∧ True ∧ True ∧ t.gx = t.gx ∧ t.gy = t.gy ∧ t.drag = t.drag ∧ t.shift = t.shift ∧ True ∧ True ∧
    True ∧ True ∧ True ∧ (sm (t.zones.length) ∧ ∀ (i : Nat), i < t.zones.length → sm ((t.zones.getD i codZ.dft).name) ∧ sm ((t.zones.getD i codZ.dft).level) ∧ sm ((t.zones.getD
    i codZ.dft).lox) ∧ sm ((t.zones.getD i codZ.dft).loy) ∧ sm ((t.zones.getD i codZ.dft).hix) ∧ sm ((t.zones.getD i codZ.dft).hiy) ∧ sm ((t.zones.getD i codZ.dft).hx)
    ∧ sm ((t.zones.getD i codZ.dft).hy) ∧ sm ((t.zones.getD i codZ.dft).coil) ∧ True) ∧ True ∧ True ∧ True ∧ True ∧ True ∧ True) ∧ c = c ∧ n = n ∧ (x = x ∧ y = y ∧ True)
    ∧ (sm ((zonL { radius := t.radius, gx := t.gx, gy := t.gy, drag := t.drag, shift := t.shift, zones := rowL codZ t.zones.length fun i => codZ.enc (t.zones.getD i codZ.dft) : Tb }
    c n x y).length) ∧ ∀ (i : Nat), i < (zonL { radius := t.radius, gx := t.gx, gy := t.gy, drag := t.drag, shift := t.shift, zones := rowL codZ t.zones.length fun i => codZ.enc (t.zones.getD i codZ.dft) : Tb }
    c n x y).length → sm ((zonL { radius := t.radius, gx := t.gx, gy := t.gy, drag := t.drag, shift := t.shift, zones := rowL codZ t.zones.length fun i => codZ.enc (t.zones.getD i codZ.dft) : Tb }
    c n x y).getD i (codI IntKind.i64).dft) ∧ True) ∧ (t.radius = t.radius ∧ True ∧ True ∧ t.gx = t.gx ∧ t.gy = t.gy ∧ t.drag = t.drag ∧ t.shift = t.shift ∧ True ∧ True
    ∧ True ∧ True ∧ True ∧ (sm (t.zones.length) ∧ ∀ (i : Nat), i < t.zones.length → sm ((t.zones.getD i codZ.dft).name) ∧ sm ((t.zones.getD i codZ.dft).level) ∧ sm ((t.zones.getD
    i codZ.dft).lox) ∧ sm ((t.zones.getD i codZ.dft).loy) ∧ sm ((t.zones.getD i codZ.dft).hix) ∧ sm ((t.zones.getD i codZ.dft).hiy) ∧ sm ((t.zones.getD i codZ.dft).hx)
    ∧ sm ((t.zones.getD i codZ.dft).hy) ∧ sm ((t.zones.getD i codZ.dft).coil) ∧ True) ∧ True ∧ True ∧ True ∧ True ∧ True ∧ True) ∧ c = c ∧ n = n ∧ (x = x ∧ y = y ∧ True)
    ∧ (sm ((zonL { radius := t.radius, gx := t.gx, gy := t.gy, drag := t.drag, shift := t.shift, zones := rowL codZ t.zones.length fun i => codZ.enc (t.zones.getD i codZ.dft) : Tb }
    c n x y).length) ∧ ∀ (i : Nat), i < (zonL { radius := t.radius, gx := t.gx, gy := t.gy, drag := t.drag, shift := t.shift, zones := rowL codZ t.zones.length fun i => codZ.enc (t.zones.getD i codZ.dft) : Tb }
    c n x y).length → sm ((zonL { radius := t.radius, gx := t.gx, gy := t.gy, drag := t.drag, shift := t.shift, zones := rowL codZ t.zones.length fun i => codZ.enc (t.zones.getD i codZ.dft) : Tb }
    c n x y).getD i (codI IntKind.i64).dft) ∧ True) ∧ (sm ((zonL { radius := t.radius, gx := t.gx, gy := t.gy, drag := t.drag, shift := t.shift, zones := rowL codZ t.zones.length fun i => codZ.enc (t.zones.getD i codZ.dft) : Tb }
    c n x y).length) ∧ ∀ (i : Nat), i < (zonL { radius := t.radius, gx := t.gx, gy := t.gy, drag := t.drag, shift := t.shift, zones := rowL codZ t.zones.length fun i => codZ.enc (t.zones.getD i codZ.dft) : Tb }
    c n x y).length → sm ((zonL { radius := t.radius, gx := t.gx, gy := t.gy, drag := t.drag, shift := t.shift, zones := rowL codZ t.zones.length fun i => codZ.enc (t.zones.getD i codZ.dft) : Tb }
    c n x y).getD i (codI IntKind.i64).dft) ∧ True) ∧ Eq (α := Int) ↑(zonL { radius := t.radius, gx := t.gx, gy := t.gy, drag := t.drag, shift := t.shift, zones := rowL codZ t.zones.length fun i => codZ.enc (t.zones.getD i codZ.dft) : Tb }
    c n x y).length ↑(zonL { radius := t.radius, gx := t.gx, gy := t.gy, drag := t.drag, shift := t.shift, zones := rowL codZ t.zones.length fun i => codZ.enc (t.zones.getD i codZ.dft) : Tb }
    c n x y).length ∧ (sm ((zonL { radius := t.radius, gx := t.gx, gy := t.gy, drag := t.drag, shift := t.shift, zones := rowL codZ t.zones.length fun i => codZ.enc (t.zones.getD i codZ.dft) : Tb }
    c n x y).length) ∧ ∀ (i : Nat), i < (zonL { radius := t.radius, gx := t.gx, gy := t.gy, drag := t.drag, shift := t.shift, zones := rowL codZ t.zones.length fun i => codZ.enc (t.zones.getD i codZ.dft) : Tb }
    c n x y).length → sm ((zonL { radius := t.radius, gx := t.gx, gy := t.gy, drag := t.drag, shift := t.shift, zones := rowL codZ t.zones.length fun i => codZ.enc (t.zones.getD i codZ.dft) : Tb }
    c n x y).getD i (codI IntKind.i64).dft) ∧ True) ∧ Eq (α := Int) ↑(zonL { radius := t.radius, gx := t.gx, gy := t.gy, drag := t.drag, shift := t.shift, zones := rowL codZ t.zones.length fun i => codZ.enc (t.zones.getD i codZ.dft) : Tb }
    c n x y).length ↑(zonL { radius := t.radius, gx := t.gx, gy := t.gy, drag := t.drag, shift := t.shift, zones := rowL codZ t.zones.length fun i => codZ.enc (t.zones.getD i codZ.dft) : Tb }
    c n x y).length ∧ sm (bne (α := Int) ↑(zonL { radius := t.radius, gx := t.gx, gy := t.gy, drag := t.drag, shift := t.shift, zones := rowL codZ t.zones.length fun i => codZ.enc (t.zones.getD i codZ.dft) : Tb }
    c n x y).length ↑(zonL { radius := t.radius, gx := t.gx, gy := t.gy, drag := t.drag, shift := t.shift, zones := rowL codZ t.zones.length fun i => codZ.enc (t.zones.getD i codZ.dft) : Tb }
    c n x y).length) ∧ True ∧ (t.radius = t.radius ∧ True ∧ True ∧ t.gx = t.gx ∧ t.gy = t.gy ∧ t.drag = t.drag ∧ t.shift = t.shift ∧ True ∧ True ∧ True ∧ True ∧ True
    ∧ (sm (t.zones.length) ∧ ∀ (i : Nat), i < t.zones.length → sm ((t.zones.getD i codZ.dft).name) ∧ sm ((t.zones.getD i codZ.dft).level) ∧ sm ((t.zones.getD i codZ.dft).lox)
    ∧ sm ((t.zones.getD i codZ.dft).loy) ∧ sm ((t.zones.getD i codZ.dft).hix) ∧ sm ((t.zones.getD i codZ.dft).hiy) ∧ sm ((t.zones.getD i codZ.dft).hx) ∧ sm ((t.zones.getD
    i codZ.dft).hy) ∧ sm ((t.zones.getD i codZ.dft).coil) ∧ True) ∧ True ∧ True ∧ True ∧ True ∧ True ∧ True) ∧ c = c ∧ n = n ∧ (x = x ∧ y = y ∧ True) ∧ (sm (halX { radius := t.radius, gx := t.gx, gy := t.gy, drag := t.drag, shift := t.shift, zones := rowL codZ t.zones.length fun i => codZ.enc (t.zones.getD i codZ.dft) : Tb }
    c n x y) ∧ sm (halY { radius := t.radius, gx := t.gx, gy := t.gy, drag := t.drag, shift := t.shift, zones := rowL codZ t.zones.length fun i => codZ.enc (t.zones.getD i codZ.dft) : Tb }
    c n x y) ∧ True) ∧ (t.radius = t.radius ∧ True ∧ True ∧ t.gx = t.gx ∧ t.gy = t.gy ∧ t.drag = t.drag ∧ t.shift = t.shift ∧ True ∧ True ∧ True ∧ True ∧ True ∧ (sm
    (t.zones.length) ∧ ∀ (i : Nat), i < t.zones.length → sm ((t.zones.getD i codZ.dft).name) ∧ sm ((t.zones.getD i codZ.dft).level) ∧ sm ((t.zones.getD i codZ.dft).lox)
    ∧ sm ((t.zones.getD i codZ.dft).loy) ∧ sm ((t.zones.getD i codZ.dft).hix) ∧ sm ((t.zones.getD i codZ.dft).hiy) ∧ sm ((t.zones.getD i codZ.dft).hx) ∧ sm ((t.zones.getD
    i codZ.dft).hy) ∧ sm ((t.zones.getD i codZ.dft).coil) ∧ True) ∧ True ∧ True ∧ True ∧ True ∧ True ∧ True) ∧ c = c ∧ n = n ∧ (x = x ∧ y = y ∧ True) ∧ (sm (halX { radius := t.radius, gx := t.gx, gy := t.gy, drag := t.drag, shift := t.shift, zones := rowL codZ t.zones.length fun i => codZ.enc (t.zones.getD i codZ.dft) : Tb }
    c n x y) ∧ sm (halY { radius := t.radius, gx := t.gx, gy := t.gy, drag := t.drag, shift := t.shift, zones := rowL codZ t.zones.length fun i => codZ.enc (t.zones.getD i codZ.dft) : Tb }
    c n x y) ∧ True) ∧ sm (!eqSegs [Seg.s (SV.int IntKind.i64 (halX { radius := t.radius, gx := t.gx, gy := t.gy, drag := t.drag, shift := t.shift, zones := rowL codZ t.zones.length fun i => codZ.enc (t.zones.getD i codZ.dft) : Tb }
    c n x y)), Seg.s (SV.int IntKind.i64 (halY { radius := t.radius, gx := t.gx, gy := t.gy, drag := t.drag, shift := t.shift, zones := rowL codZ t.zones.length fun i => codZ.enc (t.zones.getD i codZ.dft) : Tb }
    c n x y))] [Seg.s (SV.int IntKind.i64 (halX { radius := t.radius, gx := t.gx, gy := t.gy, drag := t.drag, shift := t.shift, zones := rowL codZ t.zones.length fun i => codZ.enc (t.zones.getD i codZ.dft) : Tb }
    c n x y)), Seg.s (SV.int IntKind.i64 (halY { radius := t.radius, gx := t.gx, gy := t.gy, drag := t.drag, shift := t.shift, zones := rowL codZ t.zones.length fun i => codZ.enc (t.zones.getD i codZ.dft) : Tb }
    c n x y))]) ∧ True ∧ True ∧ True ∧ True ∧ True ∧ True ∧ True ∧ True ∧ True ∧ True ∧ True ∧ True ∧ True ∧ True ∧ True ∧ True ∧ True) ∧ ((if false = true then [] else
    List.map Seg.shape [Seg.s (SV.int IntKind.i64 t.radius), Seg.s SV.opq, Seg.s SV.opq, Seg.s (SV.int IntKind.i64 t.gx), Seg.s (SV.int IntKind.i64 t.gy), Seg.s (SV.int
    IntKind.i64 t.drag), Seg.s (SV.int IntKind.i64 t.shift), Seg.s SV.opq, Seg.s SV.opq, Seg.s SV.opq, Seg.s SV.opq, Seg.s SV.opq, Seg.s (SV.ros ((0 : Nat) + (1 : Nat)
    + (1 : Nat) + (1 : Nat) + (1 : Nat) + (1 : Nat) + (1 : Nat) + (1 : Nat) + (1 : Nat) + (1 : Nat)) t.zones.length fun i => codZ.enc (t.zones.getD i codZ.dft)), Seg.s
    SV.opq, Seg.s SV.opq, Seg.s SV.opq, Seg.s SV.opq, Seg.s SV.opq]) = if false = true then [] else List.map Seg.shape [Seg.s (SV.int IntKind.i64 t.radius), Seg.s SV.opq,
    Seg.s SV.opq, Seg.s (SV.int IntKind.i64 t.gx), Seg.s (SV.int IntKind.i64 t.gy), Seg.s (SV.int IntKind.i64 t.drag), Seg.s (SV.int IntKind.i64 t.shift), Seg.s SV.opq,
    Seg.s SV.opq, Seg.s SV.opq, Seg.s SV.opq, Seg.s SV.opq, Seg.s (SV.ros ((0 : Nat) + (1 : Nat) + (1 : Nat) + (1 : Nat) + (1 : Nat) + (1 : Nat) + (1 : Nat) + (1 : Nat)
    + (1 : Nat) + (1 : Nat)) t.zones.length fun i => codZ.enc (t.zones.getD i codZ.dft)), Seg.s SV.opq, Seg.s SV.opq, Seg.s SV.opq, Seg.s SV.opq, Seg.s SV.opq]) ∧ (t.radius
    = t.radius ∧ True ∧ True ∧ t.gx = t.gx ∧ t.gy = t.gy ∧ t.drag = t.drag ∧ t.shift = t.shift ∧ True ∧ True ∧ True ∧ True ∧ True ∧ (sm (t.zones.length) ∧ ∀ (i : Nat),
    i < t.zones.length → sm ((t.zones.getD i codZ.dft).name) ∧ sm ((t.zones.getD i codZ.dft).level) ∧ sm ((t.zones.getD i codZ.dft).lox) ∧ sm ((t.zones.getD i codZ.dft).loy)
    ∧ sm ((t.zones.getD i codZ.dft).hix) ∧ sm ((t.zones.getD i codZ.dft).hiy) ∧ sm ((t.zones.getD i codZ.dft).hx) ∧ sm ((t.zones.getD i codZ.dft).hy) ∧ sm ((t.zones.getD
    i codZ.dft).coil) ∧ True) ∧ True ∧ True ∧ True ∧ True ∧ True ∧ True) ∧ ((if false = true then [] else List.map Seg.shape [Seg.s (SV.int IntKind.i64 x), Seg.s (SV.int
    IntKind.i64 y)]) = if false = true then [] else List.map Seg.shape [Seg.s (SV.int IntKind.i64 x), Seg.s (SV.int IntKind.i64 y)]) ∧ (x = x ∧ y = y ∧ True) ∧ True))
    ∧ (decide (n_1 < ↑(zonL { radius := t.radius, gx := t.gx, gy := t.gy, drag := t.drag, shift := t.shift, zones := rowL codZ t.zones.length fun i => codZ.enc (t.zones.getD i codZ.dft) : Tb }
    c n x y).length) = false → True ∧ ((-1 : Int) ≤ W (n + (1 : Int)) ∧ W (n + (1 : Int)) ≤ (5 : Int)) ∧ ((5 : Int) - W (n + (1 : Int))).toNat < ((5 : Int) - n).toNat
    ∧ ((t.radius = t.radius ∧ True ∧ True ∧ t.gx = t.gx ∧ t.gy = t.gy ∧ t.drag = t.drag ∧ t.shift = t.shift ∧ True ∧ True ∧ True ∧ True ∧ True ∧ (sm (t.zones.length)
    ∧ ∀ (i : Nat), i < t.zones.length → sm ((t.zones.getD i codZ.dft).name) ∧ sm ((t.zones.getD i codZ.dft).level) ∧ sm ((t.zones.getD i codZ.dft).lox) ∧ sm ((t.zones.getD
    i codZ.dft).loy) ∧ sm ((t.zones.getD i codZ.dft).hix) ∧ sm ((t.zones.getD i codZ.dft).hiy) ∧ sm ((t.zones.getD i codZ.dft).hx) ∧ sm ((t.zones.getD i codZ.dft).hy)
    ∧ sm ((t.zones.getD i codZ.dft).coil) ∧ True) ∧ True ∧ True ∧ True ∧ True ∧ True ∧ True) ∧ (x = x ∧ y = y ∧ True) ∧ c = c ∧ True ∧ True ∧ True ∧ True ∧ sm (W (n
    + (1 : Int))) ∧ True ∧ True ∧ True ∧ true = true ∧ True ∧ (t.radius = t.radius ∧ True ∧ True ∧ t.gx = t.gx ∧ t.gy = t.gy ∧ t.drag = t.drag ∧ t.shift = t.shift ∧
    True ∧ True ∧ True ∧ True ∧ True ∧ (sm (t.zones.length) ∧ ∀ (i : Nat), i < t.zones.length → sm ((t.zones.getD i codZ.dft).name) ∧ sm ((t.zones.getD i codZ.dft).level)
    ∧ sm ((t.zones.getD i codZ.dft).lox) ∧ sm ((t.zones.getD i codZ.dft).loy) ∧ sm ((t.zones.getD i codZ.dft).hix) ∧ sm ((t.zones.getD i codZ.dft).hiy) ∧ sm ((t.zones.getD
    i codZ.dft).hx) ∧ sm ((t.zones.getD i codZ.dft).hy) ∧ sm ((t.zones.getD i codZ.dft).coil) ∧ True) ∧ True ∧ True ∧ True ∧ True ∧ True ∧ True) ∧ sm (fewB { radius := t.radius, gx := t.gx, gy := t.gy, drag := t.drag, shift := t.shift, zones := rowL codZ t.zones.length fun i => codZ.enc (t.zones.getD i codZ.dft) : Tb })
    ∧ True ∧ True ∧ True ∧ True ∧ True ∧ True ∧ True ∧ True ∧ True ∧ True ∧ True ∧ True ∧ True ∧ True ∧ True ∧ True ∧ True ∧ True ∧ True ∧ True ∧ True ∧ True ∧ True
    ∧ True ∧ True ∧ True ∧ True ∧ True ∧ True ∧ True ∧ True ∧ True ∧ True ∧ True ∧ True ∧ True ∧ True ∧ True ∧ True ∧ True ∧ True ∧ True ∧ True ∧ True ∧ True ∧ True
    ∧ True ∧ True ∧ True ∧ True) ∧ ((if false = true then [] else List.map Seg.shape [Seg.s (SV.int IntKind.i64 t.radius), Seg.s SV.opq, Seg.s SV.opq, Seg.s (SV.int
    IntKind.i64 t.gx), Seg.s (SV.int IntKind.i64 t.gy), Seg.s (SV.int IntKind.i64 t.drag), Seg.s (SV.int IntKind.i64 t.shift), Seg.s SV.opq, Seg.s SV.opq, Seg.s SV.opq,
    Seg.s SV.opq, Seg.s SV.opq, Seg.s (SV.ros ((0 : Nat) + (1 : Nat) + (1 : Nat) + (1 : Nat) + (1 : Nat) + (1 : Nat) + (1 : Nat) + (1 : Nat) + (1 : Nat) + (1 : Nat))
    t.zones.length fun i => codZ.enc (t.zones.getD i codZ.dft)), Seg.s SV.opq, Seg.s SV.opq, Seg.s SV.opq, Seg.s SV.opq, Seg.s SV.opq]) = if false = true then [] else
    List.map Seg.shape [Seg.s (SV.int IntKind.i64 t.radius), Seg.s SV.opq, Seg.s SV.opq, Seg.s (SV.int IntKind.i64 t.gx), Seg.s (SV.int IntKind.i64 t.gy), Seg.s (SV.int
    IntKind.i64 t.drag), Seg.s (SV.int IntKind.i64 t.shift), Seg.s SV.opq, Seg.s SV.opq, Seg.s SV.opq, Seg.s SV.opq, Seg.s SV.opq, Seg.s (SV.ros ((0 : Nat) + (1 : Nat)
    + (1 : Nat) + (1 : Nat) + (1 : Nat) + (1 : Nat) + (1 : Nat) + (1 : Nat) + (1 : Nat) + (1 : Nat)) t.zones.length fun i => codZ.enc (t.zones.getD i codZ.dft)), Seg.s
    SV.opq, Seg.s SV.opq, Seg.s SV.opq, Seg.s SV.opq, Seg.s SV.opq]) ∧ (t.radius = t.radius ∧ True ∧ True ∧ t.gx = t.gx ∧ t.gy = t.gy ∧ t.drag = t.drag ∧ t.shift = t.shift
    ∧ True ∧ True ∧ True ∧ True ∧ True ∧ (sm (t.zones.length) ∧ ∀ (i : Nat), i < t.zones.length → sm ((t.zones.getD i codZ.dft).name) ∧ sm ((t.zones.getD i codZ.dft).level)
    ∧ sm ((t.zones.getD i codZ.dft).lox) ∧ sm ((t.zones.getD i codZ.dft).loy) ∧ sm ((t.zones.getD i codZ.dft).hix) ∧ sm ((t.zones.getD i codZ.dft).hiy) ∧ sm ((t.zones.getD
    i codZ.dft).hx) ∧ sm ((t.zones.getD i codZ.dft).hy) ∧ sm ((t.zones.getD i codZ.dft).coil) ∧ True) ∧ True ∧ True ∧ True ∧ True ∧ True ∧ True) ∧ ((if false = true
    then [] else List.map Seg.shape [Seg.s (SV.int IntKind.i64 x), Seg.s (SV.int IntKind.i64 y)]) = if false = true then [] else List.map Seg.shape [Seg.s (SV.int IntKind.i64
    x), Seg.s (SV.int IntKind.i64 y)]) ∧ (x = x ∧ y = y ∧ True) ∧ True)))) ∧ (decide (n ≤ (4 : Int)) = false → True ∧ True ∧ true = true ∧ True)))) = vc5 t x y c := by kernel_rfl
theorem law_tt {P : Program} {f : FuncId} {args : Array Value} {W : World} {Q : RO → World → Prop} (h : Calls P f args W fun e W' => ∃ v R', e = .returned v ∧ Rel R' Own.empty (.bool true) v ∧ Q R' W') :
    Calls P f args W fun e W' => ∃ v R', e = .returned v ∧ Rel R' Own.empty .tt v ∧ Q R' W' :=
  Calls.mono h fun e W' ⟨v, R', h1, h2, h3⟩ => ⟨v, R', h1, by rw [inv_bool h2]; exact .tt _, h3⟩
theorem rg_of {n : Int} (h : (Lit.int .i64 n).wf = true) : rg n := by
  simp [Lit.wf, IntKind.min, IntKind.max, IntKind.signed, IntKind.bits] at h
  exact ⟨h.1, by omega⟩
theorem max_of {n : Nat} (h : n ≤ Go.maxLen) : n ≤ 9223372036854775807 := by simpa [Go.maxLen] using h
theorem tb_eta (t : Tb) : (⟨t.radius, t.gx, t.gy, t.drag, t.shift, t.zones⟩ : Tb) = t := rfl
theorem drV_btw (t : Tb) (k : Int) {x : Int} (h : rg x) : (0 ≤ x → 0 ≤ drV t k x ∧ drV t k x ≤ x) ∧ (x ≤ 0 → x ≤ drV t k x ∧ drV t k x ≤ 0) := by
  by_cases q : t.drag ≤ 0 ∨ ¬ k.tmod t.drag = 0
  · rw [drV_no q]; omega
  · rw [drV_yes q]
    have := sub_rg h (two_pos (shN t.shift))
    simp only [drI]; omega
theorem out_no {x y : Int} (h : (0 ≤ y → 0 ≤ x ∧ x ≤ y) ∧ (y ≤ 0 → y ≤ x ∧ x ≤ 0)) : outB x y = false := by
  simp only [outB]
  split
  · exact decide_eq_false (by omega)
  · exact decide_eq_false (by omega)
theorem sm_rg {x y : Int} (h : smB x y = true) : rg x ∧ rg y := by
  have := sm_iff'.1 h
  simp only [rg]; omega
theorem sm_drV (t : Tb) (k : Int) {x y : Int} (h : smB x y = true) : smB (drV t k x) (drV t k y) = true := by
  have b := sm_iff'.1 h
  have hx := drV_btw t k (sm_rg h).1
  have hy := drV_btw t k (sm_rg h).2
  refine sm_iff'.2 ?_
  by_cases q : 0 ≤ x <;> by_cases q2 : 0 ≤ y
  · have := hx.1 q; have := hy.1 q2; omega
  · have := hx.1 q; have := hy.2 (by omega); omega
  · have := hx.2 (by omega); have := hy.1 q2; omega
  · have := hx.2 (by omega); have := hy.2 (by omega); omega
theorem limT_bd (r : Int) : 0 ≤ limT r ∧ limT r ≤ 16384 := by
  simp only [limT]
  repeat' split
  all_goals omega
theorem limI_val {x m : Int} (m0 : 0 ≤ m) (m1 : m ≤ 16384) : (x < -m → limI x m = -m) ∧ (-m ≤ x → x ≤ m → limI x m = x) ∧ (m < x → limI x m = m) := by
  have e : W (0 - m) = -m := by rw [W_id (by omega) (by omega)]; omega
  simp only [limI, e]
  refine ⟨fun h => ?_, fun h h2 => ?_, fun h => ?_⟩
  · rw [if_pos (show -m > x by omega), if_neg (by omega)]
  · rw [if_neg (show ¬ -m > x by omega), if_neg (by omega)]
  · rw [if_neg (show ¬ -m > x by omega), if_pos h]
theorem limI_laws (x : Int) {m : Int} (m0 : 0 ≤ m) (m1 : m ≤ 16384) : limI (limI x m) m = limI x m ∧ outB (limI x m) x = false := by
  have v := limI_val (x := x) m0 m1
  by_cases h1 : x < -m
  · rw [v.1 h1, (limI_val (x := -m) m0 m1).2.1 (by omega) (by omega)]
    exact ⟨rfl, out_no (by omega)⟩
  · by_cases h2 : m < x
    · rw [v.2.2 h2, (limI_val (x := m) m0 m1).2.1 (by omega) (by omega)]
      exact ⟨rfl, out_no (by omega)⟩
    · have e := v.2.1 (by omega) (by omega)
      rw [e]
      exact ⟨e, out_no (by omega)⟩
theorem t3 (t : Tb) (x y k : Int) (hx : rg x) (hy : rg y) : vc3 t x y k := by
  rw [← vc3_eq]
  simp [-List.getD_eq_getElem?_getD, tb_eta, eqSegs, eqCell]
  exact fun _ => ⟨hx, hy⟩
theorem mult_two {d i : Int} (d0 : 1 ≤ d) (i0 : 0 ≤ i) (i1 : i < 2 * d) (h : i.tmod d = 0) : i = 0 ∨ i = d := by
  rw [Int.tmod_eq_emod_of_nonneg i0] at h
  by_cases q : i < d
  · rw [Int.emod_eq_of_lt i0 q] at h; exact .inl h
  · have e : i = d + (i - d) := by omega
    rw [e, Int.add_emod_left, Int.emod_eq_of_lt (by omega) (by omega)] at h
    omega
theorem t4 (t : Tb) (x y k : Int) (hx : rg x) (hy : rg y) : vc4 t x y k := by
  rw [← vc4_eq]
  simp [-List.getD_eq_getElem?_getD, tb_eta, eqSegs, eqCell]
  intro hs d0 d1
  rw [W_id (n := 2 * t.drag) (by omega) (by omega)]
  have lb := limT_bd t.radius
  have lx := limI_laws x lb.1 lb.2
  have ly := limI_laws y lb.1 lb.2
  refine ⟨?_, fun a n i hJ => ?_⟩
  · simp only [J4, cntI]; exact ⟨by omega, by omega, by omega, by rw [if_pos (by omega)]; omega, hs⟩
  simp only [J4] at hJ ⊢
  obtain ⟨i0, i1, n0, n1, ha⟩ := hJ
  have ra := sm_rg ha
  have ox := out_no (drV_btw t i ra.1)
  have oy := out_no (drV_btw t i ra.2)
  have sd := sm_drV t i ha
  have c2 : n ≤ 2 := by
    simp only [cntI] at n1
    repeat' split at n1
    all_goals omega
  refine ⟨fun h => ⟨ra, fun hne => ⟨ox, fun _ => ⟨oy, fun _ => ⟨⟨?_, ?_, ?_, ?_, sd⟩, ?_⟩⟩⟩, fun e1 e2 => ⟨ox, fun _ => ⟨oy, fun _ => ⟨⟨?_, ?_, n0, ?_, sd⟩, ?_⟩⟩⟩⟩, fun _ => ⟨fun _ => ⟨fun _ _ => ⟨fun _ => ly.2, lx.2⟩, lx.1, ly.1⟩, c2⟩⟩
  all_goals try rw [W_id (n := i + 1) (by omega) (by omega)]
  all_goals try rw [W_id (n := n + 1) (by omega) (by omega)]
  all_goals try omega
  · have hm : i.tmod t.drag = 0 := by
      by_cases q : i.tmod t.drag = 0
      · exact q
      · rw [drV_no (.inr q), drV_no (.inr q)] at hne
        rcases hne with hne | hne <;> exact absurd rfl hne
    have := mult_two d0 i0 h hm
    simp only [cntI] at n1 ⊢
    repeat' split at n1
    all_goals (repeat' split)
    all_goals omega
  · simp only [cntI] at n1 ⊢
    repeat' split at n1
    all_goals (repeat' split)
    all_goals omega
theorem zon_le (t : Tb) (c lv px py : Int) : (zonL t c lv px py).length ≤ t.zones.length := by
  rw [zon_len]; exact come_len _ _ _
theorem t5 (t : Tb) (x y c : Int) (hl : t.zones.length ≤ 9223372036854775807) : vc5 t x y c := by
  rw [← vc5_eq]
  simp [-List.getD_eq_getElem?_getD, tb_eta, eqSegs, eqCell]
  refine ⟨hl, fun hf n n0 n1 n2 => ?_⟩
  have := (few_iff.1 hf).1
  have zl := zon_le t c n x y
  refine ⟨by omega, fun i i0 i1 => ⟨fun h => ?_, fun h => ?_⟩⟩
  · rw [W_id (n := i + 1) (by omega) (by omega)]; omega
  · rw [W_id (n := n + 1) (by omega) (by omega)]; omega
end Go.Proofs.Fi
