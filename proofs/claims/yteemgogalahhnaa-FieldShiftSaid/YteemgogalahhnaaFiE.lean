import Derived.Test.YteemgogalahhnaaFiD
namespace Go.Proofs.Fi
set_option linter.unusedVariables false
set_option linter.unusedSimpArgs false
open Go Go.Sx Go.Proofs
set_option maxRecDepth 100000
set_option maxHeartbeats 4000000
-- ABBR: IntKind.i64.wrap ==> W
/-- A zone that has been moved. -/
def mvZ (b : Int) (z : Zn) : Zn := { z with lox := z.lox + b, loy := z.loy - b, hix := z.hix + b, hiy := z.hiy - b }
def mvL (b : Int) (zs : List Zn) (i : Nat) : List Zn := (zs.take i).map (mvZ b) ++ zs.drop i
def nearB (z : Zn) : Bool := smB z.lox z.loy && smB z.hix z.hiy
abbrev X6 := Int × List Zn
def J6 (t : Tb) (b : Int) (x : X6) : Prop := 0 ≤ x.1 ∧ x.1 ≤ t.zones.length ∧ x.2 = mvL b t.zones x.1.toNat ∧ ∀ j, j < x.1.toNat → nearB (t.zones.getD j default) = true
attribute [irreducible] J6 mvL nearB
def A6 (t : Tb) (b : Int) : List Ann := [⟨.unit, .list [.int .i64 (.tm 8), .arrL codZ t.zones.length 3 0], fun _ (x : X6) => J6 t b x, fun _ (x : X6) => ((t.zones.length : Int) - x.1).toNat⟩, ⟨.unit, .int .i64 (.tm 11), fun _ (n : Int) => 0 ≤ n ∧ n ≤ t.zones.length, fun _ (n : Int) => ((t.zones.length : Int) - n).toNat⟩]
noncomputable def vc6 (t : Tb) (x y b : Int) : Prop := cva T7 Try.f6 (A6 t b) [tE t, vS x y, iS b] (.bool true)
theorem vc6_eq (t : Tb) (x y b : Int) : (True ∧ (True ∧ True) ∧ True ∧ (false = true → True ∧ True ∧ true = false ∧ True) ∧ (false = false → True ∧ (((true = true ∧ true = true ∧ true = true ∧ true = true
    ∧ true = true ∧ true = true ∧ true = true ∧ true = true ∧ true = true ∧ true = true ∧ true = true ∧ true = true) ∧ ∀ (i : Nat), i < t.zones.length → true = true
    ∧ True) ∧ (rowL codZ t.zones.length fun i => codZ.enc (t.zones.getD i codZ.dft)).length ≤ (9223372036854775807 : Nat)) ∧ ((!fewB { radius := t.radius, gx := t.gx, gy := t.gy, drag := t.drag, shift := t.shift, zones := rowL codZ t.zones.length fun i => codZ.enc (t.zones.getD i codZ.dft) : Tb })
    = true → True ∧ (True ∧ True) ∧ True ∧ True ∧ true = true ∧ True) ∧ ((!fewB { radius := t.radius, gx := t.gx, gy := t.gy, drag := t.drag, shift := t.shift, zones := rowL codZ t.zones.length fun i => codZ.enc (t.zones.getD i codZ.dft) : Tb })
    = false → True ∧ (True ∧ True) ∧ ((!smB x y) = true → True ∧ (True ∧ True) ∧ True ∧ True ∧ true = true ∧ True) ∧ ((!smB x y) = false → (decide (b < (-1073741824
    : Int)) = true → True ∧ (True ∧ True) ∧ True ∧ True ∧ true = true ∧ True) ∧ (decide (b < (-1073741824 : Int)) = false → True ∧ (decide (b > (1073741824 : Int)) =
    true → (True ∧ True) ∧ True ∧ True ∧ true = true ∧ True) ∧ (decide (b > (1073741824 : Int)) = false → True ∧ (∀ (j : Nat), j < t.zones.length → true = true) ∧ (t.zones.length
    ≤ (140737488355328 : Nat) ∧ t.zones.length * (80 : Nat) ≤ (140737488355328 : Nat)) ∧ True ∧ True ∧ (J6 t b ((0 : Int), rowL codZ t.zones.length fun i => codZ.enc
    (t.zones.getD i codZ.dft)) ∧ ((t.radius = t.radius ∧ True ∧ True ∧ t.gx = t.gx ∧ t.gy = t.gy ∧ t.drag = t.drag ∧ t.shift = t.shift ∧ True ∧ True ∧ True ∧ True ∧
    True ∧ (t.zones.length = t.zones.length ∧ ∀ (i : Nat), i < t.zones.length → (t.zones.getD i codZ.dft).name = (t.zones.getD i codZ.dft).name ∧ (t.zones.getD i codZ.dft).level
    = (t.zones.getD i codZ.dft).level ∧ (t.zones.getD i codZ.dft).lox = (t.zones.getD i codZ.dft).lox ∧ (t.zones.getD i codZ.dft).loy = (t.zones.getD i codZ.dft).loy
    ∧ (t.zones.getD i codZ.dft).hix = (t.zones.getD i codZ.dft).hix ∧ (t.zones.getD i codZ.dft).hiy = (t.zones.getD i codZ.dft).hiy ∧ (t.zones.getD i codZ.dft).hx =
    (t.zones.getD i codZ.dft).hx ∧ (t.zones.getD i codZ.dft).hy = (t.zones.getD i codZ.dft).hy ∧ (t.zones.getD i codZ.dft).coil = (t.zones.getD i codZ.dft).coil ∧ True)
    ∧ True ∧ True ∧ True ∧ True ∧ True ∧ True) ∧ (x = x ∧ y = y ∧ True) ∧ b = b ∧ True ∧ True ∧ True ∧ True ∧ True ∧ (0 : Int) = (0 : Int) ∧ True ∧ True ∧ True ∧ True
    ∧ true = true ∧ True ∧ (t.radius = t.radius ∧ True ∧ True ∧ t.gx = t.gx ∧ t.gy = t.gy ∧ t.drag = t.drag ∧ t.shift = t.shift ∧ True ∧ True ∧ True ∧ True ∧ True ∧
    (t.zones.length = t.zones.length ∧ ∀ (i : Nat), i < t.zones.length → (t.zones.getD i codZ.dft).name = (t.zones.getD i codZ.dft).name ∧ (t.zones.getD i codZ.dft).level
    = (t.zones.getD i codZ.dft).level ∧ (t.zones.getD i codZ.dft).lox = (t.zones.getD i codZ.dft).lox ∧ (t.zones.getD i codZ.dft).loy = (t.zones.getD i codZ.dft).loy
    ∧ (t.zones.getD i codZ.dft).hix = (t.zones.getD i codZ.dft).hix ∧ (t.zones.getD i codZ.dft).hiy = (t.zones.getD i codZ.dft).hiy ∧ (t.zones.getD i codZ.dft).hx =
    (t.zones.getD i codZ.dft).hx ∧ (t.zones.getD i codZ.dft).hy = (t.zones.getD i codZ.dft).hy ∧ (t.zones.getD i codZ.dft).coil = (t.zones.getD i codZ.dft).coil ∧ True)
    ∧ True ∧ True ∧ True ∧ True ∧ True ∧ True) ∧ fewB { radius := t.radius, gx := t.gx, gy := t.gy, drag := t.drag, shift := t.shift, zones := rowL codZ t.zones.length fun i => codZ.enc (t.zones.getD i codZ.dft) : Tb }
    = fewB { radius := t.radius, gx := t.gx, gy := t.gy, drag := t.drag, shift := t.shift, zones := rowL codZ t.zones.length fun i => codZ.enc (t.zones.getD i codZ.dft) : Tb }
    ∧ (!fewB { radius := t.radius, gx := t.gx, gy := t.gy, drag := t.drag, shift := t.shift, zones := rowL codZ t.zones.length fun i => codZ.enc (t.zones.getD i codZ.dft) : Tb })
    = !fewB { radius := t.radius, gx := t.gx, gy := t.gy, drag := t.drag, shift := t.shift, zones := rowL codZ t.zones.length fun i => codZ.enc (t.zones.getD i codZ.dft) : Tb }
    ∧ True ∧ (x = x ∧ y = y ∧ True) ∧ smB x y = smB x y ∧ (!smB x y) = !smB x y ∧ (!smB x y) = !smB x y ∧ True ∧ b = b ∧ decide (b < (-1073741824 : Int)) = decide (b
    < (-1073741824 : Int)) ∧ decide (b < (-1073741824 : Int)) = decide (b < (-1073741824 : Int)) ∧ True ∧ b = b ∧ decide (b > (1073741824 : Int)) = decide (b > (1073741824
    : Int)) ∧ True ∧ True ∧ (t.radius = t.radius ∧ True ∧ True ∧ t.gx = t.gx ∧ t.gy = t.gy ∧ t.drag = t.drag ∧ t.shift = t.shift ∧ True ∧ True ∧ True ∧ True ∧ True ∧
    (t.zones.length = t.zones.length ∧ ∀ (i : Nat), i < t.zones.length → (t.zones.getD i codZ.dft).name = (t.zones.getD i codZ.dft).name ∧ (t.zones.getD i codZ.dft).level
    = (t.zones.getD i codZ.dft).level ∧ (t.zones.getD i codZ.dft).lox = (t.zones.getD i codZ.dft).lox ∧ (t.zones.getD i codZ.dft).loy = (t.zones.getD i codZ.dft).loy
    ∧ (t.zones.getD i codZ.dft).hix = (t.zones.getD i codZ.dft).hix ∧ (t.zones.getD i codZ.dft).hiy = (t.zones.getD i codZ.dft).hiy ∧ (t.zones.getD i codZ.dft).hx =
    (t.zones.getD i codZ.dft).hx ∧ (t.zones.getD i codZ.dft).hy = (t.zones.getD i codZ.dft).hy ∧ (t.zones.getD i codZ.dft).coil = (t.zones.getD i codZ.dft).coil ∧ True)
    ∧ True ∧ True ∧ True ∧ True ∧ True ∧ True) ∧ True ∧ (t.zones.length = t.zones.length ∧ ∀ (i : Nat), i < t.zones.length → (t.zones.getD i codZ.dft).name = (t.zones.getD
    i codZ.dft).name ∧ (t.zones.getD i codZ.dft).level = (t.zones.getD i codZ.dft).level ∧ (t.zones.getD i codZ.dft).lox = (t.zones.getD i codZ.dft).lox ∧ (t.zones.getD
    i codZ.dft).loy = (t.zones.getD i codZ.dft).loy ∧ (t.zones.getD i codZ.dft).hix = (t.zones.getD i codZ.dft).hix ∧ (t.zones.getD i codZ.dft).hiy = (t.zones.getD i
    codZ.dft).hiy ∧ (t.zones.getD i codZ.dft).hx = (t.zones.getD i codZ.dft).hx ∧ (t.zones.getD i codZ.dft).hy = (t.zones.getD i codZ.dft).hy ∧ (t.zones.getD i codZ.dft).coil
    = (t.zones.getD i codZ.dft).coil ∧ True) ∧ ((0 : Nat) = (0 : Nat) ∧ t.zones.length = t.zones.length) ∧ True ∧ True ∧ True ∧ True ∧ True ∧ True ∧ True ∧ True ∧ True
    ∧ True ∧ True ∧ True ∧ True ∧ True ∧ True ∧ True ∧ True ∧ True ∧ True ∧ True ∧ True ∧ True ∧ True ∧ True ∧ True ∧ True ∧ True ∧ True ∧ True ∧ True ∧ True ∧ True
    ∧ True ∧ True ∧ True ∧ True ∧ True ∧ True ∧ True ∧ True ∧ True ∧ True ∧ True ∧ True ∧ True ∧ True ∧ True ∧ True ∧ True ∧ True ∧ True ∧ True ∧ True ∧ True ∧ True
    ∧ True ∧ True ∧ True ∧ True ∧ True ∧ True ∧ True ∧ True ∧ True ∧ True ∧ True ∧ True ∧ True ∧ True ∧ True ∧ True ∧ True ∧ True ∧ True ∧ True ∧ True ∧ True ∧ True
    ∧ True ∧ True ∧ True ∧ True ∧ True ∧ True ∧ True ∧ True ∧ True ∧ True ∧ True ∧ True ∧ True) ∧ ((if false = true then [] else List.map Seg.shape [Seg.s (SV.int IntKind.i64
    t.radius), Seg.s SV.opq, Seg.s SV.opq, Seg.s (SV.int IntKind.i64 t.gx), Seg.s (SV.int IntKind.i64 t.gy), Seg.s (SV.int IntKind.i64 t.drag), Seg.s (SV.int IntKind.i64
    t.shift), Seg.s SV.opq, Seg.s SV.opq, Seg.s SV.opq, Seg.s SV.opq, Seg.s SV.opq, Seg.s (SV.ros ((0 : Nat) + (1 : Nat) + (1 : Nat) + (1 : Nat) + (1 : Nat) + (1 : Nat)
    + (1 : Nat) + (1 : Nat) + (1 : Nat) + (1 : Nat)) t.zones.length fun i => codZ.enc (t.zones.getD i codZ.dft)), Seg.s SV.opq, Seg.s SV.opq, Seg.s SV.opq, Seg.s SV.opq,
    Seg.s SV.opq]) = if false = true then [] else List.map Seg.shape [Seg.s (SV.int IntKind.i64 t.radius), Seg.s SV.opq, Seg.s SV.opq, Seg.s (SV.int IntKind.i64 t.gx),
    Seg.s (SV.int IntKind.i64 t.gy), Seg.s (SV.int IntKind.i64 t.drag), Seg.s (SV.int IntKind.i64 t.shift), Seg.s SV.opq, Seg.s SV.opq, Seg.s SV.opq, Seg.s SV.opq, Seg.s
    SV.opq, Seg.s (SV.ros ((0 : Nat) + (1 : Nat) + (1 : Nat) + (1 : Nat) + (1 : Nat) + (1 : Nat) + (1 : Nat) + (1 : Nat) + (1 : Nat) + (1 : Nat)) t.zones.length fun
    i => codZ.enc (t.zones.getD i codZ.dft)), Seg.s SV.opq, Seg.s SV.opq, Seg.s SV.opq, Seg.s SV.opq, Seg.s SV.opq]) ∧ (t.radius = t.radius ∧ True ∧ True ∧ t.gx = t.gx
    ∧ t.gy = t.gy ∧ t.drag = t.drag ∧ t.shift = t.shift ∧ True ∧ True ∧ True ∧ True ∧ True ∧ (t.zones.length = t.zones.length ∧ ∀ (i : Nat), i < t.zones.length → (t.zones.getD
    i codZ.dft).name = (t.zones.getD i codZ.dft).name ∧ (t.zones.getD i codZ.dft).level = (t.zones.getD i codZ.dft).level ∧ (t.zones.getD i codZ.dft).lox = (t.zones.getD
    i codZ.dft).lox ∧ (t.zones.getD i codZ.dft).loy = (t.zones.getD i codZ.dft).loy ∧ (t.zones.getD i codZ.dft).hix = (t.zones.getD i codZ.dft).hix ∧ (t.zones.getD i
    codZ.dft).hiy = (t.zones.getD i codZ.dft).hiy ∧ (t.zones.getD i codZ.dft).hx = (t.zones.getD i codZ.dft).hx ∧ (t.zones.getD i codZ.dft).hy = (t.zones.getD i codZ.dft).hy
    ∧ (t.zones.getD i codZ.dft).coil = (t.zones.getD i codZ.dft).coil ∧ True) ∧ True ∧ True ∧ True ∧ True ∧ True ∧ True) ∧ ((if false = true then [] else List.map Seg.shape
    [Seg.s (SV.int IntKind.i64 x), Seg.s (SV.int IntKind.i64 y)]) = if false = true then [] else List.map Seg.shape [Seg.s (SV.int IntKind.i64 x), Seg.s (SV.int IntKind.i64
    y)]) ∧ (x = x ∧ y = y ∧ True) ∧ ((if false = true then [] else List.map Seg.shape ([Seg.s (SV.int IntKind.i64 (0 : Int))] ++ ([Seg.s (SV.int IntKind.i64 (0 : Int))]
    ++ ([Seg.s (SV.int IntKind.i64 (0 : Int))] ++ ([Seg.s (SV.int IntKind.i64 (0 : Int))] ++ ([Seg.s (SV.int IntKind.i64 (0 : Int))] ++ []) ++ ([Seg.s (SV.int IntKind.i64
    (0 : Int))] ++ ([Seg.s (SV.int IntKind.i64 (0 : Int))] ++ ([Seg.s SV.nils] ++ ([Seg.s SV.nils] ++ ([Seg.s SV.nils] ++ ([Seg.s SV.nils] ++ ([Seg.s SV.nils] ++ ([Seg.s
    SV.nils] ++ ([Seg.s SV.nils] ++ ([Seg.s SV.nils] ++ ([Seg.s SV.nils] ++ ([Seg.s SV.nils] ++ ([Seg.s SV.nils] ++ [])))))))))))))))))) = if false = true then [] else
    List.map Seg.shape ([Seg.s (SV.int IntKind.i64 (0 : Int))] ++ ([Seg.s (SV.int IntKind.i64 (0 : Int))] ++ ([Seg.s (SV.int IntKind.i64 (0 : Int))] ++ ([Seg.s (SV.int
    IntKind.i64 (0 : Int))] ++ ([Seg.s (SV.int IntKind.i64 (0 : Int))] ++ []) ++ ([Seg.s (SV.int IntKind.i64 (0 : Int))] ++ ([Seg.s (SV.int IntKind.i64 (0 : Int))] ++
    ([Seg.s SV.nils] ++ ([Seg.s SV.nils] ++ ([Seg.s SV.nils] ++ ([Seg.s SV.nils] ++ ([Seg.s SV.nils] ++ ([Seg.s SV.nils] ++ ([Seg.s SV.nils] ++ ([Seg.s SV.nils] ++ ([Seg.s
    SV.nils] ++ ([Seg.s SV.nils] ++ ([Seg.s SV.nils] ++ [])))))))))))))))))) ∧ (t.radius = t.radius ∧ True ∧ True ∧ t.gx = t.gx ∧ t.gy = t.gy ∧ t.drag = t.drag ∧ t.shift
    = t.shift ∧ True ∧ True ∧ True ∧ True ∧ True ∧ ((0 : Nat) = (0 : Nat) ∧ t.zones.length = t.zones.length) ∧ True ∧ True ∧ True ∧ True ∧ True ∧ True) ∧ ((if true =
    true then [] else List.map Seg.shape [Seg.a t.zones.length (9 : Nat) fun i => codZ.enc (t.zones.getD i codZ.dft)]) = if true = true then [] else List.map Seg.shape
    [Seg.a t.zones.length (9 : Nat) fun i => codZ.enc (t.zones.getD i codZ.dft)]) ∧ ((t.zones.length = t.zones.length ∧ (9 : Nat) = codZ.n ∧ ∀ (i : Nat), i < t.zones.length
    → (t.zones.getD i codZ.dft).name = ((rowL codZ t.zones.length fun i => codZ.enc (t.zones.getD i codZ.dft)).getD i codZ.dft).name ∧ (t.zones.getD i codZ.dft).level
    = ((rowL codZ t.zones.length fun i => codZ.enc (t.zones.getD i codZ.dft)).getD i codZ.dft).level ∧ (t.zones.getD i codZ.dft).lox = ((rowL codZ t.zones.length fun
    i => codZ.enc (t.zones.getD i codZ.dft)).getD i codZ.dft).lox ∧ (t.zones.getD i codZ.dft).loy = ((rowL codZ t.zones.length fun i => codZ.enc (t.zones.getD i codZ.dft)).getD
    i codZ.dft).loy ∧ (t.zones.getD i codZ.dft).hix = ((rowL codZ t.zones.length fun i => codZ.enc (t.zones.getD i codZ.dft)).getD i codZ.dft).hix ∧ (t.zones.getD i
    codZ.dft).hiy = ((rowL codZ t.zones.length fun i => codZ.enc (t.zones.getD i codZ.dft)).getD i codZ.dft).hiy ∧ (t.zones.getD i codZ.dft).hx = ((rowL codZ t.zones.length
    fun i => codZ.enc (t.zones.getD i codZ.dft)).getD i codZ.dft).hx ∧ (t.zones.getD i codZ.dft).hy = ((rowL codZ t.zones.length fun i => codZ.enc (t.zones.getD i codZ.dft)).getD
    i codZ.dft).hy ∧ (t.zones.getD i codZ.dft).coil = ((rowL codZ t.zones.length fun i => codZ.enc (t.zones.getD i codZ.dft)).getD i codZ.dft).coil ∧ True) ∧ True) ∧
    True) ∧ ∀ (n : Int) (l : List Zn), J6 t b (n, l) → True ∧ (decide (n < ↑t.zones.length) = true → ((0 : Int) ≤ n ∧ n < ↑t.zones.length) ∧ (0 : Nat) + n.toNat < t.zones.length
    ∧ True ∧ True ∧ (True ∧ True) ∧ ((!smB (l.getD ((0 : Nat) + n.toNat) codZ.dft).lox (l.getD ((0 : Nat) + n.toNat) codZ.dft).loy) = true → True ∧ (True ∧ True) ∧ True
    ∧ True ∧ true = true ∧ True) ∧ ((!smB (l.getD ((0 : Nat) + n.toNat) codZ.dft).lox (l.getD ((0 : Nat) + n.toNat) codZ.dft).loy) = false → True ∧ (True ∧ True) ∧ True
    ∧ ((!smB (l.getD ((0 : Nat) + n.toNat) codZ.dft).hix (l.getD ((0 : Nat) + n.toNat) codZ.dft).hiy) = true → (True ∧ True) ∧ True ∧ True ∧ true = true ∧ True) ∧ ((!smB
    (l.getD ((0 : Nat) + n.toNat) codZ.dft).hix (l.getD ((0 : Nat) + n.toNat) codZ.dft).hiy) = false → ((0 : Int) ≤ n ∧ n < ↑t.zones.length) ∧ (0 : Nat) + n.toNat <
    t.zones.length ∧ ((0 : Int) ≤ n ∧ n < ↑t.zones.length) ∧ (0 : Nat) + n.toNat < t.zones.length ∧ IsT true ∧ True ∧ True ∧ True ∧ True ∧ ((((true = true ∧ true = true
    ∧ true = true ∧ true = true ∧ true = true ∧ true = true ∧ true = true ∧ true = true ∧ true = true ∧ true = true ∧ true = true ∧ true = true) ∧ ∀ (i : Nat), i < t.zones.length
    → true = true ∧ True) ∧ True ∧ True ∧ True) ∧ (rowL codZ t.zones.length fun i => codZ.enc (t.zones.getD i codZ.dft)).length ≤ (1000 : Nat)) ∧ True ∧ True ∧ (((0
    : Int) ≤ (0 : Int) ∧ (0 : Int) ≤ ↑t.zones.length) ∧ ((t.radius = t.radius ∧ True ∧ True ∧ t.gx = t.gx ∧ t.gy = t.gy ∧ t.drag = t.drag ∧ t.shift = t.shift ∧ True
    ∧ True ∧ True ∧ True ∧ True ∧ (t.zones.length = t.zones.length ∧ ∀ (i : Nat), i < t.zones.length → (t.zones.getD i codZ.dft).name = (t.zones.getD i codZ.dft).name
    ∧ (t.zones.getD i codZ.dft).level = (t.zones.getD i codZ.dft).level ∧ (t.zones.getD i codZ.dft).lox = (t.zones.getD i codZ.dft).lox ∧ (t.zones.getD i codZ.dft).loy
    = (t.zones.getD i codZ.dft).loy ∧ (t.zones.getD i codZ.dft).hix = (t.zones.getD i codZ.dft).hix ∧ (t.zones.getD i codZ.dft).hiy = (t.zones.getD i codZ.dft).hiy ∧
    (t.zones.getD i codZ.dft).hx = (t.zones.getD i codZ.dft).hx ∧ (t.zones.getD i codZ.dft).hy = (t.zones.getD i codZ.dft).hy ∧ (t.zones.getD i codZ.dft).coil = (t.zones.getD
    i codZ.dft).coil ∧ True) ∧ True ∧ True ∧ True ∧ True ∧ True ∧ True) ∧ (x = x ∧ y = y ∧ True) ∧ b = b ∧ True ∧ True ∧ True ∧ True ∧ True ∧ n = n ∧ True ∧ ((zonL { radius := t.radius, gx := t.gx, gy := t.gy, drag := t.drag, shift := t.shift, zones := rowL codZ t.zones.length fun i => codZ.enc (t.zones.getD i codZ.dft) : Tb }
    (4294967295 : Int) (l.getD ((0 : Nat) + n.toNat) codZ.dft).level (l.getD ((0 : Nat) + n.toNat) codZ.dft).lox (l.getD ((0 : Nat) + n.toNat) codZ.dft).loy).length
    = (zonL { radius := t.radius, gx := t.gx, gy := t.gy, drag := t.drag, shift := t.shift, zones := rowL codZ t.zones.length fun i => codZ.enc (t.zones.getD i codZ.dft) : Tb }
    (4294967295 : Int) (l.getD ((0 : Nat) + n.toNat) codZ.dft).level (l.getD ((0 : Nat) + n.toNat) codZ.dft).lox (l.getD ((0 : Nat) + n.toNat) codZ.dft).loy).length
    ∧ ∀ (i : Nat), i < (zonL { radius := t.radius, gx := t.gx, gy := t.gy, drag := t.drag, shift := t.shift, zones := rowL codZ t.zones.length fun i => codZ.enc (t.zones.getD i codZ.dft) : Tb }
    (4294967295 : Int) (l.getD ((0 : Nat) + n.toNat) codZ.dft).level (l.getD ((0 : Nat) + n.toNat) codZ.dft).lox (l.getD ((0 : Nat) + n.toNat) codZ.dft).loy).length
    → (zonL { radius := t.radius, gx := t.gx, gy := t.gy, drag := t.drag, shift := t.shift, zones := rowL codZ t.zones.length fun i => codZ.enc (t.zones.getD i codZ.dft) : Tb }
    (4294967295 : Int) (l.getD ((0 : Nat) + n.toNat) codZ.dft).level (l.getD ((0 : Nat) + n.toNat) codZ.dft).lox (l.getD ((0 : Nat) + n.toNat) codZ.dft).loy).getD i
    (codI IntKind.i64).dft = (zonL { radius := t.radius, gx := t.gx, gy := t.gy, drag := t.drag, shift := t.shift, zones := rowL codZ t.zones.length fun i => codZ.enc (t.zones.getD i codZ.dft) : Tb }
    (4294967295 : Int) (l.getD ((0 : Nat) + n.toNat) codZ.dft).level (l.getD ((0 : Nat) + n.toNat) codZ.dft).lox (l.getD ((0 : Nat) + n.toNat) codZ.dft).loy).getD i
    (codI IntKind.i64).dft ∧ True) ∧ (0 : Int) = (0 : Int) ∧ True ∧ true = true ∧ True ∧ (t.radius = t.radius ∧ True ∧ True ∧ t.gx = t.gx ∧ t.gy = t.gy ∧ t.drag = t.drag
    ∧ t.shift = t.shift ∧ True ∧ True ∧ True ∧ True ∧ True ∧ (t.zones.length = t.zones.length ∧ ∀ (i : Nat), i < t.zones.length → (t.zones.getD i codZ.dft).name = (t.zones.getD
    i codZ.dft).name ∧ (t.zones.getD i codZ.dft).level = (t.zones.getD i codZ.dft).level ∧ (t.zones.getD i codZ.dft).lox = (t.zones.getD i codZ.dft).lox ∧ (t.zones.getD
    i codZ.dft).loy = (t.zones.getD i codZ.dft).loy ∧ (t.zones.getD i codZ.dft).hix = (t.zones.getD i codZ.dft).hix ∧ (t.zones.getD i codZ.dft).hiy = (t.zones.getD i
    codZ.dft).hiy ∧ (t.zones.getD i codZ.dft).hx = (t.zones.getD i codZ.dft).hx ∧ (t.zones.getD i codZ.dft).hy = (t.zones.getD i codZ.dft).hy ∧ (t.zones.getD i codZ.dft).coil
    = (t.zones.getD i codZ.dft).coil ∧ True) ∧ True ∧ True ∧ True ∧ True ∧ True ∧ True) ∧ fewB { radius := t.radius, gx := t.gx, gy := t.gy, drag := t.drag, shift := t.shift, zones := rowL codZ t.zones.length fun i => codZ.enc (t.zones.getD i codZ.dft) : Tb }
    = fewB { radius := t.radius, gx := t.gx, gy := t.gy, drag := t.drag, shift := t.shift, zones := rowL codZ t.zones.length fun i => codZ.enc (t.zones.getD i codZ.dft) : Tb }
    ∧ (!fewB { radius := t.radius, gx := t.gx, gy := t.gy, drag := t.drag, shift := t.shift, zones := rowL codZ t.zones.length fun i => codZ.enc (t.zones.getD i codZ.dft) : Tb })
    = !fewB { radius := t.radius, gx := t.gx, gy := t.gy, drag := t.drag, shift := t.shift, zones := rowL codZ t.zones.length fun i => codZ.enc (t.zones.getD i codZ.dft) : Tb }
    ∧ True ∧ (x = x ∧ y = y ∧ True) ∧ smB x y = smB x y ∧ (!smB x y) = !smB x y ∧ (!smB x y) = !smB x y ∧ True ∧ b = b ∧ decide (b < (-1073741824 : Int)) = decide (b
    < (-1073741824 : Int)) ∧ decide (b < (-1073741824 : Int)) = decide (b < (-1073741824 : Int)) ∧ True ∧ b = b ∧ decide (b > (1073741824 : Int)) = decide (b > (1073741824
    : Int)) ∧ True ∧ True ∧ (t.radius = t.radius ∧ True ∧ True ∧ t.gx = t.gx ∧ t.gy = t.gy ∧ t.drag = t.drag ∧ t.shift = t.shift ∧ True ∧ True ∧ True ∧ True ∧ True ∧
    (t.zones.length = t.zones.length ∧ ∀ (i : Nat), i < t.zones.length → (t.zones.getD i codZ.dft).name = (t.zones.getD i codZ.dft).name ∧ (t.zones.getD i codZ.dft).level
    = (t.zones.getD i codZ.dft).level ∧ (t.zones.getD i codZ.dft).lox = (t.zones.getD i codZ.dft).lox ∧ (t.zones.getD i codZ.dft).loy = (t.zones.getD i codZ.dft).loy
    ∧ (t.zones.getD i codZ.dft).hix = (t.zones.getD i codZ.dft).hix ∧ (t.zones.getD i codZ.dft).hiy = (t.zones.getD i codZ.dft).hiy ∧ (t.zones.getD i codZ.dft).hx =
    (t.zones.getD i codZ.dft).hx ∧ (t.zones.getD i codZ.dft).hy = (t.zones.getD i codZ.dft).hy ∧ (t.zones.getD i codZ.dft).coil = (t.zones.getD i codZ.dft).coil ∧ True)
    ∧ True ∧ True ∧ True ∧ True ∧ True ∧ True) ∧ True ∧ (t.zones.length = t.zones.length ∧ ∀ (i : Nat), i < t.zones.length → (t.zones.getD i codZ.dft).name = (t.zones.getD
    i codZ.dft).name ∧ (t.zones.getD i codZ.dft).level = (t.zones.getD i codZ.dft).level ∧ (t.zones.getD i codZ.dft).lox = (t.zones.getD i codZ.dft).lox ∧ (t.zones.getD
    i codZ.dft).loy = (t.zones.getD i codZ.dft).loy ∧ (t.zones.getD i codZ.dft).hix = (t.zones.getD i codZ.dft).hix ∧ (t.zones.getD i codZ.dft).hiy = (t.zones.getD i
    codZ.dft).hiy ∧ (t.zones.getD i codZ.dft).hx = (t.zones.getD i codZ.dft).hx ∧ (t.zones.getD i codZ.dft).hy = (t.zones.getD i codZ.dft).hy ∧ (t.zones.getD i codZ.dft).coil
    = (t.zones.getD i codZ.dft).coil ∧ True) ∧ ((0 : Nat) = (0 : Nat) ∧ t.zones.length = t.zones.length) ∧ True ∧ n = n ∧ True ∧ ((0 : Nat) = (0 : Nat) ∧ t.zones.length
    = t.zones.length) ∧ Eq (α := Int) ↑t.zones.length ↑t.zones.length ∧ True ∧ True ∧ True ∧ True ∧ ((0 : Nat) = (0 : Nat) ∧ t.zones.length = t.zones.length) ∧ n = n
    ∧ (0 : Nat) + n.toNat = (0 : Nat) + n.toNat ∧ ((l.getD ((0 : Nat) + n.toNat) codZ.dft).name = (l.getD ((0 : Nat) + n.toNat) codZ.dft).name ∧ (l.getD ((0 : Nat) +
    n.toNat) codZ.dft).level = (l.getD ((0 : Nat) + n.toNat) codZ.dft).level ∧ (l.getD ((0 : Nat) + n.toNat) codZ.dft).lox = (l.getD ((0 : Nat) + n.toNat) codZ.dft).lox
    ∧ (l.getD ((0 : Nat) + n.toNat) codZ.dft).loy = (l.getD ((0 : Nat) + n.toNat) codZ.dft).loy ∧ (l.getD ((0 : Nat) + n.toNat) codZ.dft).hix = (l.getD ((0 : Nat) +
    n.toNat) codZ.dft).hix ∧ (l.getD ((0 : Nat) + n.toNat) codZ.dft).hiy = (l.getD ((0 : Nat) + n.toNat) codZ.dft).hiy ∧ (l.getD ((0 : Nat) + n.toNat) codZ.dft).hx =
    (l.getD ((0 : Nat) + n.toNat) codZ.dft).hx ∧ (l.getD ((0 : Nat) + n.toNat) codZ.dft).hy = (l.getD ((0 : Nat) + n.toNat) codZ.dft).hy ∧ (l.getD ((0 : Nat) + n.toNat)
    codZ.dft).coil = (l.getD ((0 : Nat) + n.toNat) codZ.dft).coil ∧ True) ∧ True ∧ ((l.getD ((0 : Nat) + n.toNat) codZ.dft).lox = (l.getD ((0 : Nat) + n.toNat) codZ.dft).lox
    ∧ (l.getD ((0 : Nat) + n.toNat) codZ.dft).loy = (l.getD ((0 : Nat) + n.toNat) codZ.dft).loy ∧ True) ∧ smB (l.getD ((0 : Nat) + n.toNat) codZ.dft).lox (l.getD ((0
    : Nat) + n.toNat) codZ.dft).loy = smB (l.getD ((0 : Nat) + n.toNat) codZ.dft).lox (l.getD ((0 : Nat) + n.toNat) codZ.dft).loy ∧ (!smB (l.getD ((0 : Nat) + n.toNat)
    codZ.dft).lox (l.getD ((0 : Nat) + n.toNat) codZ.dft).loy) = !smB (l.getD ((0 : Nat) + n.toNat) codZ.dft).lox (l.getD ((0 : Nat) + n.toNat) codZ.dft).loy ∧ True
    ∧ True ∧ ((l.getD ((0 : Nat) + n.toNat) codZ.dft).hix = (l.getD ((0 : Nat) + n.toNat) codZ.dft).hix ∧ (l.getD ((0 : Nat) + n.toNat) codZ.dft).hiy = (l.getD ((0 :
    Nat) + n.toNat) codZ.dft).hiy ∧ True) ∧ smB (l.getD ((0 : Nat) + n.toNat) codZ.dft).hix (l.getD ((0 : Nat) + n.toNat) codZ.dft).hiy = smB (l.getD ((0 : Nat) + n.toNat)
    codZ.dft).hix (l.getD ((0 : Nat) + n.toNat) codZ.dft).hiy ∧ (!smB (l.getD ((0 : Nat) + n.toNat) codZ.dft).hix (l.getD ((0 : Nat) + n.toNat) codZ.dft).hiy) = !smB
    (l.getD ((0 : Nat) + n.toNat) codZ.dft).hix (l.getD ((0 : Nat) + n.toNat) codZ.dft).hiy ∧ True ∧ True ∧ True ∧ ((0 : Nat) = (0 : Nat) ∧ t.zones.length = t.zones.length)
    ∧ n = n ∧ True ∧ ((0 : Nat) = (0 : Nat) ∧ t.zones.length = t.zones.length) ∧ n = n ∧ True ∧ True ∧ (l.getD ((0 : Nat) + n.toNat) codZ.dft).lox = (l.getD ((0 : Nat)
    + n.toNat) codZ.dft).lox ∧ b = b ∧ W ((l.getD ((0 : Nat) + n.toNat) codZ.dft).lox + b) = W ((l.getD ((0 : Nat) + n.toNat) codZ.dft).lox + b) ∧ True ∧ True ∧ (l.getD
    ((0 : Nat) + n.toNat) codZ.dft).loy = (l.getD ((0 : Nat) + n.toNat) codZ.dft).loy ∧ b = b ∧ W ((l.getD ((0 : Nat) + n.toNat) codZ.dft).loy - b) = W ((l.getD ((0
    : Nat) + n.toNat) codZ.dft).loy - b) ∧ (W ((l.getD ((0 : Nat) + n.toNat) codZ.dft).lox + b) = W ((l.getD ((0 : Nat) + n.toNat) codZ.dft).lox + b) ∧ W ((l.getD ((0
    : Nat) + n.toNat) codZ.dft).loy - b) = W ((l.getD ((0 : Nat) + n.toNat) codZ.dft).loy - b) ∧ True) ∧ True ∧ True ∧ (l.getD ((0 : Nat) + n.toNat) codZ.dft).hix =
    (l.getD ((0 : Nat) + n.toNat) codZ.dft).hix ∧ b = b ∧ W ((l.getD ((0 : Nat) + n.toNat) codZ.dft).hix + b) = W ((l.getD ((0 : Nat) + n.toNat) codZ.dft).hix + b) ∧
    True ∧ True ∧ (l.getD ((0 : Nat) + n.toNat) codZ.dft).hiy = (l.getD ((0 : Nat) + n.toNat) codZ.dft).hiy ∧ b = b ∧ W ((l.getD ((0 : Nat) + n.toNat) codZ.dft).hiy
    - b) = W ((l.getD ((0 : Nat) + n.toNat) codZ.dft).hiy - b) ∧ (W ((l.getD ((0 : Nat) + n.toNat) codZ.dft).hix + b) = W ((l.getD ((0 : Nat) + n.toNat) codZ.dft).hix
    + b) ∧ W ((l.getD ((0 : Nat) + n.toNat) codZ.dft).hiy - b) = W ((l.getD ((0 : Nat) + n.toNat) codZ.dft).hiy - b) ∧ True) ∧ (0 : Nat) + n.toNat = (0 : Nat) + n.toNat
    ∧ (0 : Nat) + n.toNat = (0 : Nat) + n.toNat ∧ (0 : Nat) + n.toNat = (0 : Nat) + n.toNat ∧ (0 : Nat) + n.toNat = (0 : Nat) + n.toNat ∧ (t.radius = t.radius ∧ True
    ∧ True ∧ t.gx = t.gx ∧ t.gy = t.gy ∧ t.drag = t.drag ∧ t.shift = t.shift ∧ True ∧ True ∧ True ∧ True ∧ True ∧ (t.zones.length = t.zones.length ∧ ∀ (i : Nat), i <
    t.zones.length → (t.zones.getD i codZ.dft).name = (t.zones.getD i codZ.dft).name ∧ (t.zones.getD i codZ.dft).level = (t.zones.getD i codZ.dft).level ∧ (t.zones.getD
    i codZ.dft).lox = (t.zones.getD i codZ.dft).lox ∧ (t.zones.getD i codZ.dft).loy = (t.zones.getD i codZ.dft).loy ∧ (t.zones.getD i codZ.dft).hix = (t.zones.getD i
    codZ.dft).hix ∧ (t.zones.getD i codZ.dft).hiy = (t.zones.getD i codZ.dft).hiy ∧ (t.zones.getD i codZ.dft).hx = (t.zones.getD i codZ.dft).hx ∧ (t.zones.getD i codZ.dft).hy
    = (t.zones.getD i codZ.dft).hy ∧ (t.zones.getD i codZ.dft).coil = (t.zones.getD i codZ.dft).coil ∧ True) ∧ True ∧ True ∧ True ∧ True ∧ True ∧ True) ∧ True ∧ (l.getD
    ((0 : Nat) + n.toNat) codZ.dft).level = (l.getD ((0 : Nat) + n.toNat) codZ.dft).level ∧ True ∧ ((l.getD ((0 : Nat) + n.toNat) codZ.dft).lox = (l.getD ((0 : Nat)
    + n.toNat) codZ.dft).lox ∧ (l.getD ((0 : Nat) + n.toNat) codZ.dft).loy = (l.getD ((0 : Nat) + n.toNat) codZ.dft).loy ∧ True) ∧ ((zonL { radius := t.radius, gx := t.gx, gy := t.gy, drag := t.drag, shift := t.shift, zones := rowL codZ t.zones.length fun i => codZ.enc (t.zones.getD i codZ.dft) : Tb }
    (4294967295 : Int) (l.getD ((0 : Nat) + n.toNat) codZ.dft).level (l.getD ((0 : Nat) + n.toNat) codZ.dft).lox (l.getD ((0 : Nat) + n.toNat) codZ.dft).loy).length
    = (zonL { radius := t.radius, gx := t.gx, gy := t.gy, drag := t.drag, shift := t.shift, zones := rowL codZ t.zones.length fun i => codZ.enc (t.zones.getD i codZ.dft) : Tb }
    (4294967295 : Int) (l.getD ((0 : Nat) + n.toNat) codZ.dft).level (l.getD ((0 : Nat) + n.toNat) codZ.dft).lox (l.getD ((0 : Nat) + n.toNat) codZ.dft).loy).length
    ∧ ∀ (i : Nat), i < (zonL { radius := t.radius, gx := t.gx, gy := t.gy, drag := t.drag, shift := t.shift, zones := rowL codZ t.zones.length fun i => codZ.enc (t.zones.getD i codZ.dft) : Tb }
    (4294967295 : Int) (l.getD ((0 : Nat) + n.toNat) codZ.dft).level (l.getD ((0 : Nat) + n.toNat) codZ.dft).lox (l.getD ((0 : Nat) + n.toNat) codZ.dft).loy).length
    → (zonL { radius := t.radius, gx := t.gx, gy := t.gy, drag := t.drag, shift := t.shift, zones := rowL codZ t.zones.length fun i => codZ.enc (t.zones.getD i codZ.dft) : Tb }
    (4294967295 : Int) (l.getD ((0 : Nat) + n.toNat) codZ.dft).level (l.getD ((0 : Nat) + n.toNat) codZ.dft).lox (l.getD ((0 : Nat) + n.toNat) codZ.dft).loy).getD i
    (codI IntKind.i64).dft = (zonL { radius := t.radius, gx := t.gx, gy := t.gy, drag := t.drag, shift := t.shift, zones := rowL codZ t.zones.length fun i => codZ.enc (t.zones.getD i codZ.dft) : Tb }
    (4294967295 : Int) (l.getD ((0 : Nat) + n.toNat) codZ.dft).level (l.getD ((0 : Nat) + n.toNat) codZ.dft).lox (l.getD ((0 : Nat) + n.toNat) codZ.dft).loy).getD i
    (codI IntKind.i64).dft ∧ True) ∧ True ∧ True ∧ True ∧ True ∧ True ∧ True ∧ True ∧ True ∧ True ∧ True ∧ True ∧ True ∧ True ∧ True ∧ True ∧ True ∧ True ∧ True ∧ True
    ∧ True ∧ True ∧ True ∧ True ∧ True ∧ True ∧ True ∧ True ∧ True ∧ True) ∧ ((if false = true then [] else List.map Seg.shape [Seg.s (SV.int IntKind.i64 t.radius),
    Seg.s SV.opq, Seg.s SV.opq, Seg.s (SV.int IntKind.i64 t.gx), Seg.s (SV.int IntKind.i64 t.gy), Seg.s (SV.int IntKind.i64 t.drag), Seg.s (SV.int IntKind.i64 t.shift),
    Seg.s SV.opq, Seg.s SV.opq, Seg.s SV.opq, Seg.s SV.opq, Seg.s SV.opq, Seg.s (SV.ros ((0 : Nat) + (1 : Nat) + (1 : Nat) + (1 : Nat) + (1 : Nat) + (1 : Nat) + (1 :
    Nat) + (1 : Nat) + (1 : Nat) + (1 : Nat)) t.zones.length fun i => codZ.enc (t.zones.getD i codZ.dft)), Seg.s SV.opq, Seg.s SV.opq, Seg.s SV.opq, Seg.s SV.opq, Seg.s
    SV.opq]) = if false = true then [] else List.map Seg.shape [Seg.s (SV.int IntKind.i64 t.radius), Seg.s SV.opq, Seg.s SV.opq, Seg.s (SV.int IntKind.i64 t.gx), Seg.s
    (SV.int IntKind.i64 t.gy), Seg.s (SV.int IntKind.i64 t.drag), Seg.s (SV.int IntKind.i64 t.shift), Seg.s SV.opq, Seg.s SV.opq, Seg.s SV.opq, Seg.s SV.opq, Seg.s SV.opq,
    Seg.s (SV.ros ((0 : Nat) + (1 : Nat) + (1 : Nat) + (1 : Nat) + (1 : Nat) + (1 : Nat) + (1 : Nat) + (1 : Nat) + (1 : Nat) + (1 : Nat)) t.zones.length fun i => codZ.enc
    (t.zones.getD i codZ.dft)), Seg.s SV.opq, Seg.s SV.opq, Seg.s SV.opq, Seg.s SV.opq, Seg.s SV.opq]) ∧ (t.radius = t.radius ∧ True ∧ True ∧ t.gx = t.gx ∧ t.gy = t.gy
    ∧ t.drag = t.drag ∧ t.shift = t.shift ∧ True ∧ True ∧ True ∧ True ∧ True ∧ (t.zones.length = t.zones.length ∧ ∀ (i : Nat), i < t.zones.length → (t.zones.getD i codZ.dft).name
    = (t.zones.getD i codZ.dft).name ∧ (t.zones.getD i codZ.dft).level = (t.zones.getD i codZ.dft).level ∧ (t.zones.getD i codZ.dft).lox = (t.zones.getD i codZ.dft).lox
    ∧ (t.zones.getD i codZ.dft).loy = (t.zones.getD i codZ.dft).loy ∧ (t.zones.getD i codZ.dft).hix = (t.zones.getD i codZ.dft).hix ∧ (t.zones.getD i codZ.dft).hiy =
    (t.zones.getD i codZ.dft).hiy ∧ (t.zones.getD i codZ.dft).hx = (t.zones.getD i codZ.dft).hx ∧ (t.zones.getD i codZ.dft).hy = (t.zones.getD i codZ.dft).hy ∧ (t.zones.getD
    i codZ.dft).coil = (t.zones.getD i codZ.dft).coil ∧ True) ∧ True ∧ True ∧ True ∧ True ∧ True ∧ True) ∧ ((if false = true then [] else List.map Seg.shape [Seg.s (SV.int
    IntKind.i64 x), Seg.s (SV.int IntKind.i64 y)]) = if false = true then [] else List.map Seg.shape [Seg.s (SV.int IntKind.i64 x), Seg.s (SV.int IntKind.i64 y)]) ∧
    (x = x ∧ y = y ∧ True) ∧ ((if false = true then [] else List.map Seg.shape ([Seg.s (SV.int IntKind.i64 (0 : Int))] ++ ([Seg.s (SV.int IntKind.i64 (0 : Int))] ++
    ([Seg.s (SV.int IntKind.i64 (0 : Int))] ++ ([Seg.s (SV.int IntKind.i64 (0 : Int))] ++ ([Seg.s (SV.int IntKind.i64 (0 : Int))] ++ []) ++ ([Seg.s (SV.int IntKind.i64
    (0 : Int))] ++ ([Seg.s (SV.int IntKind.i64 (0 : Int))] ++ ([Seg.s SV.nils] ++ ([Seg.s SV.nils] ++ ([Seg.s SV.nils] ++ ([Seg.s SV.nils] ++ ([Seg.s SV.nils] ++ ([Seg.s
    SV.nils] ++ ([Seg.s SV.nils] ++ ([Seg.s SV.nils] ++ ([Seg.s SV.nils] ++ ([Seg.s SV.nils] ++ ([Seg.s SV.nils] ++ [])))))))))))))))))) = if false = true then [] else
    List.map Seg.shape ([Seg.s (SV.int IntKind.i64 (0 : Int))] ++ ([Seg.s (SV.int IntKind.i64 (0 : Int))] ++ ([Seg.s (SV.int IntKind.i64 (0 : Int))] ++ ([Seg.s (SV.int
    IntKind.i64 (0 : Int))] ++ ([Seg.s (SV.int IntKind.i64 (0 : Int))] ++ []) ++ ([Seg.s (SV.int IntKind.i64 (0 : Int))] ++ ([Seg.s (SV.int IntKind.i64 (0 : Int))] ++
    ([Seg.s SV.nils] ++ ([Seg.s SV.nils] ++ ([Seg.s SV.nils] ++ ([Seg.s SV.nils] ++ ([Seg.s SV.nils] ++ ([Seg.s SV.nils] ++ ([Seg.s SV.nils] ++ ([Seg.s SV.nils] ++ ([Seg.s
    SV.nils] ++ ([Seg.s SV.nils] ++ ([Seg.s SV.nils] ++ [])))))))))))))))))) ∧ (t.radius = t.radius ∧ True ∧ True ∧ t.gx = t.gx ∧ t.gy = t.gy ∧ t.drag = t.drag ∧ t.shift
    = t.shift ∧ True ∧ True ∧ True ∧ True ∧ True ∧ ((0 : Nat) = (0 : Nat) ∧ t.zones.length = t.zones.length) ∧ True ∧ True ∧ True ∧ True ∧ True ∧ True) ∧ ((if true =
    true then [] else List.map Seg.shape [Seg.a t.zones.length (9 : Nat) fun i => codZ.enc (t.zones.getD i codZ.dft)]) = if true = true then [] else List.map Seg.shape
    [Seg.a t.zones.length (9 : Nat) fun i => codZ.enc (t.zones.getD i codZ.dft)]) ∧ ((t.zones.length = t.zones.length ∧ (0 : Nat) + (1 : Nat) + (1 : Nat) + (1 : Nat)
    + (1 : Nat) + (1 : Nat) + (1 : Nat) + (1 : Nat) + (1 : Nat) + (1 : Nat) = (0 : Nat) + (1 : Nat) + (1 : Nat) + (1 : Nat) + (1 : Nat) + (1 : Nat) + (1 : Nat) + (1
    : Nat) + (1 : Nat) + (1 : Nat) ∧ ∀ (i : Nat), i < t.zones.length → ((if decide (i = (0 : Nat) + n.toNat) = true then if decide ((0 : Nat) + n.toNat = (0 : Nat) +
    n.toNat) = true then (l.getD ((0 : Nat) + n.toNat) codZ.dft).name else (l.getD ((0 : Nat) + n.toNat) codZ.dft).name else if decide (i = (0 : Nat) + n.toNat) = true
    then (l.getD ((0 : Nat) + n.toNat) codZ.dft).name else (l.getD i codZ.dft).name) = if decide (i = (0 : Nat) + n.toNat) = true then if decide ((0 : Nat) + n.toNat
    = (0 : Nat) + n.toNat) = true then (l.getD ((0 : Nat) + n.toNat) codZ.dft).name else (l.getD ((0 : Nat) + n.toNat) codZ.dft).name else if decide (i = (0 : Nat) +
    n.toNat) = true then (l.getD ((0 : Nat) + n.toNat) codZ.dft).name else (l.getD i codZ.dft).name) ∧ ((if decide (i = (0 : Nat) + n.toNat) = true then if decide ((0
    : Nat) + n.toNat = (0 : Nat) + n.toNat) = true then (l.getD ((0 : Nat) + n.toNat) codZ.dft).level else (l.getD ((0 : Nat) + n.toNat) codZ.dft).level else if decide
    (i = (0 : Nat) + n.toNat) = true then (l.getD ((0 : Nat) + n.toNat) codZ.dft).level else (l.getD i codZ.dft).level) = if decide (i = (0 : Nat) + n.toNat) = true
    then if decide ((0 : Nat) + n.toNat = (0 : Nat) + n.toNat) = true then (l.getD ((0 : Nat) + n.toNat) codZ.dft).level else (l.getD ((0 : Nat) + n.toNat) codZ.dft).level
    else if decide (i = (0 : Nat) + n.toNat) = true then (l.getD ((0 : Nat) + n.toNat) codZ.dft).level else (l.getD i codZ.dft).level) ∧ ((if decide (i = (0 : Nat) +
    n.toNat) = true then if decide ((0 : Nat) + n.toNat = (0 : Nat) + n.toNat) = true then W ((l.getD ((0 : Nat) + n.toNat) codZ.dft).lox + b) else (l.getD ((0 : Nat)
    + n.toNat) codZ.dft).lox else if decide (i = (0 : Nat) + n.toNat) = true then W ((l.getD ((0 : Nat) + n.toNat) codZ.dft).lox + b) else (l.getD i codZ.dft).lox) =
    if decide (i = (0 : Nat) + n.toNat) = true then if decide ((0 : Nat) + n.toNat = (0 : Nat) + n.toNat) = true then W ((l.getD ((0 : Nat) + n.toNat) codZ.dft).lox
    + b) else (l.getD ((0 : Nat) + n.toNat) codZ.dft).lox else if decide (i = (0 : Nat) + n.toNat) = true then W ((l.getD ((0 : Nat) + n.toNat) codZ.dft).lox + b) else
    (l.getD i codZ.dft).lox) ∧ ((if decide (i = (0 : Nat) + n.toNat) = true then if decide ((0 : Nat) + n.toNat = (0 : Nat) + n.toNat) = true then W ((l.getD ((0 : Nat)
    + n.toNat) codZ.dft).loy - b) else (l.getD ((0 : Nat) + n.toNat) codZ.dft).loy else if decide (i = (0 : Nat) + n.toNat) = true then W ((l.getD ((0 : Nat) + n.toNat)
    codZ.dft).loy - b) else (l.getD i codZ.dft).loy) = if decide (i = (0 : Nat) + n.toNat) = true then if decide ((0 : Nat) + n.toNat = (0 : Nat) + n.toNat) = true then
    W ((l.getD ((0 : Nat) + n.toNat) codZ.dft).loy - b) else (l.getD ((0 : Nat) + n.toNat) codZ.dft).loy else if decide (i = (0 : Nat) + n.toNat) = true then W ((l.getD
    ((0 : Nat) + n.toNat) codZ.dft).loy - b) else (l.getD i codZ.dft).loy) ∧ ((if decide (i = (0 : Nat) + n.toNat) = true then W ((l.getD ((0 : Nat) + n.toNat) codZ.dft).hix
    + b) else if decide (i = (0 : Nat) + n.toNat) = true then (l.getD ((0 : Nat) + n.toNat) codZ.dft).hix else (l.getD i codZ.dft).hix) = if decide (i = (0 : Nat) +
    n.toNat) = true then W ((l.getD ((0 : Nat) + n.toNat) codZ.dft).hix + b) else if decide (i = (0 : Nat) + n.toNat) = true then (l.getD ((0 : Nat) + n.toNat) codZ.dft).hix
    else (l.getD i codZ.dft).hix) ∧ ((if decide (i = (0 : Nat) + n.toNat) = true then W ((l.getD ((0 : Nat) + n.toNat) codZ.dft).hiy - b) else if decide (i = (0 : Nat)
    + n.toNat) = true then (l.getD ((0 : Nat) + n.toNat) codZ.dft).hiy else (l.getD i codZ.dft).hiy) = if decide (i = (0 : Nat) + n.toNat) = true then W ((l.getD ((0
    : Nat) + n.toNat) codZ.dft).hiy - b) else if decide (i = (0 : Nat) + n.toNat) = true then (l.getD ((0 : Nat) + n.toNat) codZ.dft).hiy else (l.getD i codZ.dft).hiy)
    ∧ ((if decide (i = (0 : Nat) + n.toNat) = true then if decide ((0 : Nat) + n.toNat = (0 : Nat) + n.toNat) = true then (l.getD ((0 : Nat) + n.toNat) codZ.dft).hx
    else (l.getD ((0 : Nat) + n.toNat) codZ.dft).hx else if decide (i = (0 : Nat) + n.toNat) = true then (l.getD ((0 : Nat) + n.toNat) codZ.dft).hx else (l.getD i codZ.dft).hx)
    = if decide (i = (0 : Nat) + n.toNat) = true then if decide ((0 : Nat) + n.toNat = (0 : Nat) + n.toNat) = true then (l.getD ((0 : Nat) + n.toNat) codZ.dft).hx else
    (l.getD ((0 : Nat) + n.toNat) codZ.dft).hx else if decide (i = (0 : Nat) + n.toNat) = true then (l.getD ((0 : Nat) + n.toNat) codZ.dft).hx else (l.getD i codZ.dft).hx)
    ∧ ((if decide (i = (0 : Nat) + n.toNat) = true then if decide ((0 : Nat) + n.toNat = (0 : Nat) + n.toNat) = true then (l.getD ((0 : Nat) + n.toNat) codZ.dft).hy
    else (l.getD ((0 : Nat) + n.toNat) codZ.dft).hy else if decide (i = (0 : Nat) + n.toNat) = true then (l.getD ((0 : Nat) + n.toNat) codZ.dft).hy else (l.getD i codZ.dft).hy)
    = if decide (i = (0 : Nat) + n.toNat) = true then if decide ((0 : Nat) + n.toNat = (0 : Nat) + n.toNat) = true then (l.getD ((0 : Nat) + n.toNat) codZ.dft).hy else
    (l.getD ((0 : Nat) + n.toNat) codZ.dft).hy else if decide (i = (0 : Nat) + n.toNat) = true then (l.getD ((0 : Nat) + n.toNat) codZ.dft).hy else (l.getD i codZ.dft).hy)
    ∧ ((if decide (i = (0 : Nat) + n.toNat) = true then if decide ((0 : Nat) + n.toNat = (0 : Nat) + n.toNat) = true then (l.getD ((0 : Nat) + n.toNat) codZ.dft).coil
    else (l.getD ((0 : Nat) + n.toNat) codZ.dft).coil else if decide (i = (0 : Nat) + n.toNat) = true then (l.getD ((0 : Nat) + n.toNat) codZ.dft).coil else (l.getD
    i codZ.dft).coil) = if decide (i = (0 : Nat) + n.toNat) = true then if decide ((0 : Nat) + n.toNat = (0 : Nat) + n.toNat) = true then (l.getD ((0 : Nat) + n.toNat)
    codZ.dft).coil else (l.getD ((0 : Nat) + n.toNat) codZ.dft).coil else if decide (i = (0 : Nat) + n.toNat) = true then (l.getD ((0 : Nat) + n.toNat) codZ.dft).coil
    else (l.getD i codZ.dft).coil) ∧ True) ∧ True) ∧ ((if false = true then [] else List.map Seg.shape ([Seg.s (SV.str [])] ++ ([Seg.s (SV.int IntKind.i64 (0 : Int))]
    ++ ([Seg.s (SV.int IntKind.i64 (0 : Int))] ++ ([Seg.s (SV.int IntKind.i64 (0 : Int))] ++ []) ++ ([Seg.s (SV.int IntKind.i64 (0 : Int))] ++ ([Seg.s (SV.int IntKind.i64
    (0 : Int))] ++ []) ++ ([Seg.s (SV.int IntKind.i64 (0 : Int))] ++ ([Seg.s (SV.int IntKind.i64 (0 : Int))] ++ []) ++ ([Seg.s (SV.int IntKind.i64 (0 : Int))] ++ [])))))))
    = if false = true then [] else List.map Seg.shape ([Seg.s (SV.str [])] ++ ([Seg.s (SV.int IntKind.i64 (0 : Int))] ++ ([Seg.s (SV.int IntKind.i64 (0 : Int))] ++ ([Seg.s
    (SV.int IntKind.i64 (0 : Int))] ++ []) ++ ([Seg.s (SV.int IntKind.i64 (0 : Int))] ++ ([Seg.s (SV.int IntKind.i64 (0 : Int))] ++ []) ++ ([Seg.s (SV.int IntKind.i64
    (0 : Int))] ++ ([Seg.s (SV.int IntKind.i64 (0 : Int))] ++ []) ++ ([Seg.s (SV.int IntKind.i64 (0 : Int))] ++ []))))))) ∧ ((l.getD ((0 : Nat) + n.toNat) codZ.dft).name
    = (l.getD ((0 : Nat) + n.toNat) codZ.dft).name ∧ (l.getD ((0 : Nat) + n.toNat) codZ.dft).level = (l.getD ((0 : Nat) + n.toNat) codZ.dft).level ∧ (l.getD ((0 : Nat)
    + n.toNat) codZ.dft).lox = (l.getD ((0 : Nat) + n.toNat) codZ.dft).lox ∧ (l.getD ((0 : Nat) + n.toNat) codZ.dft).loy = (l.getD ((0 : Nat) + n.toNat) codZ.dft).loy
    ∧ (l.getD ((0 : Nat) + n.toNat) codZ.dft).hix = (l.getD ((0 : Nat) + n.toNat) codZ.dft).hix ∧ (l.getD ((0 : Nat) + n.toNat) codZ.dft).hiy = (l.getD ((0 : Nat) +
    n.toNat) codZ.dft).hiy ∧ (l.getD ((0 : Nat) + n.toNat) codZ.dft).hx = (l.getD ((0 : Nat) + n.toNat) codZ.dft).hx ∧ (l.getD ((0 : Nat) + n.toNat) codZ.dft).hy = (l.getD
    ((0 : Nat) + n.toNat) codZ.dft).hy ∧ (l.getD ((0 : Nat) + n.toNat) codZ.dft).coil = (l.getD ((0 : Nat) + n.toNat) codZ.dft).coil ∧ True) ∧ True) ∧ ∀ (n_1 : Int),
    (0 : Int) ≤ n_1 ∧ n_1 ≤ ↑t.zones.length → True ∧ (decide (n_1 < ↑(zonL { radius := t.radius, gx := t.gx, gy := t.gy, drag := t.drag, shift := t.shift, zones := rowL codZ t.zones.length fun i => codZ.enc (t.zones.getD i codZ.dft) : Tb }
    (4294967295 : Int) (l.getD ((0 : Nat) + n.toNat) codZ.dft).level (l.getD ((0 : Nat) + n.toNat) codZ.dft).lox (l.getD ((0 : Nat) + n.toNat) codZ.dft).loy).length)
    = true → ((0 : Int) ≤ n_1 ∧ n_1 < ↑(zonL { radius := t.radius, gx := t.gx, gy := t.gy, drag := t.drag, shift := t.shift, zones := rowL codZ t.zones.length fun i => codZ.enc (t.zones.getD i codZ.dft) : Tb }
    (4294967295 : Int) (l.getD ((0 : Nat) + n.toNat) codZ.dft).level (l.getD ((0 : Nat) + n.toNat) codZ.dft).lox (l.getD ((0 : Nat) + n.toNat) codZ.dft).loy).length)
    ∧ True ∧ (((zonL { radius := t.radius, gx := t.gx, gy := t.gy, drag := t.drag, shift := t.shift, zones := rowL codZ t.zones.length fun i => codZ.enc (t.zones.getD i codZ.dft) : Tb }
    (4294967295 : Int) (l.getD ((0 : Nat) + n.toNat) codZ.dft).level (l.getD ((0 : Nat) + n.toNat) codZ.dft).lox (l.getD ((0 : Nat) + n.toNat) codZ.dft).loy).getD n_1.toNat
    (codI IntKind.i64).dft == n) = true → True ∧ True ∧ true = false ∧ True) ∧ (((zonL { radius := t.radius, gx := t.gx, gy := t.gy, drag := t.drag, shift := t.shift, zones := rowL codZ t.zones.length fun i => codZ.enc (t.zones.getD i codZ.dft) : Tb }
    (4294967295 : Int) (l.getD ((0 : Nat) + n.toNat) codZ.dft).level (l.getD ((0 : Nat) + n.toNat) codZ.dft).lox (l.getD ((0 : Nat) + n.toNat) codZ.dft).loy).getD n_1.toNat
    (codI IntKind.i64).dft == n) = false → True ∧ ((0 : Int) ≤ W (n_1 + (1 : Int)) ∧ W (n_1 + (1 : Int)) ≤ ↑t.zones.length) ∧ (↑t.zones.length - W (n_1 + (1 : Int))).toNat
    < (↑t.zones.length - n_1).toNat ∧ ((t.radius = t.radius ∧ True ∧ True ∧ t.gx = t.gx ∧ t.gy = t.gy ∧ t.drag = t.drag ∧ t.shift = t.shift ∧ True ∧ True ∧ True ∧ True
    ∧ True ∧ (t.zones.length = t.zones.length ∧ ∀ (i : Nat), i < t.zones.length → (t.zones.getD i codZ.dft).name = (t.zones.getD i codZ.dft).name ∧ (t.zones.getD i codZ.dft).level
    = (t.zones.getD i codZ.dft).level ∧ (t.zones.getD i codZ.dft).lox = (t.zones.getD i codZ.dft).lox ∧ (t.zones.getD i codZ.dft).loy = (t.zones.getD i codZ.dft).loy
    ∧ (t.zones.getD i codZ.dft).hix = (t.zones.getD i codZ.dft).hix ∧ (t.zones.getD i codZ.dft).hiy = (t.zones.getD i codZ.dft).hiy ∧ (t.zones.getD i codZ.dft).hx =
    (t.zones.getD i codZ.dft).hx ∧ (t.zones.getD i codZ.dft).hy = (t.zones.getD i codZ.dft).hy ∧ (t.zones.getD i codZ.dft).coil = (t.zones.getD i codZ.dft).coil ∧ True)
    ∧ True ∧ True ∧ True ∧ True ∧ True ∧ True) ∧ (x = x ∧ y = y ∧ True) ∧ b = b ∧ True ∧ True ∧ True ∧ True ∧ True ∧ n = n ∧ True ∧ ((zonL { radius := t.radius, gx := t.gx, gy := t.gy, drag := t.drag, shift := t.shift, zones := rowL codZ t.zones.length fun i => codZ.enc (t.zones.getD i codZ.dft) : Tb }
    (4294967295 : Int) (l.getD ((0 : Nat) + n.toNat) codZ.dft).level (l.getD ((0 : Nat) + n.toNat) codZ.dft).lox (l.getD ((0 : Nat) + n.toNat) codZ.dft).loy).length
    = (zonL { radius := t.radius, gx := t.gx, gy := t.gy, drag := t.drag, shift := t.shift, zones := rowL codZ t.zones.length fun i => codZ.enc (t.zones.getD i codZ.dft) : Tb }
    (4294967295 : Int) (l.getD ((0 : Nat) + n.toNat) codZ.dft).level (l.getD ((0 : Nat) + n.toNat) codZ.dft).lox (l.getD ((0 : Nat) + n.toNat) codZ.dft).loy).length
    ∧ ∀ (i : Nat), i < (zonL { radius := t.radius, gx := t.gx, gy := t.gy, drag := t.drag, shift := t.shift, zones := rowL codZ t.zones.length fun i => codZ.enc (t.zones.getD i codZ.dft) : Tb }
    (4294967295 : Int) (l.getD ((0 : Nat) + n.toNat) codZ.dft).level (l.getD ((0 : Nat) + n.toNat) codZ.dft).lox (l.getD ((0 : Nat) + n.toNat) codZ.dft).loy).length
    → (zonL { radius := t.radius, gx := t.gx, gy := t.gy, drag := t.drag, shift := t.shift, zones := rowL codZ t.zones.length fun i => codZ.enc (t.zones.getD i codZ.dft) : Tb }
    (4294967295 : Int) (l.getD ((0 : Nat) + n.toNat) codZ.dft).level (l.getD ((0 : Nat) + n.toNat) codZ.dft).lox (l.getD ((0 : Nat) + n.toNat) codZ.dft).loy).getD i
    (codI IntKind.i64).dft = (zonL { radius := t.radius, gx := t.gx, gy := t.gy, drag := t.drag, shift := t.shift, zones := rowL codZ t.zones.length fun i => codZ.enc (t.zones.getD i codZ.dft) : Tb }
    (4294967295 : Int) (l.getD ((0 : Nat) + n.toNat) codZ.dft).level (l.getD ((0 : Nat) + n.toNat) codZ.dft).lox (l.getD ((0 : Nat) + n.toNat) codZ.dft).loy).getD i
    (codI IntKind.i64).dft ∧ True) ∧ W (n_1 + (1 : Int)) = W (n_1 + (1 : Int)) ∧ True ∧ true = true ∧ True ∧ (t.radius = t.radius ∧ True ∧ True ∧ t.gx = t.gx ∧ t.gy
    = t.gy ∧ t.drag = t.drag ∧ t.shift = t.shift ∧ True ∧ True ∧ True ∧ True ∧ True ∧ (t.zones.length = t.zones.length ∧ ∀ (i : Nat), i < t.zones.length → (t.zones.getD
    i codZ.dft).name = (t.zones.getD i codZ.dft).name ∧ (t.zones.getD i codZ.dft).level = (t.zones.getD i codZ.dft).level ∧ (t.zones.getD i codZ.dft).lox = (t.zones.getD
    i codZ.dft).lox ∧ (t.zones.getD i codZ.dft).loy = (t.zones.getD i codZ.dft).loy ∧ (t.zones.getD i codZ.dft).hix = (t.zones.getD i codZ.dft).hix ∧ (t.zones.getD i
    codZ.dft).hiy = (t.zones.getD i codZ.dft).hiy ∧ (t.zones.getD i codZ.dft).hx = (t.zones.getD i codZ.dft).hx ∧ (t.zones.getD i codZ.dft).hy = (t.zones.getD i codZ.dft).hy
    ∧ (t.zones.getD i codZ.dft).coil = (t.zones.getD i codZ.dft).coil ∧ True) ∧ True ∧ True ∧ True ∧ True ∧ True ∧ True) ∧ fewB { radius := t.radius, gx := t.gx, gy := t.gy, drag := t.drag, shift := t.shift, zones := rowL codZ t.zones.length fun i => codZ.enc (t.zones.getD i codZ.dft) : Tb }
    = fewB { radius := t.radius, gx := t.gx, gy := t.gy, drag := t.drag, shift := t.shift, zones := rowL codZ t.zones.length fun i => codZ.enc (t.zones.getD i codZ.dft) : Tb }
    ∧ (!fewB { radius := t.radius, gx := t.gx, gy := t.gy, drag := t.drag, shift := t.shift, zones := rowL codZ t.zones.length fun i => codZ.enc (t.zones.getD i codZ.dft) : Tb })
    = !fewB { radius := t.radius, gx := t.gx, gy := t.gy, drag := t.drag, shift := t.shift, zones := rowL codZ t.zones.length fun i => codZ.enc (t.zones.getD i codZ.dft) : Tb }
    ∧ True ∧ (x = x ∧ y = y ∧ True) ∧ smB x y = smB x y ∧ (!smB x y) = !smB x y ∧ (!smB x y) = !smB x y ∧ True ∧ b = b ∧ decide (b < (-1073741824 : Int)) = decide (b
    < (-1073741824 : Int)) ∧ decide (b < (-1073741824 : Int)) = decide (b < (-1073741824 : Int)) ∧ True ∧ b = b ∧ decide (b > (1073741824 : Int)) = decide (b > (1073741824
    : Int)) ∧ True ∧ True ∧ (t.radius = t.radius ∧ True ∧ True ∧ t.gx = t.gx ∧ t.gy = t.gy ∧ t.drag = t.drag ∧ t.shift = t.shift ∧ True ∧ True ∧ True ∧ True ∧ True ∧
    (t.zones.length = t.zones.length ∧ ∀ (i : Nat), i < t.zones.length → (t.zones.getD i codZ.dft).name = (t.zones.getD i codZ.dft).name ∧ (t.zones.getD i codZ.dft).level
    = (t.zones.getD i codZ.dft).level ∧ (t.zones.getD i codZ.dft).lox = (t.zones.getD i codZ.dft).lox ∧ (t.zones.getD i codZ.dft).loy = (t.zones.getD i codZ.dft).loy
    ∧ (t.zones.getD i codZ.dft).hix = (t.zones.getD i codZ.dft).hix ∧ (t.zones.getD i codZ.dft).hiy = (t.zones.getD i codZ.dft).hiy ∧ (t.zones.getD i codZ.dft).hx =
    (t.zones.getD i codZ.dft).hx ∧ (t.zones.getD i codZ.dft).hy = (t.zones.getD i codZ.dft).hy ∧ (t.zones.getD i codZ.dft).coil = (t.zones.getD i codZ.dft).coil ∧ True)
    ∧ True ∧ True ∧ True ∧ True ∧ True ∧ True) ∧ True ∧ (t.zones.length = t.zones.length ∧ ∀ (i : Nat), i < t.zones.length → (t.zones.getD i codZ.dft).name = (t.zones.getD
    i codZ.dft).name ∧ (t.zones.getD i codZ.dft).level = (t.zones.getD i codZ.dft).level ∧ (t.zones.getD i codZ.dft).lox = (t.zones.getD i codZ.dft).lox ∧ (t.zones.getD
    i codZ.dft).loy = (t.zones.getD i codZ.dft).loy ∧ (t.zones.getD i codZ.dft).hix = (t.zones.getD i codZ.dft).hix ∧ (t.zones.getD i codZ.dft).hiy = (t.zones.getD i
    codZ.dft).hiy ∧ (t.zones.getD i codZ.dft).hx = (t.zones.getD i codZ.dft).hx ∧ (t.zones.getD i codZ.dft).hy = (t.zones.getD i codZ.dft).hy ∧ (t.zones.getD i codZ.dft).coil
    = (t.zones.getD i codZ.dft).coil ∧ True) ∧ ((0 : Nat) = (0 : Nat) ∧ t.zones.length = t.zones.length) ∧ True ∧ n = n ∧ True ∧ ((0 : Nat) = (0 : Nat) ∧ t.zones.length
    = t.zones.length) ∧ Eq (α := Int) ↑t.zones.length ↑t.zones.length ∧ True ∧ True ∧ True ∧ True ∧ ((0 : Nat) = (0 : Nat) ∧ t.zones.length = t.zones.length) ∧ n = n
    ∧ (0 : Nat) + n.toNat = (0 : Nat) + n.toNat ∧ ((l.getD ((0 : Nat) + n.toNat) codZ.dft).name = (l.getD ((0 : Nat) + n.toNat) codZ.dft).name ∧ (l.getD ((0 : Nat) +
    n.toNat) codZ.dft).level = (l.getD ((0 : Nat) + n.toNat) codZ.dft).level ∧ (l.getD ((0 : Nat) + n.toNat) codZ.dft).lox = (l.getD ((0 : Nat) + n.toNat) codZ.dft).lox
    ∧ (l.getD ((0 : Nat) + n.toNat) codZ.dft).loy = (l.getD ((0 : Nat) + n.toNat) codZ.dft).loy ∧ (l.getD ((0 : Nat) + n.toNat) codZ.dft).hix = (l.getD ((0 : Nat) +
    n.toNat) codZ.dft).hix ∧ (l.getD ((0 : Nat) + n.toNat) codZ.dft).hiy = (l.getD ((0 : Nat) + n.toNat) codZ.dft).hiy ∧ (l.getD ((0 : Nat) + n.toNat) codZ.dft).hx =
    (l.getD ((0 : Nat) + n.toNat) codZ.dft).hx ∧ (l.getD ((0 : Nat) + n.toNat) codZ.dft).hy = (l.getD ((0 : Nat) + n.toNat) codZ.dft).hy ∧ (l.getD ((0 : Nat) + n.toNat)
    codZ.dft).coil = (l.getD ((0 : Nat) + n.toNat) codZ.dft).coil ∧ True) ∧ True ∧ ((l.getD ((0 : Nat) + n.toNat) codZ.dft).lox = (l.getD ((0 : Nat) + n.toNat) codZ.dft).lox
    ∧ (l.getD ((0 : Nat) + n.toNat) codZ.dft).loy = (l.getD ((0 : Nat) + n.toNat) codZ.dft).loy ∧ True) ∧ smB (l.getD ((0 : Nat) + n.toNat) codZ.dft).lox (l.getD ((0
    : Nat) + n.toNat) codZ.dft).loy = smB (l.getD ((0 : Nat) + n.toNat) codZ.dft).lox (l.getD ((0 : Nat) + n.toNat) codZ.dft).loy ∧ (!smB (l.getD ((0 : Nat) + n.toNat)
    codZ.dft).lox (l.getD ((0 : Nat) + n.toNat) codZ.dft).loy) = !smB (l.getD ((0 : Nat) + n.toNat) codZ.dft).lox (l.getD ((0 : Nat) + n.toNat) codZ.dft).loy ∧ True
    ∧ True ∧ ((l.getD ((0 : Nat) + n.toNat) codZ.dft).hix = (l.getD ((0 : Nat) + n.toNat) codZ.dft).hix ∧ (l.getD ((0 : Nat) + n.toNat) codZ.dft).hiy = (l.getD ((0 :
    Nat) + n.toNat) codZ.dft).hiy ∧ True) ∧ smB (l.getD ((0 : Nat) + n.toNat) codZ.dft).hix (l.getD ((0 : Nat) + n.toNat) codZ.dft).hiy = smB (l.getD ((0 : Nat) + n.toNat)
    codZ.dft).hix (l.getD ((0 : Nat) + n.toNat) codZ.dft).hiy ∧ (!smB (l.getD ((0 : Nat) + n.toNat) codZ.dft).hix (l.getD ((0 : Nat) + n.toNat) codZ.dft).hiy) = !smB
    (l.getD ((0 : Nat) + n.toNat) codZ.dft).hix (l.getD ((0 : Nat) + n.toNat) codZ.dft).hiy ∧ True ∧ True ∧ True ∧ ((0 : Nat) = (0 : Nat) ∧ t.zones.length = t.zones.length)
    ∧ n = n ∧ True ∧ ((0 : Nat) = (0 : Nat) ∧ t.zones.length = t.zones.length) ∧ n = n ∧ True ∧ True ∧ (l.getD ((0 : Nat) + n.toNat) codZ.dft).lox = (l.getD ((0 : Nat)
    + n.toNat) codZ.dft).lox ∧ b = b ∧ W ((l.getD ((0 : Nat) + n.toNat) codZ.dft).lox + b) = W ((l.getD ((0 : Nat) + n.toNat) codZ.dft).lox + b) ∧ True ∧ True ∧ (l.getD
    ((0 : Nat) + n.toNat) codZ.dft).loy = (l.getD ((0 : Nat) + n.toNat) codZ.dft).loy ∧ b = b ∧ W ((l.getD ((0 : Nat) + n.toNat) codZ.dft).loy - b) = W ((l.getD ((0
    : Nat) + n.toNat) codZ.dft).loy - b) ∧ (W ((l.getD ((0 : Nat) + n.toNat) codZ.dft).lox + b) = W ((l.getD ((0 : Nat) + n.toNat) codZ.dft).lox + b) ∧ W ((l.getD ((0
    : Nat) + n.toNat) codZ.dft).loy - b) = W ((l.getD ((0 : Nat) + n.toNat) codZ.dft).loy - b) ∧ True) ∧ True ∧ True ∧ (l.getD ((0 : Nat) + n.toNat) codZ.dft).hix =
    (l.getD ((0 : Nat) + n.toNat) codZ.dft).hix ∧ b = b ∧ W ((l.getD ((0 : Nat) + n.toNat) codZ.dft).hix + b) = W ((l.getD ((0 : Nat) + n.toNat) codZ.dft).hix + b) ∧
    True ∧ True ∧ (l.getD ((0 : Nat) + n.toNat) codZ.dft).hiy = (l.getD ((0 : Nat) + n.toNat) codZ.dft).hiy ∧ b = b ∧ W ((l.getD ((0 : Nat) + n.toNat) codZ.dft).hiy
    - b) = W ((l.getD ((0 : Nat) + n.toNat) codZ.dft).hiy - b) ∧ (W ((l.getD ((0 : Nat) + n.toNat) codZ.dft).hix + b) = W ((l.getD ((0 : Nat) + n.toNat) codZ.dft).hix
    + b) ∧ W ((l.getD ((0 : Nat) + n.toNat) codZ.dft).hiy - b) = W ((l.getD ((0 : Nat) + n.toNat) codZ.dft).hiy - b) ∧ True) ∧ (0 : Nat) + n.toNat = (0 : Nat) + n.toNat
    ∧ (0 : Nat) + n.toNat = (0 : Nat) + n.toNat ∧ (0 : Nat) + n.toNat = (0 : Nat) + n.toNat ∧ (0 : Nat) + n.toNat = (0 : Nat) + n.toNat ∧ (t.radius = t.radius ∧ True
    ∧ True ∧ t.gx = t.gx ∧ t.gy = t.gy ∧ t.drag = t.drag ∧ t.shift = t.shift ∧ True ∧ True ∧ True ∧ True ∧ True ∧ (t.zones.length = t.zones.length ∧ ∀ (i : Nat), i <
    t.zones.length → (t.zones.getD i codZ.dft).name = (t.zones.getD i codZ.dft).name ∧ (t.zones.getD i codZ.dft).level = (t.zones.getD i codZ.dft).level ∧ (t.zones.getD
    i codZ.dft).lox = (t.zones.getD i codZ.dft).lox ∧ (t.zones.getD i codZ.dft).loy = (t.zones.getD i codZ.dft).loy ∧ (t.zones.getD i codZ.dft).hix = (t.zones.getD i
    codZ.dft).hix ∧ (t.zones.getD i codZ.dft).hiy = (t.zones.getD i codZ.dft).hiy ∧ (t.zones.getD i codZ.dft).hx = (t.zones.getD i codZ.dft).hx ∧ (t.zones.getD i codZ.dft).hy
    = (t.zones.getD i codZ.dft).hy ∧ (t.zones.getD i codZ.dft).coil = (t.zones.getD i codZ.dft).coil ∧ True) ∧ True ∧ True ∧ True ∧ True ∧ True ∧ True) ∧ True ∧ (l.getD
    ((0 : Nat) + n.toNat) codZ.dft).level = (l.getD ((0 : Nat) + n.toNat) codZ.dft).level ∧ True ∧ ((l.getD ((0 : Nat) + n.toNat) codZ.dft).lox = (l.getD ((0 : Nat)
    + n.toNat) codZ.dft).lox ∧ (l.getD ((0 : Nat) + n.toNat) codZ.dft).loy = (l.getD ((0 : Nat) + n.toNat) codZ.dft).loy ∧ True) ∧ ((zonL { radius := t.radius, gx := t.gx, gy := t.gy, drag := t.drag, shift := t.shift, zones := rowL codZ t.zones.length fun i => codZ.enc (t.zones.getD i codZ.dft) : Tb }
    (4294967295 : Int) (l.getD ((0 : Nat) + n.toNat) codZ.dft).level (l.getD ((0 : Nat) + n.toNat) codZ.dft).lox (l.getD ((0 : Nat) + n.toNat) codZ.dft).loy).length
    = (zonL { radius := t.radius, gx := t.gx, gy := t.gy, drag := t.drag, shift := t.shift, zones := rowL codZ t.zones.length fun i => codZ.enc (t.zones.getD i codZ.dft) : Tb }
    (4294967295 : Int) (l.getD ((0 : Nat) + n.toNat) codZ.dft).level (l.getD ((0 : Nat) + n.toNat) codZ.dft).lox (l.getD ((0 : Nat) + n.toNat) codZ.dft).loy).length
    ∧ ∀ (i : Nat), i < (zonL { radius := t.radius, gx := t.gx, gy := t.gy, drag := t.drag, shift := t.shift, zones := rowL codZ t.zones.length fun i => codZ.enc (t.zones.getD i codZ.dft) : Tb }
    (4294967295 : Int) (l.getD ((0 : Nat) + n.toNat) codZ.dft).level (l.getD ((0 : Nat) + n.toNat) codZ.dft).lox (l.getD ((0 : Nat) + n.toNat) codZ.dft).loy).length
    → (zonL { radius := t.radius, gx := t.gx, gy := t.gy, drag := t.drag, shift := t.shift, zones := rowL codZ t.zones.length fun i => codZ.enc (t.zones.getD i codZ.dft) : Tb }
    (4294967295 : Int) (l.getD ((0 : Nat) + n.toNat) codZ.dft).level (l.getD ((0 : Nat) + n.toNat) codZ.dft).lox (l.getD ((0 : Nat) + n.toNat) codZ.dft).loy).getD i
    (codI IntKind.i64).dft = (zonL { radius := t.radius, gx := t.gx, gy := t.gy, drag := t.drag, shift := t.shift, zones := rowL codZ t.zones.length fun i => codZ.enc (t.zones.getD i codZ.dft) : Tb }
    (4294967295 : Int) (l.getD ((0 : Nat) + n.toNat) codZ.dft).level (l.getD ((0 : Nat) + n.toNat) codZ.dft).lox (l.getD ((0 : Nat) + n.toNat) codZ.dft).loy).getD i
    (codI IntKind.i64).dft ∧ True) ∧ True ∧ True ∧ True ∧ True ∧ True ∧ True ∧ True ∧ True ∧ True ∧ True ∧ True ∧ True ∧ True ∧ True ∧ True ∧ True ∧ True ∧ True ∧ True
    ∧ True ∧ True ∧ True ∧ True ∧ True ∧ True ∧ True ∧ True ∧ True ∧ True) ∧ ((if false = true then [] else List.map Seg.shape [Seg.s (SV.int IntKind.i64 t.radius),
    Seg.s SV.opq, Seg.s SV.opq, Seg.s (SV.int IntKind.i64 t.gx), Seg.s (SV.int IntKind.i64 t.gy), Seg.s (SV.int IntKind.i64 t.drag), Seg.s (SV.int IntKind.i64 t.shift),
    Seg.s SV.opq, Seg.s SV.opq, Seg.s SV.opq, Seg.s SV.opq, Seg.s SV.opq, Seg.s (SV.ros ((0 : Nat) + (1 : Nat) + (1 : Nat) + (1 : Nat) + (1 : Nat) + (1 : Nat) + (1 :
    Nat) + (1 : Nat) + (1 : Nat) + (1 : Nat)) t.zones.length fun i => codZ.enc (t.zones.getD i codZ.dft)), Seg.s SV.opq, Seg.s SV.opq, Seg.s SV.opq, Seg.s SV.opq, Seg.s
    SV.opq]) = if false = true then [] else List.map Seg.shape [Seg.s (SV.int IntKind.i64 t.radius), Seg.s SV.opq, Seg.s SV.opq, Seg.s (SV.int IntKind.i64 t.gx), Seg.s
    (SV.int IntKind.i64 t.gy), Seg.s (SV.int IntKind.i64 t.drag), Seg.s (SV.int IntKind.i64 t.shift), Seg.s SV.opq, Seg.s SV.opq, Seg.s SV.opq, Seg.s SV.opq, Seg.s SV.opq,
    Seg.s (SV.ros ((0 : Nat) + (1 : Nat) + (1 : Nat) + (1 : Nat) + (1 : Nat) + (1 : Nat) + (1 : Nat) + (1 : Nat) + (1 : Nat) + (1 : Nat)) t.zones.length fun i => codZ.enc
    (t.zones.getD i codZ.dft)), Seg.s SV.opq, Seg.s SV.opq, Seg.s SV.opq, Seg.s SV.opq, Seg.s SV.opq]) ∧ (t.radius = t.radius ∧ True ∧ True ∧ t.gx = t.gx ∧ t.gy = t.gy
    ∧ t.drag = t.drag ∧ t.shift = t.shift ∧ True ∧ True ∧ True ∧ True ∧ True ∧ (t.zones.length = t.zones.length ∧ ∀ (i : Nat), i < t.zones.length → (t.zones.getD i codZ.dft).name
    = (t.zones.getD i codZ.dft).name ∧ (t.zones.getD i codZ.dft).level = (t.zones.getD i codZ.dft).level ∧ (t.zones.getD i codZ.dft).lox = (t.zones.getD i codZ.dft).lox
    ∧ (t.zones.getD i codZ.dft).loy = (t.zones.getD i codZ.dft).loy ∧ (t.zones.getD i codZ.dft).hix = (t.zones.getD i codZ.dft).hix ∧ (t.zones.getD i codZ.dft).hiy =
    (t.zones.getD i codZ.dft).hiy ∧ (t.zones.getD i codZ.dft).hx = (t.zones.getD i codZ.dft).hx ∧ (t.zones.getD i codZ.dft).hy = (t.zones.getD i codZ.dft).hy ∧ (t.zones.getD
    i codZ.dft).coil = (t.zones.getD i codZ.dft).coil ∧ True) ∧ True ∧ True ∧ True ∧ True ∧ True ∧ True) ∧ ((if false = true then [] else List.map Seg.shape [Seg.s (SV.int
    IntKind.i64 x), Seg.s (SV.int IntKind.i64 y)]) = if false = true then [] else List.map Seg.shape [Seg.s (SV.int IntKind.i64 x), Seg.s (SV.int IntKind.i64 y)]) ∧
    (x = x ∧ y = y ∧ True) ∧ ((if false = true then [] else List.map Seg.shape ([Seg.s (SV.int IntKind.i64 (0 : Int))] ++ ([Seg.s (SV.int IntKind.i64 (0 : Int))] ++
    ([Seg.s (SV.int IntKind.i64 (0 : Int))] ++ ([Seg.s (SV.int IntKind.i64 (0 : Int))] ++ ([Seg.s (SV.int IntKind.i64 (0 : Int))] ++ []) ++ ([Seg.s (SV.int IntKind.i64
    (0 : Int))] ++ ([Seg.s (SV.int IntKind.i64 (0 : Int))] ++ ([Seg.s SV.nils] ++ ([Seg.s SV.nils] ++ ([Seg.s SV.nils] ++ ([Seg.s SV.nils] ++ ([Seg.s SV.nils] ++ ([Seg.s
    SV.nils] ++ ([Seg.s SV.nils] ++ ([Seg.s SV.nils] ++ ([Seg.s SV.nils] ++ ([Seg.s SV.nils] ++ ([Seg.s SV.nils] ++ [])))))))))))))))))) = if false = true then [] else
    List.map Seg.shape ([Seg.s (SV.int IntKind.i64 (0 : Int))] ++ ([Seg.s (SV.int IntKind.i64 (0 : Int))] ++ ([Seg.s (SV.int IntKind.i64 (0 : Int))] ++ ([Seg.s (SV.int
    IntKind.i64 (0 : Int))] ++ ([Seg.s (SV.int IntKind.i64 (0 : Int))] ++ []) ++ ([Seg.s (SV.int IntKind.i64 (0 : Int))] ++ ([Seg.s (SV.int IntKind.i64 (0 : Int))] ++
    ([Seg.s SV.nils] ++ ([Seg.s SV.nils] ++ ([Seg.s SV.nils] ++ ([Seg.s SV.nils] ++ ([Seg.s SV.nils] ++ ([Seg.s SV.nils] ++ ([Seg.s SV.nils] ++ ([Seg.s SV.nils] ++ ([Seg.s
    SV.nils] ++ ([Seg.s SV.nils] ++ ([Seg.s SV.nils] ++ [])))))))))))))))))) ∧ (t.radius = t.radius ∧ True ∧ True ∧ t.gx = t.gx ∧ t.gy = t.gy ∧ t.drag = t.drag ∧ t.shift
    = t.shift ∧ True ∧ True ∧ True ∧ True ∧ True ∧ ((0 : Nat) = (0 : Nat) ∧ t.zones.length = t.zones.length) ∧ True ∧ True ∧ True ∧ True ∧ True ∧ True) ∧ ((if true =
    true then [] else List.map Seg.shape [Seg.a t.zones.length (9 : Nat) fun i => codZ.enc (t.zones.getD i codZ.dft)]) = if true = true then [] else List.map Seg.shape
    [Seg.a t.zones.length (9 : Nat) fun i => codZ.enc (t.zones.getD i codZ.dft)]) ∧ ((t.zones.length = t.zones.length ∧ (0 : Nat) + (1 : Nat) + (1 : Nat) + (1 : Nat)
    + (1 : Nat) + (1 : Nat) + (1 : Nat) + (1 : Nat) + (1 : Nat) + (1 : Nat) = (0 : Nat) + (1 : Nat) + (1 : Nat) + (1 : Nat) + (1 : Nat) + (1 : Nat) + (1 : Nat) + (1
    : Nat) + (1 : Nat) + (1 : Nat) ∧ ∀ (i : Nat), i < t.zones.length → ((if decide (i = (0 : Nat) + n.toNat) = true then if decide ((0 : Nat) + n.toNat = (0 : Nat) +
    n.toNat) = true then (l.getD ((0 : Nat) + n.toNat) codZ.dft).name else (l.getD ((0 : Nat) + n.toNat) codZ.dft).name else if decide (i = (0 : Nat) + n.toNat) = true
    then (l.getD ((0 : Nat) + n.toNat) codZ.dft).name else (l.getD i codZ.dft).name) = if decide (i = (0 : Nat) + n.toNat) = true then if decide ((0 : Nat) + n.toNat
    = (0 : Nat) + n.toNat) = true then (l.getD ((0 : Nat) + n.toNat) codZ.dft).name else (l.getD ((0 : Nat) + n.toNat) codZ.dft).name else if decide (i = (0 : Nat) +
    n.toNat) = true then (l.getD ((0 : Nat) + n.toNat) codZ.dft).name else (l.getD i codZ.dft).name) ∧ ((if decide (i = (0 : Nat) + n.toNat) = true then if decide ((0
    : Nat) + n.toNat = (0 : Nat) + n.toNat) = true then (l.getD ((0 : Nat) + n.toNat) codZ.dft).level else (l.getD ((0 : Nat) + n.toNat) codZ.dft).level else if decide
    (i = (0 : Nat) + n.toNat) = true then (l.getD ((0 : Nat) + n.toNat) codZ.dft).level else (l.getD i codZ.dft).level) = if decide (i = (0 : Nat) + n.toNat) = true
    then if decide ((0 : Nat) + n.toNat = (0 : Nat) + n.toNat) = true then (l.getD ((0 : Nat) + n.toNat) codZ.dft).level else (l.getD ((0 : Nat) + n.toNat) codZ.dft).level
    else if decide (i = (0 : Nat) + n.toNat) = true then (l.getD ((0 : Nat) + n.toNat) codZ.dft).level else (l.getD i codZ.dft).level) ∧ ((if decide (i = (0 : Nat) +
    n.toNat) = true then if decide ((0 : Nat) + n.toNat = (0 : Nat) + n.toNat) = true then W ((l.getD ((0 : Nat) + n.toNat) codZ.dft).lox + b) else (l.getD ((0 : Nat)
    + n.toNat) codZ.dft).lox else if decide (i = (0 : Nat) + n.toNat) = true then W ((l.getD ((0 : Nat) + n.toNat) codZ.dft).lox + b) else (l.getD i codZ.dft).lox) =
    if decide (i = (0 : Nat) + n.toNat) = true then if decide ((0 : Nat) + n.toNat = (0 : Nat) + n.toNat) = true then W ((l.getD ((0 : Nat) + n.toNat) codZ.dft).lox
    + b) else (l.getD ((0 : Nat) + n.toNat) codZ.dft).lox else if decide (i = (0 : Nat) + n.toNat) = true then W ((l.getD ((0 : Nat) + n.toNat) codZ.dft).lox + b) else
    (l.getD i codZ.dft).lox) ∧ ((if decide (i = (0 : Nat) + n.toNat) = true then if decide ((0 : Nat) + n.toNat = (0 : Nat) + n.toNat) = true then W ((l.getD ((0 : Nat)
    + n.toNat) codZ.dft).loy - b) else (l.getD ((0 : Nat) + n.toNat) codZ.dft).loy else if decide (i = (0 : Nat) + n.toNat) = true then W ((l.getD ((0 : Nat) + n.toNat)
    codZ.dft).loy - b) else (l.getD i codZ.dft).loy) = if decide (i = (0 : Nat) + n.toNat) = true then if decide ((0 : Nat) + n.toNat = (0 : Nat) + n.toNat) = true then
    W ((l.getD ((0 : Nat) + n.toNat) codZ.dft).loy - b) else (l.getD ((0 : Nat) + n.toNat) codZ.dft).loy else if decide (i = (0 : Nat) + n.toNat) = true then W ((l.getD
    ((0 : Nat) + n.toNat) codZ.dft).loy - b) else (l.getD i codZ.dft).loy) ∧ ((if decide (i = (0 : Nat) + n.toNat) = true then W ((l.getD ((0 : Nat) + n.toNat) codZ.dft).hix
    + b) else if decide (i = (0 : Nat) + n.toNat) = true then (l.getD ((0 : Nat) + n.toNat) codZ.dft).hix else (l.getD i codZ.dft).hix) = if decide (i = (0 : Nat) +
    n.toNat) = true then W ((l.getD ((0 : Nat) + n.toNat) codZ.dft).hix + b) else if decide (i = (0 : Nat) + n.toNat) = true then (l.getD ((0 : Nat) + n.toNat) codZ.dft).hix
    else (l.getD i codZ.dft).hix) ∧ ((if decide (i = (0 : Nat) + n.toNat) = true then W ((l.getD ((0 : Nat) + n.toNat) codZ.dft).hiy - b) else if decide (i = (0 : Nat)
    + n.toNat) = true then (l.getD ((0 : Nat) + n.toNat) codZ.dft).hiy else (l.getD i codZ.dft).hiy) = if decide (i = (0 : Nat) + n.toNat) = true then W ((l.getD ((0
    : Nat) + n.toNat) codZ.dft).hiy - b) else if decide (i = (0 : Nat) + n.toNat) = true then (l.getD ((0 : Nat) + n.toNat) codZ.dft).hiy else (l.getD i codZ.dft).hiy)
    ∧ ((if decide (i = (0 : Nat) + n.toNat) = true then if decide ((0 : Nat) + n.toNat = (0 : Nat) + n.toNat) = true then (l.getD ((0 : Nat) + n.toNat) codZ.dft).hx
    else (l.getD ((0 : Nat) + n.toNat) codZ.dft).hx else if decide (i = (0 : Nat) + n.toNat) = true then (l.getD ((0 : Nat) + n.toNat) codZ.dft).hx else (l.getD i codZ.dft).hx)
    = if decide (i = (0 : Nat) + n.toNat) = true then if decide ((0 : Nat) + n.toNat = (0 : Nat) + n.toNat) = true then (l.getD ((0 : Nat) + n.toNat) codZ.dft).hx else
    (l.getD ((0 : Nat) + n.toNat) codZ.dft).hx else if decide (i = (0 : Nat) + n.toNat) = true then (l.getD ((0 : Nat) + n.toNat) codZ.dft).hx else (l.getD i codZ.dft).hx)
    ∧ ((if decide (i = (0 : Nat) + n.toNat) = true then if decide ((0 : Nat) + n.toNat = (0 : Nat) + n.toNat) = true then (l.getD ((0 : Nat) + n.toNat) codZ.dft).hy
    else (l.getD ((0 : Nat) + n.toNat) codZ.dft).hy else if decide (i = (0 : Nat) + n.toNat) = true then (l.getD ((0 : Nat) + n.toNat) codZ.dft).hy else (l.getD i codZ.dft).hy)
    = if decide (i = (0 : Nat) + n.toNat) = true then if decide ((0 : Nat) + n.toNat = (0 : Nat) + n.toNat) = true then (l.getD ((0 : Nat) + n.toNat) codZ.dft).hy else
    (l.getD ((0 : Nat) + n.toNat) codZ.dft).hy else if decide (i = (0 : Nat) + n.toNat) = true then (l.getD ((0 : Nat) + n.toNat) codZ.dft).hy else (l.getD i codZ.dft).hy)
    ∧ ((if decide (i = (0 : Nat) + n.toNat) = true then if decide ((0 : Nat) + n.toNat = (0 : Nat) + n.toNat) = true then (l.getD ((0 : Nat) + n.toNat) codZ.dft).coil
    else (l.getD ((0 : Nat) + n.toNat) codZ.dft).coil else if decide (i = (0 : Nat) + n.toNat) = true then (l.getD ((0 : Nat) + n.toNat) codZ.dft).coil else (l.getD
    i codZ.dft).coil) = if decide (i = (0 : Nat) + n.toNat) = true then if decide ((0 : Nat) + n.toNat = (0 : Nat) + n.toNat) = true then (l.getD ((0 : Nat) + n.toNat)
    codZ.dft).coil else (l.getD ((0 : Nat) + n.toNat) codZ.dft).coil else if decide (i = (0 : Nat) + n.toNat) = true then (l.getD ((0 : Nat) + n.toNat) codZ.dft).coil
    else (l.getD i codZ.dft).coil) ∧ True) ∧ True) ∧ ((if false = true then [] else List.map Seg.shape ([Seg.s (SV.str [])] ++ ([Seg.s (SV.int IntKind.i64 (0 : Int))]
    ++ ([Seg.s (SV.int IntKind.i64 (0 : Int))] ++ ([Seg.s (SV.int IntKind.i64 (0 : Int))] ++ []) ++ ([Seg.s (SV.int IntKind.i64 (0 : Int))] ++ ([Seg.s (SV.int IntKind.i64
    (0 : Int))] ++ []) ++ ([Seg.s (SV.int IntKind.i64 (0 : Int))] ++ ([Seg.s (SV.int IntKind.i64 (0 : Int))] ++ []) ++ ([Seg.s (SV.int IntKind.i64 (0 : Int))] ++ [])))))))
    = if false = true then [] else List.map Seg.shape ([Seg.s (SV.str [])] ++ ([Seg.s (SV.int IntKind.i64 (0 : Int))] ++ ([Seg.s (SV.int IntKind.i64 (0 : Int))] ++ ([Seg.s
    (SV.int IntKind.i64 (0 : Int))] ++ []) ++ ([Seg.s (SV.int IntKind.i64 (0 : Int))] ++ ([Seg.s (SV.int IntKind.i64 (0 : Int))] ++ []) ++ ([Seg.s (SV.int IntKind.i64
    (0 : Int))] ++ ([Seg.s (SV.int IntKind.i64 (0 : Int))] ++ []) ++ ([Seg.s (SV.int IntKind.i64 (0 : Int))] ++ []))))))) ∧ ((l.getD ((0 : Nat) + n.toNat) codZ.dft).name
    = (l.getD ((0 : Nat) + n.toNat) codZ.dft).name ∧ (l.getD ((0 : Nat) + n.toNat) codZ.dft).level = (l.getD ((0 : Nat) + n.toNat) codZ.dft).level ∧ (l.getD ((0 : Nat)
    + n.toNat) codZ.dft).lox = (l.getD ((0 : Nat) + n.toNat) codZ.dft).lox ∧ (l.getD ((0 : Nat) + n.toNat) codZ.dft).loy = (l.getD ((0 : Nat) + n.toNat) codZ.dft).loy
    ∧ (l.getD ((0 : Nat) + n.toNat) codZ.dft).hix = (l.getD ((0 : Nat) + n.toNat) codZ.dft).hix ∧ (l.getD ((0 : Nat) + n.toNat) codZ.dft).hiy = (l.getD ((0 : Nat) +
    n.toNat) codZ.dft).hiy ∧ (l.getD ((0 : Nat) + n.toNat) codZ.dft).hx = (l.getD ((0 : Nat) + n.toNat) codZ.dft).hx ∧ (l.getD ((0 : Nat) + n.toNat) codZ.dft).hy = (l.getD
    ((0 : Nat) + n.toNat) codZ.dft).hy ∧ (l.getD ((0 : Nat) + n.toNat) codZ.dft).coil = (l.getD ((0 : Nat) + n.toNat) codZ.dft).coil ∧ True) ∧ True)) ∧ (decide (n_1
    < ↑(zonL { radius := t.radius, gx := t.gx, gy := t.gy, drag := t.drag, shift := t.shift, zones := rowL codZ t.zones.length fun i => codZ.enc (t.zones.getD i codZ.dft) : Tb }
    (4294967295 : Int) (l.getD ((0 : Nat) + n.toNat) codZ.dft).level (l.getD ((0 : Nat) + n.toNat) codZ.dft).lox (l.getD ((0 : Nat) + n.toNat) codZ.dft).loy).length)
    = false → True ∧ J6 t b (W (n + (1 : Int)), rowL codZ t.zones.length fun i' => mergeL (decide (i' = (0 : Nat) + n.toNat)) (setL (mergeL (decide ((0 : Nat) + n.toNat
    = (0 : Nat) + n.toNat)) (setL (codZ.enc (l.getD ((0 : Nat) + n.toNat) codZ.dft)) ((0 : Nat) + (1 : Nat) + (1 : Nat)) [SV.int IntKind.i64 (W ((l.getD ((0 : Nat) +
    n.toNat) codZ.dft).lox + b)), SV.int IntKind.i64 (W ((l.getD ((0 : Nat) + n.toNat) codZ.dft).loy - b))]) (codZ.enc (l.getD ((0 : Nat) + n.toNat) codZ.dft))) ((0
    : Nat) + (1 : Nat) + (1 : Nat) + (1 : Nat) + (1 : Nat)) [SV.int IntKind.i64 (W ((l.getD ((0 : Nat) + n.toNat) codZ.dft).hix + b)), SV.int IntKind.i64 (W ((l.getD
    ((0 : Nat) + n.toNat) codZ.dft).hiy - b))]) (mergeL (decide (i' = (0 : Nat) + n.toNat)) (setL (codZ.enc (l.getD ((0 : Nat) + n.toNat) codZ.dft)) ((0 : Nat) + (1
    : Nat) + (1 : Nat)) [SV.int IntKind.i64 (W ((l.getD ((0 : Nat) + n.toNat) codZ.dft).lox + b)), SV.int IntKind.i64 (W ((l.getD ((0 : Nat) + n.toNat) codZ.dft).loy
    - b))]) (codZ.enc (l.getD i' codZ.dft)))) ∧ (↑t.zones.length - W (n + (1 : Int))).toNat < (↑t.zones.length - n).toNat ∧ ((t.radius = t.radius ∧ True ∧ True ∧ t.gx
    = t.gx ∧ t.gy = t.gy ∧ t.drag = t.drag ∧ t.shift = t.shift ∧ True ∧ True ∧ True ∧ True ∧ True ∧ (t.zones.length = t.zones.length ∧ ∀ (i : Nat), i < t.zones.length
    → (t.zones.getD i codZ.dft).name = (t.zones.getD i codZ.dft).name ∧ (t.zones.getD i codZ.dft).level = (t.zones.getD i codZ.dft).level ∧ (t.zones.getD i codZ.dft).lox
    = (t.zones.getD i codZ.dft).lox ∧ (t.zones.getD i codZ.dft).loy = (t.zones.getD i codZ.dft).loy ∧ (t.zones.getD i codZ.dft).hix = (t.zones.getD i codZ.dft).hix ∧
    (t.zones.getD i codZ.dft).hiy = (t.zones.getD i codZ.dft).hiy ∧ (t.zones.getD i codZ.dft).hx = (t.zones.getD i codZ.dft).hx ∧ (t.zones.getD i codZ.dft).hy = (t.zones.getD
    i codZ.dft).hy ∧ (t.zones.getD i codZ.dft).coil = (t.zones.getD i codZ.dft).coil ∧ True) ∧ True ∧ True ∧ True ∧ True ∧ True ∧ True) ∧ (x = x ∧ y = y ∧ True) ∧ b
    = b ∧ True ∧ True ∧ True ∧ True ∧ True ∧ W (n + (1 : Int)) = W (n + (1 : Int)) ∧ True ∧ True ∧ True ∧ True ∧ true = true ∧ True ∧ (t.radius = t.radius ∧ True ∧ True
    ∧ t.gx = t.gx ∧ t.gy = t.gy ∧ t.drag = t.drag ∧ t.shift = t.shift ∧ True ∧ True ∧ True ∧ True ∧ True ∧ (t.zones.length = t.zones.length ∧ ∀ (i : Nat), i < t.zones.length
    → (t.zones.getD i codZ.dft).name = (t.zones.getD i codZ.dft).name ∧ (t.zones.getD i codZ.dft).level = (t.zones.getD i codZ.dft).level ∧ (t.zones.getD i codZ.dft).lox
    = (t.zones.getD i codZ.dft).lox ∧ (t.zones.getD i codZ.dft).loy = (t.zones.getD i codZ.dft).loy ∧ (t.zones.getD i codZ.dft).hix = (t.zones.getD i codZ.dft).hix ∧
    (t.zones.getD i codZ.dft).hiy = (t.zones.getD i codZ.dft).hiy ∧ (t.zones.getD i codZ.dft).hx = (t.zones.getD i codZ.dft).hx ∧ (t.zones.getD i codZ.dft).hy = (t.zones.getD
    i codZ.dft).hy ∧ (t.zones.getD i codZ.dft).coil = (t.zones.getD i codZ.dft).coil ∧ True) ∧ True ∧ True ∧ True ∧ True ∧ True ∧ True) ∧ fewB { radius := t.radius, gx := t.gx, gy := t.gy, drag := t.drag, shift := t.shift, zones := rowL codZ t.zones.length fun i => codZ.enc (t.zones.getD i codZ.dft) : Tb }
    = fewB { radius := t.radius, gx := t.gx, gy := t.gy, drag := t.drag, shift := t.shift, zones := rowL codZ t.zones.length fun i => codZ.enc (t.zones.getD i codZ.dft) : Tb }
    ∧ (!fewB { radius := t.radius, gx := t.gx, gy := t.gy, drag := t.drag, shift := t.shift, zones := rowL codZ t.zones.length fun i => codZ.enc (t.zones.getD i codZ.dft) : Tb })
    = !fewB { radius := t.radius, gx := t.gx, gy := t.gy, drag := t.drag, shift := t.shift, zones := rowL codZ t.zones.length fun i => codZ.enc (t.zones.getD i codZ.dft) : Tb }
    ∧ True ∧ (x = x ∧ y = y ∧ True) ∧ smB x y = smB x y ∧ (!smB x y) = !smB x y ∧ (!smB x y) = !smB x y ∧ True ∧ b = b ∧ decide (b < (-1073741824 : Int)) = decide (b
    < (-1073741824 : Int)) ∧ decide (b < (-1073741824 : Int)) = decide (b < (-1073741824 : Int)) ∧ True ∧ b = b ∧ decide (b > (1073741824 : Int)) = decide (b > (1073741824
    : Int)) ∧ True ∧ True ∧ (t.radius = t.radius ∧ True ∧ True ∧ t.gx = t.gx ∧ t.gy = t.gy ∧ t.drag = t.drag ∧ t.shift = t.shift ∧ True ∧ True ∧ True ∧ True ∧ True ∧
    (t.zones.length = t.zones.length ∧ ∀ (i : Nat), i < t.zones.length → (t.zones.getD i codZ.dft).name = (t.zones.getD i codZ.dft).name ∧ (t.zones.getD i codZ.dft).level
    = (t.zones.getD i codZ.dft).level ∧ (t.zones.getD i codZ.dft).lox = (t.zones.getD i codZ.dft).lox ∧ (t.zones.getD i codZ.dft).loy = (t.zones.getD i codZ.dft).loy
    ∧ (t.zones.getD i codZ.dft).hix = (t.zones.getD i codZ.dft).hix ∧ (t.zones.getD i codZ.dft).hiy = (t.zones.getD i codZ.dft).hiy ∧ (t.zones.getD i codZ.dft).hx =
    (t.zones.getD i codZ.dft).hx ∧ (t.zones.getD i codZ.dft).hy = (t.zones.getD i codZ.dft).hy ∧ (t.zones.getD i codZ.dft).coil = (t.zones.getD i codZ.dft).coil ∧ True)
    ∧ True ∧ True ∧ True ∧ True ∧ True ∧ True) ∧ True ∧ (t.zones.length = t.zones.length ∧ ∀ (i : Nat), i < t.zones.length → (t.zones.getD i codZ.dft).name = (t.zones.getD
    i codZ.dft).name ∧ (t.zones.getD i codZ.dft).level = (t.zones.getD i codZ.dft).level ∧ (t.zones.getD i codZ.dft).lox = (t.zones.getD i codZ.dft).lox ∧ (t.zones.getD
    i codZ.dft).loy = (t.zones.getD i codZ.dft).loy ∧ (t.zones.getD i codZ.dft).hix = (t.zones.getD i codZ.dft).hix ∧ (t.zones.getD i codZ.dft).hiy = (t.zones.getD i
    codZ.dft).hiy ∧ (t.zones.getD i codZ.dft).hx = (t.zones.getD i codZ.dft).hx ∧ (t.zones.getD i codZ.dft).hy = (t.zones.getD i codZ.dft).hy ∧ (t.zones.getD i codZ.dft).coil
    = (t.zones.getD i codZ.dft).coil ∧ True) ∧ ((0 : Nat) = (0 : Nat) ∧ t.zones.length = t.zones.length) ∧ True ∧ True ∧ True ∧ True ∧ True ∧ True ∧ True ∧ True ∧ True
    ∧ True ∧ True ∧ True ∧ True ∧ True ∧ True ∧ True ∧ True ∧ True ∧ True ∧ True ∧ True ∧ True ∧ True ∧ True ∧ True ∧ True ∧ True ∧ True ∧ True ∧ True ∧ True ∧ True
    ∧ True ∧ True ∧ True ∧ True ∧ True ∧ True ∧ True ∧ True ∧ True ∧ True ∧ True ∧ True ∧ True ∧ True ∧ True ∧ True ∧ True ∧ True ∧ True ∧ True ∧ True ∧ True ∧ True
    ∧ True ∧ True ∧ True ∧ True ∧ True ∧ True ∧ True ∧ True ∧ True ∧ True ∧ True ∧ True ∧ True ∧ True ∧ True ∧ True ∧ True ∧ True ∧ True ∧ True ∧ True ∧ True ∧ True
    ∧ True ∧ True ∧ True ∧ True ∧ True ∧ True ∧ True ∧ True ∧ True ∧ True ∧ True ∧ True ∧ True) ∧ ((if false = true then [] else List.map Seg.shape [Seg.s (SV.int IntKind.i64
    t.radius), Seg.s SV.opq, Seg.s SV.opq, Seg.s (SV.int IntKind.i64 t.gx), Seg.s (SV.int IntKind.i64 t.gy), Seg.s (SV.int IntKind.i64 t.drag), Seg.s (SV.int IntKind.i64
    t.shift), Seg.s SV.opq, Seg.s SV.opq, Seg.s SV.opq, Seg.s SV.opq, Seg.s SV.opq, Seg.s (SV.ros ((0 : Nat) + (1 : Nat) + (1 : Nat) + (1 : Nat) + (1 : Nat) + (1 : Nat)
    + (1 : Nat) + (1 : Nat) + (1 : Nat) + (1 : Nat)) t.zones.length fun i => codZ.enc (t.zones.getD i codZ.dft)), Seg.s SV.opq, Seg.s SV.opq, Seg.s SV.opq, Seg.s SV.opq,
    Seg.s SV.opq]) = if false = true then [] else List.map Seg.shape [Seg.s (SV.int IntKind.i64 t.radius), Seg.s SV.opq, Seg.s SV.opq, Seg.s (SV.int IntKind.i64 t.gx),
    Seg.s (SV.int IntKind.i64 t.gy), Seg.s (SV.int IntKind.i64 t.drag), Seg.s (SV.int IntKind.i64 t.shift), Seg.s SV.opq, Seg.s SV.opq, Seg.s SV.opq, Seg.s SV.opq, Seg.s
    SV.opq, Seg.s (SV.ros ((0 : Nat) + (1 : Nat) + (1 : Nat) + (1 : Nat) + (1 : Nat) + (1 : Nat) + (1 : Nat) + (1 : Nat) + (1 : Nat) + (1 : Nat)) t.zones.length fun
    i => codZ.enc (t.zones.getD i codZ.dft)), Seg.s SV.opq, Seg.s SV.opq, Seg.s SV.opq, Seg.s SV.opq, Seg.s SV.opq]) ∧ (t.radius = t.radius ∧ True ∧ True ∧ t.gx = t.gx
    ∧ t.gy = t.gy ∧ t.drag = t.drag ∧ t.shift = t.shift ∧ True ∧ True ∧ True ∧ True ∧ True ∧ (t.zones.length = t.zones.length ∧ ∀ (i : Nat), i < t.zones.length → (t.zones.getD
    i codZ.dft).name = (t.zones.getD i codZ.dft).name ∧ (t.zones.getD i codZ.dft).level = (t.zones.getD i codZ.dft).level ∧ (t.zones.getD i codZ.dft).lox = (t.zones.getD
    i codZ.dft).lox ∧ (t.zones.getD i codZ.dft).loy = (t.zones.getD i codZ.dft).loy ∧ (t.zones.getD i codZ.dft).hix = (t.zones.getD i codZ.dft).hix ∧ (t.zones.getD i
    codZ.dft).hiy = (t.zones.getD i codZ.dft).hiy ∧ (t.zones.getD i codZ.dft).hx = (t.zones.getD i codZ.dft).hx ∧ (t.zones.getD i codZ.dft).hy = (t.zones.getD i codZ.dft).hy
    ∧ (t.zones.getD i codZ.dft).coil = (t.zones.getD i codZ.dft).coil ∧ True) ∧ True ∧ True ∧ True ∧ True ∧ True ∧ True) ∧ ((if false = true then [] else List.map Seg.shape
    [Seg.s (SV.int IntKind.i64 x), Seg.s (SV.int IntKind.i64 y)]) = if false = true then [] else List.map Seg.shape [Seg.s (SV.int IntKind.i64 x), Seg.s (SV.int IntKind.i64
    y)]) ∧ (x = x ∧ y = y ∧ True) ∧ ((if false = true then [] else List.map Seg.shape ([Seg.s (SV.int IntKind.i64 (0 : Int))] ++ ([Seg.s (SV.int IntKind.i64 (0 : Int))]
    ++ ([Seg.s (SV.int IntKind.i64 (0 : Int))] ++ ([Seg.s (SV.int IntKind.i64 (0 : Int))] ++ ([Seg.s (SV.int IntKind.i64 (0 : Int))] ++ []) ++ ([Seg.s (SV.int IntKind.i64
    (0 : Int))] ++ ([Seg.s (SV.int IntKind.i64 (0 : Int))] ++ ([Seg.s SV.nils] ++ ([Seg.s SV.nils] ++ ([Seg.s SV.nils] ++ ([Seg.s SV.nils] ++ ([Seg.s SV.nils] ++ ([Seg.s
    SV.nils] ++ ([Seg.s SV.nils] ++ ([Seg.s SV.nils] ++ ([Seg.s SV.nils] ++ ([Seg.s SV.nils] ++ ([Seg.s SV.nils] ++ [])))))))))))))))))) = if false = true then [] else
    List.map Seg.shape ([Seg.s (SV.int IntKind.i64 (0 : Int))] ++ ([Seg.s (SV.int IntKind.i64 (0 : Int))] ++ ([Seg.s (SV.int IntKind.i64 (0 : Int))] ++ ([Seg.s (SV.int
    IntKind.i64 (0 : Int))] ++ ([Seg.s (SV.int IntKind.i64 (0 : Int))] ++ []) ++ ([Seg.s (SV.int IntKind.i64 (0 : Int))] ++ ([Seg.s (SV.int IntKind.i64 (0 : Int))] ++
    ([Seg.s SV.nils] ++ ([Seg.s SV.nils] ++ ([Seg.s SV.nils] ++ ([Seg.s SV.nils] ++ ([Seg.s SV.nils] ++ ([Seg.s SV.nils] ++ ([Seg.s SV.nils] ++ ([Seg.s SV.nils] ++ ([Seg.s
    SV.nils] ++ ([Seg.s SV.nils] ++ ([Seg.s SV.nils] ++ [])))))))))))))))))) ∧ (t.radius = t.radius ∧ True ∧ True ∧ t.gx = t.gx ∧ t.gy = t.gy ∧ t.drag = t.drag ∧ t.shift
    = t.shift ∧ True ∧ True ∧ True ∧ True ∧ True ∧ ((0 : Nat) = (0 : Nat) ∧ t.zones.length = t.zones.length) ∧ True ∧ True ∧ True ∧ True ∧ True ∧ True) ∧ ((if true =
    true then [] else List.map Seg.shape [Seg.a t.zones.length (9 : Nat) fun i => codZ.enc (t.zones.getD i codZ.dft)]) = if true = true then [] else List.map Seg.shape
    [Seg.a t.zones.length (9 : Nat) fun i => codZ.enc (t.zones.getD i codZ.dft)]) ∧ ((t.zones.length = t.zones.length ∧ (0 : Nat) + (1 : Nat) + (1 : Nat) + (1 : Nat)
    + (1 : Nat) + (1 : Nat) + (1 : Nat) + (1 : Nat) + (1 : Nat) + (1 : Nat) = codZ.n ∧ ∀ (i : Nat), i < t.zones.length → (if decide (i = (0 : Nat) + n.toNat) = true
    then if decide ((0 : Nat) + n.toNat = (0 : Nat) + n.toNat) = true then (l.getD ((0 : Nat) + n.toNat) codZ.dft).name else (l.getD ((0 : Nat) + n.toNat) codZ.dft).name
    else if decide (i = (0 : Nat) + n.toNat) = true then (l.getD ((0 : Nat) + n.toNat) codZ.dft).name else (l.getD i codZ.dft).name) = ((rowL codZ t.zones.length fun
    i' => mergeL (decide (i' = (0 : Nat) + n.toNat)) (setL (mergeL (decide ((0 : Nat) + n.toNat = (0 : Nat) + n.toNat)) (setL (codZ.enc (l.getD ((0 : Nat) + n.toNat)
    codZ.dft)) ((0 : Nat) + (1 : Nat) + (1 : Nat)) [SV.int IntKind.i64 (W ((l.getD ((0 : Nat) + n.toNat) codZ.dft).lox + b)), SV.int IntKind.i64 (W ((l.getD ((0 : Nat)
    + n.toNat) codZ.dft).loy - b))]) (codZ.enc (l.getD ((0 : Nat) + n.toNat) codZ.dft))) ((0 : Nat) + (1 : Nat) + (1 : Nat) + (1 : Nat) + (1 : Nat)) [SV.int IntKind.i64
    (W ((l.getD ((0 : Nat) + n.toNat) codZ.dft).hix + b)), SV.int IntKind.i64 (W ((l.getD ((0 : Nat) + n.toNat) codZ.dft).hiy - b))]) (mergeL (decide (i' = (0 : Nat)
    + n.toNat)) (setL (codZ.enc (l.getD ((0 : Nat) + n.toNat) codZ.dft)) ((0 : Nat) + (1 : Nat) + (1 : Nat)) [SV.int IntKind.i64 (W ((l.getD ((0 : Nat) + n.toNat) codZ.dft).lox
    + b)), SV.int IntKind.i64 (W ((l.getD ((0 : Nat) + n.toNat) codZ.dft).loy - b))]) (codZ.enc (l.getD i' codZ.dft)))).getD i codZ.dft).name ∧ (if decide (i = (0 :
    Nat) + n.toNat) = true then if decide ((0 : Nat) + n.toNat = (0 : Nat) + n.toNat) = true then (l.getD ((0 : Nat) + n.toNat) codZ.dft).level else (l.getD ((0 : Nat)
    + n.toNat) codZ.dft).level else if decide (i = (0 : Nat) + n.toNat) = true then (l.getD ((0 : Nat) + n.toNat) codZ.dft).level else (l.getD i codZ.dft).level) = ((rowL
    codZ t.zones.length fun i' => mergeL (decide (i' = (0 : Nat) + n.toNat)) (setL (mergeL (decide ((0 : Nat) + n.toNat = (0 : Nat) + n.toNat)) (setL (codZ.enc (l.getD
    ((0 : Nat) + n.toNat) codZ.dft)) ((0 : Nat) + (1 : Nat) + (1 : Nat)) [SV.int IntKind.i64 (W ((l.getD ((0 : Nat) + n.toNat) codZ.dft).lox + b)), SV.int IntKind.i64
    (W ((l.getD ((0 : Nat) + n.toNat) codZ.dft).loy - b))]) (codZ.enc (l.getD ((0 : Nat) + n.toNat) codZ.dft))) ((0 : Nat) + (1 : Nat) + (1 : Nat) + (1 : Nat) + (1 :
    Nat)) [SV.int IntKind.i64 (W ((l.getD ((0 : Nat) + n.toNat) codZ.dft).hix + b)), SV.int IntKind.i64 (W ((l.getD ((0 : Nat) + n.toNat) codZ.dft).hiy - b))]) (mergeL
    (decide (i' = (0 : Nat) + n.toNat)) (setL (codZ.enc (l.getD ((0 : Nat) + n.toNat) codZ.dft)) ((0 : Nat) + (1 : Nat) + (1 : Nat)) [SV.int IntKind.i64 (W ((l.getD
    ((0 : Nat) + n.toNat) codZ.dft).lox + b)), SV.int IntKind.i64 (W ((l.getD ((0 : Nat) + n.toNat) codZ.dft).loy - b))]) (codZ.enc (l.getD i' codZ.dft)))).getD i codZ.dft).level
    ∧ (if decide (i = (0 : Nat) + n.toNat) = true then if decide ((0 : Nat) + n.toNat = (0 : Nat) + n.toNat) = true then W ((l.getD ((0 : Nat) + n.toNat) codZ.dft).lox
    + b) else (l.getD ((0 : Nat) + n.toNat) codZ.dft).lox else if decide (i = (0 : Nat) + n.toNat) = true then W ((l.getD ((0 : Nat) + n.toNat) codZ.dft).lox + b) else
    (l.getD i codZ.dft).lox) = ((rowL codZ t.zones.length fun i' => mergeL (decide (i' = (0 : Nat) + n.toNat)) (setL (mergeL (decide ((0 : Nat) + n.toNat = (0 : Nat)
    + n.toNat)) (setL (codZ.enc (l.getD ((0 : Nat) + n.toNat) codZ.dft)) ((0 : Nat) + (1 : Nat) + (1 : Nat)) [SV.int IntKind.i64 (W ((l.getD ((0 : Nat) + n.toNat) codZ.dft).lox
    + b)), SV.int IntKind.i64 (W ((l.getD ((0 : Nat) + n.toNat) codZ.dft).loy - b))]) (codZ.enc (l.getD ((0 : Nat) + n.toNat) codZ.dft))) ((0 : Nat) + (1 : Nat) + (1
    : Nat) + (1 : Nat) + (1 : Nat)) [SV.int IntKind.i64 (W ((l.getD ((0 : Nat) + n.toNat) codZ.dft).hix + b)), SV.int IntKind.i64 (W ((l.getD ((0 : Nat) + n.toNat) codZ.dft).hiy
    - b))]) (mergeL (decide (i' = (0 : Nat) + n.toNat)) (setL (codZ.enc (l.getD ((0 : Nat) + n.toNat) codZ.dft)) ((0 : Nat) + (1 : Nat) + (1 : Nat)) [SV.int IntKind.i64
    (W ((l.getD ((0 : Nat) + n.toNat) codZ.dft).lox + b)), SV.int IntKind.i64 (W ((l.getD ((0 : Nat) + n.toNat) codZ.dft).loy - b))]) (codZ.enc (l.getD i' codZ.dft)))).getD
    i codZ.dft).lox ∧ (if decide (i = (0 : Nat) + n.toNat) = true then if decide ((0 : Nat) + n.toNat = (0 : Nat) + n.toNat) = true then W ((l.getD ((0 : Nat) + n.toNat)
    codZ.dft).loy - b) else (l.getD ((0 : Nat) + n.toNat) codZ.dft).loy else if decide (i = (0 : Nat) + n.toNat) = true then W ((l.getD ((0 : Nat) + n.toNat) codZ.dft).loy
    - b) else (l.getD i codZ.dft).loy) = ((rowL codZ t.zones.length fun i' => mergeL (decide (i' = (0 : Nat) + n.toNat)) (setL (mergeL (decide ((0 : Nat) + n.toNat =
    (0 : Nat) + n.toNat)) (setL (codZ.enc (l.getD ((0 : Nat) + n.toNat) codZ.dft)) ((0 : Nat) + (1 : Nat) + (1 : Nat)) [SV.int IntKind.i64 (W ((l.getD ((0 : Nat) + n.toNat)
    codZ.dft).lox + b)), SV.int IntKind.i64 (W ((l.getD ((0 : Nat) + n.toNat) codZ.dft).loy - b))]) (codZ.enc (l.getD ((0 : Nat) + n.toNat) codZ.dft))) ((0 : Nat) +
    (1 : Nat) + (1 : Nat) + (1 : Nat) + (1 : Nat)) [SV.int IntKind.i64 (W ((l.getD ((0 : Nat) + n.toNat) codZ.dft).hix + b)), SV.int IntKind.i64 (W ((l.getD ((0 : Nat)
    + n.toNat) codZ.dft).hiy - b))]) (mergeL (decide (i' = (0 : Nat) + n.toNat)) (setL (codZ.enc (l.getD ((0 : Nat) + n.toNat) codZ.dft)) ((0 : Nat) + (1 : Nat) + (1
    : Nat)) [SV.int IntKind.i64 (W ((l.getD ((0 : Nat) + n.toNat) codZ.dft).lox + b)), SV.int IntKind.i64 (W ((l.getD ((0 : Nat) + n.toNat) codZ.dft).loy - b))]) (codZ.enc
    (l.getD i' codZ.dft)))).getD i codZ.dft).loy ∧ (if decide (i = (0 : Nat) + n.toNat) = true then W ((l.getD ((0 : Nat) + n.toNat) codZ.dft).hix + b) else if decide
    (i = (0 : Nat) + n.toNat) = true then (l.getD ((0 : Nat) + n.toNat) codZ.dft).hix else (l.getD i codZ.dft).hix) = ((rowL codZ t.zones.length fun i' => mergeL (decide
    (i' = (0 : Nat) + n.toNat)) (setL (mergeL (decide ((0 : Nat) + n.toNat = (0 : Nat) + n.toNat)) (setL (codZ.enc (l.getD ((0 : Nat) + n.toNat) codZ.dft)) ((0 : Nat)
    + (1 : Nat) + (1 : Nat)) [SV.int IntKind.i64 (W ((l.getD ((0 : Nat) + n.toNat) codZ.dft).lox + b)), SV.int IntKind.i64 (W ((l.getD ((0 : Nat) + n.toNat) codZ.dft).loy
    - b))]) (codZ.enc (l.getD ((0 : Nat) + n.toNat) codZ.dft))) ((0 : Nat) + (1 : Nat) + (1 : Nat) + (1 : Nat) + (1 : Nat)) [SV.int IntKind.i64 (W ((l.getD ((0 : Nat)
    + n.toNat) codZ.dft).hix + b)), SV.int IntKind.i64 (W ((l.getD ((0 : Nat) + n.toNat) codZ.dft).hiy - b))]) (mergeL (decide (i' = (0 : Nat) + n.toNat)) (setL (codZ.enc
    (l.getD ((0 : Nat) + n.toNat) codZ.dft)) ((0 : Nat) + (1 : Nat) + (1 : Nat)) [SV.int IntKind.i64 (W ((l.getD ((0 : Nat) + n.toNat) codZ.dft).lox + b)), SV.int IntKind.i64
    (W ((l.getD ((0 : Nat) + n.toNat) codZ.dft).loy - b))]) (codZ.enc (l.getD i' codZ.dft)))).getD i codZ.dft).hix ∧ (if decide (i = (0 : Nat) + n.toNat) = true then
    W ((l.getD ((0 : Nat) + n.toNat) codZ.dft).hiy - b) else if decide (i = (0 : Nat) + n.toNat) = true then (l.getD ((0 : Nat) + n.toNat) codZ.dft).hiy else (l.getD
    i codZ.dft).hiy) = ((rowL codZ t.zones.length fun i' => mergeL (decide (i' = (0 : Nat) + n.toNat)) (setL (mergeL (decide ((0 : Nat) + n.toNat = (0 : Nat) + n.toNat))
    (setL (codZ.enc (l.getD ((0 : Nat) + n.toNat) codZ.dft)) ((0 : Nat) + (1 : Nat) + (1 : Nat)) [SV.int IntKind.i64 (W ((l.getD ((0 : Nat) + n.toNat) codZ.dft).lox
    + b)), SV.int IntKind.i64 (W ((l.getD ((0 : Nat) + n.toNat) codZ.dft).loy - b))]) (codZ.enc (l.getD ((0 : Nat) + n.toNat) codZ.dft))) ((0 : Nat) + (1 : Nat) + (1
    : Nat) + (1 : Nat) + (1 : Nat)) [SV.int IntKind.i64 (W ((l.getD ((0 : Nat) + n.toNat) codZ.dft).hix + b)), SV.int IntKind.i64 (W ((l.getD ((0 : Nat) + n.toNat) codZ.dft).hiy
    - b))]) (mergeL (decide (i' = (0 : Nat) + n.toNat)) (setL (codZ.enc (l.getD ((0 : Nat) + n.toNat) codZ.dft)) ((0 : Nat) + (1 : Nat) + (1 : Nat)) [SV.int IntKind.i64
    (W ((l.getD ((0 : Nat) + n.toNat) codZ.dft).lox + b)), SV.int IntKind.i64 (W ((l.getD ((0 : Nat) + n.toNat) codZ.dft).loy - b))]) (codZ.enc (l.getD i' codZ.dft)))).getD
    i codZ.dft).hiy ∧ (if decide (i = (0 : Nat) + n.toNat) = true then if decide ((0 : Nat) + n.toNat = (0 : Nat) + n.toNat) = true then (l.getD ((0 : Nat) + n.toNat)
    codZ.dft).hx else (l.getD ((0 : Nat) + n.toNat) codZ.dft).hx else if decide (i = (0 : Nat) + n.toNat) = true then (l.getD ((0 : Nat) + n.toNat) codZ.dft).hx else
    (l.getD i codZ.dft).hx) = ((rowL codZ t.zones.length fun i' => mergeL (decide (i' = (0 : Nat) + n.toNat)) (setL (mergeL (decide ((0 : Nat) + n.toNat = (0 : Nat)
    + n.toNat)) (setL (codZ.enc (l.getD ((0 : Nat) + n.toNat) codZ.dft)) ((0 : Nat) + (1 : Nat) + (1 : Nat)) [SV.int IntKind.i64 (W ((l.getD ((0 : Nat) + n.toNat) codZ.dft).lox
    + b)), SV.int IntKind.i64 (W ((l.getD ((0 : Nat) + n.toNat) codZ.dft).loy - b))]) (codZ.enc (l.getD ((0 : Nat) + n.toNat) codZ.dft))) ((0 : Nat) + (1 : Nat) + (1
    : Nat) + (1 : Nat) + (1 : Nat)) [SV.int IntKind.i64 (W ((l.getD ((0 : Nat) + n.toNat) codZ.dft).hix + b)), SV.int IntKind.i64 (W ((l.getD ((0 : Nat) + n.toNat) codZ.dft).hiy
    - b))]) (mergeL (decide (i' = (0 : Nat) + n.toNat)) (setL (codZ.enc (l.getD ((0 : Nat) + n.toNat) codZ.dft)) ((0 : Nat) + (1 : Nat) + (1 : Nat)) [SV.int IntKind.i64
    (W ((l.getD ((0 : Nat) + n.toNat) codZ.dft).lox + b)), SV.int IntKind.i64 (W ((l.getD ((0 : Nat) + n.toNat) codZ.dft).loy - b))]) (codZ.enc (l.getD i' codZ.dft)))).getD
    i codZ.dft).hx ∧ (if decide (i = (0 : Nat) + n.toNat) = true then if decide ((0 : Nat) + n.toNat = (0 : Nat) + n.toNat) = true then (l.getD ((0 : Nat) + n.toNat)
    codZ.dft).hy else (l.getD ((0 : Nat) + n.toNat) codZ.dft).hy else if decide (i = (0 : Nat) + n.toNat) = true then (l.getD ((0 : Nat) + n.toNat) codZ.dft).hy else
    (l.getD i codZ.dft).hy) = ((rowL codZ t.zones.length fun i' => mergeL (decide (i' = (0 : Nat) + n.toNat)) (setL (mergeL (decide ((0 : Nat) + n.toNat = (0 : Nat)
    + n.toNat)) (setL (codZ.enc (l.getD ((0 : Nat) + n.toNat) codZ.dft)) ((0 : Nat) + (1 : Nat) + (1 : Nat)) [SV.int IntKind.i64 (W ((l.getD ((0 : Nat) + n.toNat) codZ.dft).lox
    + b)), SV.int IntKind.i64 (W ((l.getD ((0 : Nat) + n.toNat) codZ.dft).loy - b))]) (codZ.enc (l.getD ((0 : Nat) + n.toNat) codZ.dft))) ((0 : Nat) + (1 : Nat) + (1
    : Nat) + (1 : Nat) + (1 : Nat)) [SV.int IntKind.i64 (W ((l.getD ((0 : Nat) + n.toNat) codZ.dft).hix + b)), SV.int IntKind.i64 (W ((l.getD ((0 : Nat) + n.toNat) codZ.dft).hiy
    - b))]) (mergeL (decide (i' = (0 : Nat) + n.toNat)) (setL (codZ.enc (l.getD ((0 : Nat) + n.toNat) codZ.dft)) ((0 : Nat) + (1 : Nat) + (1 : Nat)) [SV.int IntKind.i64
    (W ((l.getD ((0 : Nat) + n.toNat) codZ.dft).lox + b)), SV.int IntKind.i64 (W ((l.getD ((0 : Nat) + n.toNat) codZ.dft).loy - b))]) (codZ.enc (l.getD i' codZ.dft)))).getD
    i codZ.dft).hy ∧ (if decide (i = (0 : Nat) + n.toNat) = true then if decide ((0 : Nat) + n.toNat = (0 : Nat) + n.toNat) = true then (l.getD ((0 : Nat) + n.toNat)
    codZ.dft).coil else (l.getD ((0 : Nat) + n.toNat) codZ.dft).coil else if decide (i = (0 : Nat) + n.toNat) = true then (l.getD ((0 : Nat) + n.toNat) codZ.dft).coil
    else (l.getD i codZ.dft).coil) = ((rowL codZ t.zones.length fun i' => mergeL (decide (i' = (0 : Nat) + n.toNat)) (setL (mergeL (decide ((0 : Nat) + n.toNat = (0
    : Nat) + n.toNat)) (setL (codZ.enc (l.getD ((0 : Nat) + n.toNat) codZ.dft)) ((0 : Nat) + (1 : Nat) + (1 : Nat)) [SV.int IntKind.i64 (W ((l.getD ((0 : Nat) + n.toNat)
    codZ.dft).lox + b)), SV.int IntKind.i64 (W ((l.getD ((0 : Nat) + n.toNat) codZ.dft).loy - b))]) (codZ.enc (l.getD ((0 : Nat) + n.toNat) codZ.dft))) ((0 : Nat) +
    (1 : Nat) + (1 : Nat) + (1 : Nat) + (1 : Nat)) [SV.int IntKind.i64 (W ((l.getD ((0 : Nat) + n.toNat) codZ.dft).hix + b)), SV.int IntKind.i64 (W ((l.getD ((0 : Nat)
    + n.toNat) codZ.dft).hiy - b))]) (mergeL (decide (i' = (0 : Nat) + n.toNat)) (setL (codZ.enc (l.getD ((0 : Nat) + n.toNat) codZ.dft)) ((0 : Nat) + (1 : Nat) + (1
    : Nat)) [SV.int IntKind.i64 (W ((l.getD ((0 : Nat) + n.toNat) codZ.dft).lox + b)), SV.int IntKind.i64 (W ((l.getD ((0 : Nat) + n.toNat) codZ.dft).loy - b))]) (codZ.enc
    (l.getD i' codZ.dft)))).getD i codZ.dft).coil ∧ True) ∧ True) ∧ True)))) ∧ (decide (n < ↑t.zones.length) = false → True ∧ True ∧ True ∧ True ∧ True ∧ True ∧ True
    ∧ True ∧ True ∧ True ∧ True ∧ True ∧ True ∧ ((0 : Nat) + t.zones.length ≤ t.zones.length ∧ ∀ (i : Nat), i < t.zones.length → true = true) ∧ True ∧ True ∧ True ∧
    True ∧ True ∧ True ∧ True ∧ True ∧ ((((true = true ∧ true = true ∧ true = true ∧ true = true ∧ true = true ∧ true = true ∧ true = true ∧ true = true ∧ true = true
    ∧ true = true ∧ true = true ∧ true = true) ∧ ∀ (i : Nat), i < t.zones.length → true = true ∧ True) ∧ True ∧ True ∧ True) ∧ (rowL codZ t.zones.length fun i => codZ.enc
    (l.getD ((0 : Nat) + i) codZ.dft)).length ≤ (1000 : Nat)) ∧ True ∧ True ∧ True ∧ True ∧ ((((true = true ∧ true = true ∧ true = true ∧ true = true ∧ true = true ∧
    true = true ∧ true = true ∧ true = true ∧ true = true ∧ true = true ∧ true = true ∧ true = true) ∧ ∀ (i : Nat), i < t.zones.length → true = true ∧ True) ∧ True ∧
    True ∧ True) ∧ (rowL codZ t.zones.length fun i => codZ.enc (t.zones.getD i codZ.dft)).length ≤ (1000 : Nat)) ∧ (True ∧ True) ∧ IsT true ∧ True ∧ eqSegs [Seg.s (SV.int
    IntKind.i64 (halX { radius := t.radius, gx := t.gx, gy := t.gy, drag := t.drag, shift := t.shift, zones := rowL codZ t.zones.length fun i => codZ.enc (l.getD ((0 : Nat) + i) codZ.dft) : Tb }
    (4294967295 : Int) (0 : Int) (W (x + b)) (W (y - b)))), Seg.s (SV.int IntKind.i64 (halY { radius := t.radius, gx := t.gx, gy := t.gy, drag := t.drag, shift := t.shift, zones := rowL codZ t.zones.length fun i => codZ.enc (l.getD ((0 : Nat) + i) codZ.dft) : Tb }
    (4294967295 : Int) (0 : Int) (W (x + b)) (W (y - b))))] [Seg.s (SV.int IntKind.i64 (halX { radius := t.radius, gx := t.gx, gy := t.gy, drag := t.drag, shift := t.shift, zones := rowL codZ t.zones.length fun i => codZ.enc (t.zones.getD i codZ.dft) : Tb }
    (4294967295 : Int) (0 : Int) x y)), Seg.s (SV.int IntKind.i64 (halY { radius := t.radius, gx := t.gx, gy := t.gy, drag := t.drag, shift := t.shift, zones := rowL codZ t.zones.length fun i => codZ.enc (t.zones.getD i codZ.dft) : Tb }
    (4294967295 : Int) (0 : Int) x y))] = true ∧ True))))))) = vc6 t x y b := by kernel_rfl
theorem row_two {N n : Nat} {l : List Zn} {f : Nat → List SV} (z : Zn) (hl : l.length = N) (hf : ∀ i, f i = codZ.enc (if i = n then z else l.getD i codZ.dft)) : rowL codZ N f = l.set n z := by
  refine rowL_of (by simp [hl]) fun j hj => ?_
  rw [hf, codZ.self]
  by_cases e : j = n
  · subst e; simp [List.getD_eq_getElem?_getD, List.getElem?_set, hl, hj]
  · simp [List.getD_eq_getElem?_getD, List.getElem?_set, e, Ne.symm e]
theorem mv_len (b : Int) (zs : List Zn) (i : Nat) : (mvL b zs i).length = zs.length := by
  simp only [mvL, List.length_append, List.length_map, List.length_take, List.length_drop]; omega
theorem mv_at (b : Int) (zs : List Zn) {i j : Nat} (hj : j < zs.length) (hi : i ≤ zs.length) : (mvL b zs i).getD j default = if j < i then mvZ b (zs.getD j default) else zs.getD j default := by
  simp only [mvL, List.getD_eq_getElem?_getD]
  by_cases h : j < i
  · rw [if_pos h, List.getElem?_append_left (by simp; omega), List.getElem?_map, List.getElem?_take, if_pos h, List.getElem?_eq_getElem hj]; rfl
  · rw [if_neg h, List.getElem?_append_right (by simp; omega), List.getElem?_drop]
    congr 2
    simp; omega
theorem zn_ext {l l' : List Zn} (hl : l.length = l'.length) (h : ∀ k, k < l.length → l.getD k default = l'.getD k default) : l = l' := by
  refine List.ext_getElem hl fun k h1 h2 => ?_
  have := h k h1
  simpa [List.getD_eq_getElem?_getD, h1, h2] using this
theorem mv_step (b : Int) (zs : List Zn) {i : Nat} (hi : i < zs.length) : (mvL b zs i).set i (mvZ b (zs.getD i default)) = mvL b zs (i + 1) := by
  refine zn_ext (by simp [mv_len]) fun k hk => ?_
  rw [List.length_set, mv_len] at hk
  rw [mv_at b zs hk (by omega)]
  simp only [List.getD_eq_getElem?_getD, List.getElem?_set]
  by_cases e : i = k
  · subst e; rw [if_pos rfl, if_pos (by rw [mv_len]; exact hi), if_pos (by omega)]; rfl
  · rw [if_neg e, ← List.getD_eq_getElem?_getD, mv_at b zs hk (by omega), ← List.getD_eq_getElem?_getD]
    by_cases h : k < i
    · rw [if_pos h, if_pos (by omega)]
    · rw [if_neg h, if_neg (by omega)]
theorem come_mem {p : Zn → Bool} {zs : List Zn} {x : Int × Zn} : ∀ {m : Nat}, x ∈ come p zs m → ∃ j, j < m ∧ x = ((j : Int), zs.getD j default) ∧ p (zs.getD j default) = true
  | 0, h => by simp [come] at h
  | m + 1, h => by
    rw [come_succ] at h
    by_cases q : p (zs.getD m default) = true
    · rw [if_pos q, List.mem_append] at h
      rcases h with h | h
      · obtain ⟨j, j1, j2, j3⟩ := come_mem h
        exact ⟨j, by omega, j2, j3⟩
      · simp only [List.mem_singleton] at h
        exact ⟨m, by omega, h, q⟩
    · rw [if_neg q] at h
      obtain ⟨j, j1, j2, j3⟩ := come_mem h
      exact ⟨j, by omega, j2, j3⟩
theorem zon_not {t : Tb} {c lv py : Int} {n : Int} {z : Zn} (hz : t.zones.getD n.toNat default = z) {k : Nat} (hk : k < (zonL t c lv z.lox py).length) : ¬ (zonL t c lv z.lox py).getD k 0 = n := by
  intro e
  have hm : n ∈ zonL t c lv z.lox py := by
    rw [← e, List.getD_eq_getElem?_getD, List.getElem?_eq_getElem hk]
    exact List.getElem_mem hk
  simp only [zonL, List.mem_map] at hm
  obtain ⟨x, hx, rfl⟩ := hm
  obtain ⟨j, _, rfl, hj⟩ := come_mem hx
  have e2 : t.zones.getD j default = z := by rw [← hz]; congr 1
  rw [e2] at hj
  have := (act_iff.1 hj).1
  omega
theorem act_mv (c lv px py b : Int) (z : Zn) : act c lv (px + b) (py - b) (mvZ b z) = act c lv px py z := by
  rw [Bool.eq_iff_iff, act_iff, act_iff]
  have e1 : (mvZ b z).lox = z.lox + b := rfl
  have e2 : (mvZ b z).loy = z.loy - b := rfl
  have e3 : (mvZ b z).hix = z.hix + b := rfl
  have e4 : (mvZ b z).hiy = z.hiy - b := rfl
  have e5 : (mvZ b z).level = z.level := rfl
  have e6 : (mvZ b z).coil = z.coil := rfl
  rw [e1, e2, e3, e4, e5, e6]
  refine ⟨fun ⟨a1, a2, a3, a4, a5, a6⟩ => ⟨by omega, by omega, by omega, by omega, a5, a6⟩, fun ⟨a1, a2, a3, a4, a5, a6⟩ => ⟨by omega, by omega, by omega, by omega, a5, a6⟩⟩
theorem come_mv (c lv px py b : Int) (zs : List Zn) : ∀ k, k ≤ zs.length → come (act c lv (px + b) (py - b)) (zs.map (mvZ b)) k = (come (act c lv px py) zs k).map fun x => (x.1, mvZ b x.2)
  | 0, _ => rfl
  | k + 1, h => by
    have e : (zs.map (mvZ b)).getD k default = mvZ b (zs.getD k default) := by
      simp only [List.getD_eq_getElem?_getD, List.getElem?_map, List.getElem?_eq_getElem (show k < zs.length by omega)]; rfl
    rw [come_succ, come_succ, e, act_mv, come_mv c lv px py b zs k (by omega)]
    split
    · rw [List.map_append]; rfl
    · rfl
theorem sum_mv (gx gy b : Int) (l : List (Int × Zn)) : sumH gx gy (l.map fun x => (x.1, mvZ b x.2)) = sumH gx gy l := by
  simp only [sumH, List.foldl_map, mvZ]
theorem mv_all (b : Int) (zs : List Zn) {n : Nat} (h : zs.length ≤ n) : mvL b zs n = zs.map (mvZ b) := by
  simp only [mvL]
  rw [List.take_of_length_le h, List.drop_of_length_le h, List.append_nil]
theorem hal_mv (t : Tb) (c lv px py b : Int) : halX ⟨t.radius, t.gx, t.gy, t.drag, t.shift, t.zones.map (mvZ b)⟩ c lv (px + b) (py - b) = halX t c lv px py ∧ halY ⟨t.radius, t.gx, t.gy, t.drag, t.shift, t.zones.map (mvZ b)⟩ c lv (px + b) (py - b) = halY t c lv px py := by
  simp only [halX, halY, List.length_map]
  rw [come_mv c lv px py b t.zones _ (Nat.le_refl _), sum_mv]
  exact ⟨rfl, rfl⟩
theorem t6 (t : Tb) (x y b : Int) (hl : t.zones.length ≤ 9223372036854775807) : vc6 t x y b := by
  rw [← vc6_eq]
  simp [-List.getD_eq_getElem?_getD, tb_eta, eqSegs, eqCell]
  simp only [zd]
  refine ⟨hl, fun h1 h2 h3 h4 => ?_⟩
  have lf := (few_iff.1 h1).1
  refine ⟨by omega, by simp only [J6, mvL]; exact ⟨by omega, by omega, rfl, fun j hj => by simp at hj⟩, fun n l hJ => ?_⟩
  simp only [J6] at hJ ⊢
  obtain ⟨n0, n1, hlm, hnear⟩ := hJ
  refine ⟨fun hn => ?_, fun hn => ?_⟩
  · have el : l.getD n.toNat default = t.zones.getD n.toNat default := by rw [hlm, mv_at b t.zones (by omega) (by omega), if_neg (by omega)]
    rw [el]
    generalize hzn : t.zones.getD n.toNat default = z
    refine ⟨⟨n0, hn⟩, by omega, fun s1 s2 => ⟨⟨n0, hn⟩, by omega, ⟨n0, hn⟩, by omega, by omega, fun k k0 k1 => ⟨fun hk => ?_, fun hk => ?_⟩⟩⟩
    · refine ⟨⟨k0, hk⟩, zon_not hzn (by omega), fun _ => ?_⟩
      have := zon_le t 4294967295 z.level z.lox z.loy
      rw [W_id (n := k + 1) (by omega) (by omega)]; omega
    · have b1 := sm_iff'.1 s1
      have b2 := sm_iff'.1 s2
      have ll : l.length = t.zones.length := by rw [hlm, mv_len]
      rw [W_id (n := z.lox + b) (by omega) (by omega), W_id (n := z.loy - b) (by omega) (by omega), W_id (n := z.hix + b) (by omega) (by omega), W_id (n := z.hiy - b) (by omega) (by omega), W_id (n := n + 1) (by omega) (by omega)]
      rw [row_two (n := n.toNat) (l := l) (mvZ b z) ll (fun i => by
        by_cases e : i = n.toNat
        · rw [decide_eq_true e, if_pos e]; rfl
        · rw [decide_eq_false e, if_neg e]; rfl)]
      refine ⟨⟨by omega, by omega, ?_, fun j hj => ?_⟩, by omega, fun i hi => ?_⟩
      · rw [show (n + 1).toNat = n.toNat + 1 by omega, hlm, ← hzn, mv_step b t.zones (by omega)]
      · by_cases e : j = n.toNat
        · rw [e, hzn]; simp only [nearB, s1, s2]; rfl
        · exact hnear j (by omega)
      · rw [getD_set (by omega)]
        by_cases e : i = n.toNat
        · simp only [if_pos e, mvZ, and_self]
        · simp only [if_neg e, and_self]
  · have ll : l.length = t.zones.length := by rw [hlm, mv_len]
    have bs := sm_iff'.1 h2
    have er : (rowL codZ t.zones.length fun i => [SV.str (l.getD i default).name, SV.int IntKind.i64 (l.getD i default).level, SV.int IntKind.i64 (l.getD i default).lox, SV.int IntKind.i64 (l.getD i default).loy, SV.int IntKind.i64 (l.getD i default).hix, SV.int IntKind.i64 (l.getD i default).hiy, SV.int IntKind.i64 (l.getD i default).hx, SV.int IntKind.i64 (l.getD i default).hy, SV.int IntKind.i64 (l.getD i default).coil]) = l := rowL_enc (C := codZ) ll.symm
    rw [er, hlm, mv_all b t.zones (by omega), W_id (n := x + b) (by omega) (by omega), W_id (n := y - b) (by omega) (by omega)]
    exact ⟨by omega, hal_mv t 4294967295 0 x y b⟩
end Go.Proofs.Fi
