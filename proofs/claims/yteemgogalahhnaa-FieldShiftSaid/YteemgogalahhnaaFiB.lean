import Derived.Test.YteemgogalahhnaaFiA
namespace Go.Proofs.Fi
set_option linter.unusedVariables false
set_option linter.unusedSimpArgs false
open Go Go.Sx Go.Proofs
set_option maxRecDepth 100000
set_option maxHeartbeats 4000000
-- SAME: sm
-- ABBR: IntKind.i64.wrap ==> W
abbrev iS (n : Int) : SV := .int .i64 n
theorem hm : Try.prog.follows .mixedOrders = true := by kernel_rfl
abbrev cva (T : List (Nat × Ctr)) (fn : Func) (A : List Ann) (args : List SV) (r : SV) : Prop := callVA Try.prog (tab T) fn (codeOf fn) A args r
def sm {α : Type} (x : α) : Prop := x = x
@[simp] theorem sm_iff {α : Type} (x : α) : sm x ↔ True := ⟨fun _ => trivial, fun _ => rfl⟩
def W (n : Int) : Int := IntKind.i64.wrap n
/-- A place, a velocity. -/
structure Vc where
  x : Int
  y : Int
  deriving DecidableEq
def codV : Cod Vc where
  n := 2
  enc a := [.int .i64 a.x, .int .i64 a.y]
  dec := fun | [x0, x1] => oB (rI .i64 x0) fun a0 => oB (rI .i64 x1) fun a1 => some ⟨a0, a1⟩ | _ => none
  dft := ⟨0, 0⟩
  good _ := True
  fine _ := trivial
  ok l a h _ := by
    split at h
    case h_2 => cases h
    obtain ⟨a0, h0, h⟩ := oB_ok h
    obtain ⟨a1, h1, h⟩ := oB_ok h
    cases h
    exact ⟨rI_leZ h0, rI_leZ h1, trivial⟩
  self _ := rfl
  len _ := rfl
  mrg c x y a b h k := by
    split at h
    case h_2 => cases h
    split at k
    case h_2 => cases k
    obtain ⟨a0, h0, h⟩ := oB_ok h
    obtain ⟨b0, k0, k⟩ := oB_ok k
    obtain ⟨a1, h1, h⟩ := oB_ok h
    obtain ⟨b1, k1, k⟩ := oB_ok k
    cases h; cases k
    simp only [mergeL, rI_mrg h0 k0, rI_mrg h1 k1, oB_some]
    cases c <;> rfl
def codVW (a : Vc) : Prop := (Lit.int .i64 a.x).wf = true ∧ (Lit.int .i64 a.y).wf = true
theorem codV_acc : codV.Acc [.int .i64, .int .i64] codVW := by
  intro svs h
  simp only [HasKL, HasK] at h
  obtain ⟨x0, r0, rfl, ⟨a0, rfl, h0⟩, x1, r1, rfl, ⟨a1, rfl, h1⟩, rfl⟩ := h
  exact ⟨⟨a0, a1⟩, rfl, trivial, h0, h1⟩
abbrev vS (x y : Int) : SV := .agg [.s (iS x), .s (iS y)]
abbrev vE (v : Vc) : SV := vS v.x v.y
def argV : Arg Vc := argA codV
def argT : Arg Tb := argA codTb
def argZ : Arg Zn := argA codZ
def tE (t : Tb) : SV := .agg ((codTb.enc t).map .s)
def zE (z : Zn) : SV := .agg ((codZ.enc z).map .s)
abbrev rg (n : Int) : Prop := -9223372036854775808 ≤ n ∧ n < 9223372036854775808
def smB (x y : Int) : Bool := decide (-1099511627776 ≤ x ∧ x ≤ 1099511627776 ∧ -1099511627776 ≤ y ∧ y ≤ 1099511627776)
def limI (x m : Int) : Int := if m < (if W (0 - m) > x then W (0 - m) else x) then m else if W (0 - m) > x then W (0 - m) else x
def limT (r : Int) : Int := if r < 0 then 0 else if 2048 < r then 16384 else 8 * r
def outB (x y : Int) : Bool := if 0 ≤ y then decide (x < 0 ∨ y < x) else decide (0 < x ∨ x < y)
def shN (s : Int) : Nat := min s.toNat 62
def drI (s x : Int) : Int := x - x.tdiv (2 ^ shN s)
def drB (d k : Int) : Bool := decide (d ≤ 0 ∨ ¬ k.tmod d = 0)
def drV (t : Tb) (k x : Int) : Int := if drB t.drag k then x else drI t.shift x
abbrev XD := Int × Int
def J21 (x s : Int) (p : XD) : Prop := 0 ≤ p.1 ∧ p.1 ≤ s ∧ p.2 = x.tdiv (2 ^ p.1.toNat)
attribute [irreducible] W smB limI limT outB shN drI drB drV J21
def sV := Sig.one argV
def sT := Sig.one argT
def sI := Sig.one (argI .i64)
def sII := Sig.cons (argI .i64) sI
def sVI := Sig.cons argV sI
def sTV := Sig.cons argT sV
def sTIV := Sig.cons argT (Sig.cons (argI .i64) sV)
def T8 : List (Nat × Ctr) := [(8, ctr sV.dec (fun _ => True) (fun a => .bool (smB a.x a.y)))]
def vc8 (x y : Int) : Prop := cva [] Try.f8 [] [vS x y] (.bool (smB x y))
def T22 : List (Nat × Ctr) := (22, ctr sVI.dec (fun _ => True) (fun a => vS (limI a.1.x a.2) (limI a.1.y a.2))) :: T8
def vc22 (x y n : Int) : Prop := cva T8 Try.f22 [] [vS x y, iS n] (vS (limI x n) (limI y n))
def T23 : List (Nat × Ctr) := (23, ctr sII.dec (fun _ => True) (fun a => iS (limI a.1 a.2))) :: T22
def vc23 (x n : Int) : Prop := cva T22 Try.f23 [] [iS x, iS n] (iS (limI x n))
def T11 : List (Nat × Ctr) := (11, ctr sT.dec (fun _ => True) (fun a => iS (limT a.radius))) :: T23
def vc11 (t : Tb) : Prop := cva T23 Try.f11 [] [tE t] (iS (limT t.radius))
def T12 : List (Nat × Ctr) := (12, ctr sT.dec (fun _ => True) (fun a => iS (limT a.radius))) :: T11
def vc12 (t : Tb) : Prop := cva T11 Try.f12 [] [tE t] (iS (limT t.radius))
def T15 : List (Nat × Ctr) := (15, ctr sII.dec (fun _ => True) (fun a => .bool (outB a.1 a.2))) :: T12
def vc15 (x y : Int) : Prop := cva T12 Try.f15 [] [iS x, iS y] (.bool (outB x y))
def A21 (x s : Int) : List Ann := [⟨.unit, .list [.int .i64 (.tm 5), .int .i64 (.tm 0)], fun _ (p : XD) => J21 x s p, fun _ (p : XD) => (s - p.1).toNat⟩]
def T21 : List (Nat × Ctr) := (21, ctr sII.dec (fun a => rg a.1 ∧ 0 ≤ a.2 ∧ a.2 ≤ 62) (fun a => iS (a.1.tdiv (2 ^ a.2.toNat)))) :: T15
def vc21 (x s : Int) : Prop := cva T15 Try.f21 (A21 x s) [iS x, iS s] (iS (x.tdiv (2 ^ s.toNat)))
def cDr : Ctr := ctr sTIV.dec (fun a => rg a.2.2.x ∧ rg a.2.2.y) (fun a => vS (drV a.1 a.2.1 a.2.2.x) (drV a.1 a.2.1 a.2.2.y))
def T9 : List (Nat × Ctr) := (9, cDr) :: T21
def vc9 (t : Tb) (k x y : Int) : Prop := cva T21 Try.f9 [] [tE t, iS k, vS x y] (vS (drV t k x) (drV t k y))
def T10 : List (Nat × Ctr) := (10, cDr) :: T9
def vc10 (t : Tb) (k x y : Int) : Prop := cva T9 Try.f10 [] [tE t, iS k, vS x y] (vS (drV t k x) (drV t k y))
def cCap : Ctr := ctr sTV.dec (fun a => True) (fun a => vS (limI a.2.x (limT a.1.radius)) (limI a.2.y (limT a.1.radius)))
def T13 : List (Nat × Ctr) := (13, cCap) :: T10
def vc13 (t : Tb) (x y : Int) : Prop := cva T10 Try.f13 [] [tE t, vS x y] (vS (limI x (limT t.radius)) (limI y (limT t.radius)))
def T14 : List (Nat × Ctr) := (14, cCap) :: T13
def vc14 (t : Tb) (x y : Int) : Prop := cva T13 Try.f14 [] [tE t, vS x y] (vS (limI x (limT t.radius)) (limI y (limT t.radius)))
def sZCIV := Sig.cons argZ (Sig.cons (argI .u32) (Sig.cons (argI .i64) sV))
def T25 : List (Nat × Ctr) := (25, ctr sZCIV.dec (fun _ => True) (fun a => .bool (act a.2.1 a.2.2.1 a.2.2.2.x a.2.2.2.y a.1))) :: T14
def vc25 (z : Zn) (c lv px py : Int) : Prop := cva T14 Try.f25 [] [zE z, .int .u32 c, iS lv, vS px py] (.bool (act c lv px py z))
theorem vc8_eq (x y : Int) : (True ∧ (decide (x ≥ (-1099511627776 : Int)) = true → (decide (x ≤ (1099511627776 : Int)) = true → (decide (y ≥ (-1099511627776 : Int)) = true → True ∧ True ∧ decide
    (y ≤ (1099511627776 : Int)) = smB x y ∧ True) ∧ (decide (y ≥ (-1099511627776 : Int)) = false → True ∧ True ∧ smB x y = false ∧ True)) ∧ (decide (x ≤ (1099511627776
    : Int)) = false → True ∧ True ∧ smB x y = false ∧ True)) ∧ (decide (x ≥ (-1099511627776 : Int)) = false → True ∧ True ∧ smB x y = false ∧ True)) = vc8 x y := by kernel_rfl
theorem vc22_eq (x y n : Int) : (True ∧ True ∧ True ∧ ((if n < if W ((0 : Int) - n) > x then W ((0 : Int) - n) else x then n else if W ((0 : Int) - n) > x then W ((0 : Int) - n) else x) = limI x
    n ∧ (if n < if W ((0 : Int) - n) > y then W ((0 : Int) - n) else y then n else if W ((0 : Int) - n) > y then W ((0 : Int) - n) else y) = limI y n ∧ True) ∧ True) = vc22 x y n := by kernel_rfl
theorem vc23_eq (x n : Int) : (True ∧ True ∧ True ∧ (if n < if W ((0 : Int) - n) > x then W ((0 : Int) - n) else x then n else if W ((0 : Int) - n) > x then W ((0 : Int) - n) else x) = limI x
    n ∧ True) = vc23 x n := by kernel_rfl
theorem vc11_eq (t : Tb) : (True ∧ True ∧ True ∧ (if W ((8 : Int) * if (16384 : Int) < if (0 : Int) > t.radius then (0 : Int) else t.radius then (16384 : Int) else if (0 : Int) > t.radius then
    (0 : Int) else t.radius) < (16384 : Int) then W ((8 : Int) * if (16384 : Int) < if (0 : Int) > t.radius then (0 : Int) else t.radius then (16384 : Int) else if (0
    : Int) > t.radius then (0 : Int) else t.radius) else (16384 : Int)) = limT t.radius ∧ True) = vc11 t := by kernel_rfl
theorem vc12_eq (t : Tb) : (True ∧ True ∧ (decide (t.radius < (0 : Int)) = true → True ∧ True ∧ (0 : Int) = limT t.radius ∧ True) ∧ (decide (t.radius < (0 : Int)) = false → True ∧ (decide (t.radius
    > (16384 : Int)) = true → True ∧ True ∧ (16384 : Int) = limT t.radius ∧ True) ∧ (decide (t.radius > (16384 : Int)) = false → True ∧ True ∧ (if W ((8 : Int) * t.radius)
    < (16384 : Int) then W ((8 : Int) * t.radius) else (16384 : Int)) = limT t.radius ∧ True))) = vc12 t := by kernel_rfl
theorem vc15_eq (x y : Int) : (True ∧ True ∧ (decide (y ≥ (0 : Int)) = true → (decide (x < (0 : Int)) = true → True ∧ True ∧ outB x y = true ∧ True) ∧ (decide (x < (0 : Int)) = false → True ∧
    True ∧ decide (x > y) = outB x y ∧ True)) ∧ (decide (y ≥ (0 : Int)) = false → (decide (x > (0 : Int)) = true → True ∧ True ∧ outB x y = true ∧ True) ∧ (decide (x
    > (0 : Int)) = false → True ∧ True ∧ decide (x < y) = outB x y ∧ True))) = vc15 x y := by kernel_rfl
theorem vc21_eq (x s : Int) : (True ∧ True ∧ (J21 x s ((0 : Int), x) ∧ (x = x ∧ s = s ∧ True ∧ True ∧ sm ((0 : Int)) ∧ sm ((0 : Int)) ∧ True ∧ True ∧ True ∧ True ∧ True ∧ True ∧ True ∧ True ∧
    True ∧ True ∧ True ∧ True ∧ True) ∧ True) ∧ ∀ (n n_1 : Int), J21 x s (n, n_1) → (decide (n < s) = true → True ∧ (decide (n < (63 : Int)) = true → (2 : Int) ≠ (0
    : Int) ∧ True ∧ True ∧ J21 x s (W (n + (1 : Int)), W (n_1.tdiv (2 : Int))) ∧ (s - W (n + (1 : Int))).toNat < (s - n).toNat ∧ (sm (W (n_1.tdiv (2 : Int))) ∧ s = s
    ∧ True ∧ True ∧ sm ((0 : Int)) ∧ sm (W (n + (1 : Int))) ∧ True ∧ True ∧ True ∧ True ∧ True ∧ True ∧ True ∧ True ∧ True ∧ True ∧ True ∧ True ∧ True) ∧ True) ∧ (decide
    (n < (63 : Int)) = false → True ∧ True ∧ n_1 = x.tdiv ((2 : Int) ^ s.toNat) ∧ True)) ∧ (decide (n < s) = false → True ∧ True ∧ True ∧ n_1 = x.tdiv ((2 : Int) ^ s.toNat)
    ∧ True)) = vc21 x s := by kernel_rfl
theorem vc9_eq (t : Tb) (k x y : Int) : (True ∧ (decide (t.drag ≤ (0 : Int)) = true → True ∧ True ∧ True ∧ (x = drV t k x ∧ y = drV t k y ∧ True) ∧ True) ∧ (decide (t.drag ≤ (0 : Int)) = false → t.drag
    ≠ (0 : Int) ∧ True ∧ ((k.tmod t.drag != (0 : Int)) = true → True ∧ True ∧ (x = drV t k x ∧ y = drV t k y ∧ True) ∧ True) ∧ ((k.tmod t.drag != (0 : Int)) = false
    → (0 : Int) ≤ IntKind.u64.wrap (if (62 : Int) < if (0 : Int) > t.shift then (0 : Int) else t.shift then (62 : Int) else if (0 : Int) > t.shift then (0 : Int) else
    t.shift) ∧ True ∧ W ((1 : Int) * (2 : Int) ^ min (IntKind.u64.wrap (if (62 : Int) < if (0 : Int) > t.shift then (0 : Int) else t.shift then (62 : Int) else if (0
    : Int) > t.shift then (0 : Int) else t.shift)).toNat (64 : Nat)) ≠ (0 : Int) ∧ W ((1 : Int) * (2 : Int) ^ min (IntKind.u64.wrap (if (62 : Int) < if (0 : Int) > t.shift
    then (0 : Int) else t.shift then (62 : Int) else if (0 : Int) > t.shift then (0 : Int) else t.shift)).toNat (64 : Nat)) ≠ (0 : Int) ∧ IsT true ∧ True ∧ (W (x - W
    (x.tdiv (W ((1 : Int) * (2 : Int) ^ min (IntKind.u64.wrap (if (62 : Int) < if (0 : Int) > t.shift then (0 : Int) else t.shift then (62 : Int) else if (0 : Int) >
    t.shift then (0 : Int) else t.shift)).toNat (64 : Nat))))) = drV t k x ∧ W (y - W (y.tdiv (W ((1 : Int) * (2 : Int) ^ min (IntKind.u64.wrap (if (62 : Int) < if (0
    : Int) > t.shift then (0 : Int) else t.shift then (62 : Int) else if (0 : Int) > t.shift then (0 : Int) else t.shift)).toNat (64 : Nat))))) = drV t k y ∧ True) ∧
    True))) = vc9 t k x y := by kernel_rfl
theorem vc10_eq (t : Tb) (k x y : Int) : (True ∧ (decide (t.drag ≤ (0 : Int)) = true → True ∧ True ∧ True ∧ (x = drV t k x ∧ y = drV t k y ∧ True) ∧ True) ∧ (decide (t.drag ≤ (0 : Int)) = false → t.drag
    ≠ (0 : Int) ∧ True ∧ ((k.tmod t.drag != (0 : Int)) = true → True ∧ True ∧ (x = drV t k x ∧ y = drV t k y ∧ True) ∧ True) ∧ ((k.tmod t.drag != (0 : Int)) = false
    → True ∧ True ∧ True ∧ ((True ∧ True) ∧ ((-9223372036854775808 : Int) ≤ x ∧ x < (9223372036854775808 : Int)) ∧ ((0 : Int) ≤ if (62 : Int) < if (0 : Int) > t.shift
    then (0 : Int) else t.shift then (62 : Int) else if (0 : Int) > t.shift then (0 : Int) else t.shift) ∧ (if (62 : Int) < if (0 : Int) > t.shift then (0 : Int) else
    t.shift then (62 : Int) else if (0 : Int) > t.shift then (0 : Int) else t.shift) ≤ (62 : Int)) ∧ True ∧ True ∧ ((True ∧ True) ∧ ((-9223372036854775808 : Int) ≤ y
    ∧ y < (9223372036854775808 : Int)) ∧ ((0 : Int) ≤ if (62 : Int) < if (0 : Int) > t.shift then (0 : Int) else t.shift then (62 : Int) else if (0 : Int) > t.shift
    then (0 : Int) else t.shift) ∧ (if (62 : Int) < if (0 : Int) > t.shift then (0 : Int) else t.shift then (62 : Int) else if (0 : Int) > t.shift then (0 : Int) else
    t.shift) ≤ (62 : Int)) ∧ IsT true ∧ True ∧ (W (x - x.tdiv ((2 : Int) ^ (if (62 : Int) < if (0 : Int) > t.shift then (0 : Int) else t.shift then (62 : Int) else if
    (0 : Int) > t.shift then (0 : Int) else t.shift).toNat)) = drV t k x ∧ W (y - y.tdiv ((2 : Int) ^ (if (62 : Int) < if (0 : Int) > t.shift then (0 : Int) else t.shift
    then (62 : Int) else if (0 : Int) > t.shift then (0 : Int) else t.shift).toNat)) = drV t k y ∧ True) ∧ True))) = vc10 t k x y := by kernel_rfl
theorem vc13_eq (t : Tb) (x y : Int) : (True ∧ True ∧ (((true = true ∧ true = true ∧ true = true ∧ true = true ∧ true = true ∧ true = true ∧ true = true ∧ true = true ∧ true = true ∧ true = true ∧ true
    = true ∧ true = true) ∧ ∀ (i : Nat), i < t.zones.length → true = true ∧ True) ∧ True) ∧ True ∧ True ∧ ((True ∧ True) ∧ True) ∧ IsT true ∧ True ∧ (sm (limI x (limT
    t.radius)) ∧ sm (limI y (limT t.radius)) ∧ True) ∧ True) = vc13 t x y := by kernel_rfl
theorem vc14_eq (t : Tb) (x y : Int) : (True ∧ True ∧ (((true = true ∧ true = true ∧ true = true ∧ true = true ∧ true = true ∧ true = true ∧ true = true ∧ true = true ∧ true = true ∧ true = true ∧ true
    = true ∧ true = true) ∧ ∀ (i : Nat), i < t.zones.length → true = true ∧ True) ∧ True) ∧ True ∧ True ∧ ((True ∧ True) ∧ True) ∧ True ∧ (((true = true ∧ true = true
    ∧ true = true ∧ true = true ∧ true = true ∧ true = true ∧ true = true ∧ true = true ∧ true = true ∧ true = true ∧ true = true ∧ true = true) ∧ ∀ (i : Nat), i < t.zones.length
    → true = true ∧ True) ∧ True) ∧ True ∧ True ∧ ((True ∧ True) ∧ True) ∧ IsT true ∧ True ∧ (sm (limI x (limT t.radius)) ∧ sm (limI y (limT t.radius)) ∧ True) ∧ True) = vc14 t x y := by kernel_rfl
theorem vc25_eq (z : Zn) (c lv px py : Int) : (True ∧ ((z.coil == (-1 : Int)) = true → True ∧ ((z.level == lv) = true → (decide (z.lox < px) = true → (decide (px < z.hix) = true → (decide (z.loy < py) = true
    → True ∧ True ∧ decide (py < z.hiy) = act c lv px py z ∧ True) ∧ (decide (z.loy < py) = false → True ∧ True ∧ act c lv px py z = false ∧ True)) ∧ (decide (px < z.hix)
    = false → True ∧ True ∧ act c lv px py z = false ∧ True)) ∧ (decide (z.lox < px) = false → True ∧ True ∧ act c lv px py z = false ∧ True)) ∧ ((z.level == lv) = false
    → True ∧ True ∧ act c lv px py z = false ∧ True)) ∧ ((z.coil == (-1 : Int)) = false → (decide (z.coil ≥ (0 : Int)) = true → (decide (z.coil ≤ (31 : Int)) = true
    → (0 : Int) ≤ IntKind.u64.wrap z.coil ∧ True ∧ ((bits BinOp.and IntKind.u32 (c / (2 : Int) ^ min (IntKind.u64.wrap z.coil).toNat (32 : Nat)) (1 : Int) == (1 : Int))
    = true → ((z.level == lv) = true → (decide (z.lox < px) = true → (decide (px < z.hix) = true → (decide (z.loy < py) = true → True ∧ True ∧ decide (py < z.hiy) =
    act c lv px py z ∧ True) ∧ (decide (z.loy < py) = false → True ∧ True ∧ act c lv px py z = false ∧ True)) ∧ (decide (px < z.hix) = false → True ∧ True ∧ act c lv
    px py z = false ∧ True)) ∧ (decide (z.lox < px) = false → True ∧ True ∧ act c lv px py z = false ∧ True)) ∧ ((z.level == lv) = false → True ∧ True ∧ act c lv px
    py z = false ∧ True)) ∧ ((bits BinOp.and IntKind.u32 (c / (2 : Int) ^ min (IntKind.u64.wrap z.coil).toNat (32 : Nat)) (1 : Int) == (1 : Int)) = false → True ∧ True
    ∧ act c lv px py z = false ∧ True)) ∧ (decide (z.coil ≤ (31 : Int)) = false → True ∧ True ∧ True ∧ act c lv px py z = false ∧ True)) ∧ (decide (z.coil ≥ (0 : Int))
    = false → True ∧ True ∧ True ∧ act c lv px py z = false ∧ True))) = vc25 z c lv px py := by kernel_rfl
theorem W_id {n : Int} (h1 : -9223372036854775808 ≤ n) (h2 : n < 9223372036854775808) : W n = n := by
  unfold W
  simp [IntKind.wrap, IntKind.bits, IntKind.signed]; omega
theorem W_def (n : Int) : IntKind.i64.wrap n = W n := by unfold W; rfl
theorem W_rg (n : Int) : rg (W n) := by
  unfold W
  simp [rg, IntKind.wrap, IntKind.bits, IntKind.signed]; omega
theorem sm_iff' {x y : Int} : smB x y = true ↔ -1099511627776 ≤ x ∧ x ≤ 1099511627776 ∧ -1099511627776 ≤ y ∧ y ≤ 1099511627776 := by simp only [smB, decide_eq_true_eq]
theorem sm_no {x y : Int} (h : ¬ (-1099511627776 ≤ x ∧ x ≤ 1099511627776 ∧ -1099511627776 ≤ y ∧ y ≤ 1099511627776)) : smB x y = false := by simp only [smB]; exact decide_eq_false h
theorem k8 : TabOK Try.prog T8 := fn_tabA (T := []) trivial hm Try.func8 (by kernel_rfl) (by kernel_rfl) sV.ok (by kernel_rfl) (fun _ => []) fun a hp => by
  have h : vc8 a.x a.y := by
    rw [← vc8_eq]
    simp
    refine ⟨fun h1 => ⟨fun h2 => ⟨fun h3 => ?_, fun h3 => (sm_no (by omega))⟩, fun h2 => (sm_no (by omega))⟩, fun h1 => (sm_no (by omega))⟩
    by_cases h4 : a.y ≤ 1099511627776
    · rw [decide_eq_true h4, sm_iff'.2 ⟨h1, h2, h3, h4⟩]
    · rw [decide_eq_false h4, sm_no (by omega)]
  exact h
theorem k22 : TabOK Try.prog T22 := fn_tabA k8 hm Try.func22 (by kernel_rfl) (by kernel_rfl) sVI.ok (by kernel_rfl) (fun _ => []) fun a hp => by
  have h : vc22 a.1.x a.1.y a.2 := by
    rw [← vc22_eq]
    simp [limI]
  exact h
theorem k23 : TabOK Try.prog T23 := fn_tabA k22 hm Try.func23 (by kernel_rfl) (by kernel_rfl) sII.ok (by kernel_rfl) (fun _ => []) fun a hp => by
  have h : vc23 a.1 a.2 := by
    rw [← vc23_eq]
    simp [limI]
  exact h
theorem lim_eq (r v : Int) (hv : v = if 16384 < (if r < 0 then 0 else r) then 16384 else if r < 0 then 0 else r) : (if W (8 * v) < 16384 then W (8 * v) else 16384) = limT r := by
  have v0 : 0 ≤ v ∧ v ≤ 16384 := by
    rw [hv]; repeat' split
    all_goals omega
  rw [W_id (n := 8 * v) (by omega) (by omega)]
  simp only [limT]
  repeat' split at hv
  all_goals (repeat' split)
  all_goals omega
theorem k11 : TabOK Try.prog T11 := fn_tabA k23 hm Try.func11 (by kernel_rfl) (by kernel_rfl) sT.ok (by kernel_rfl) (fun _ => []) fun a hp => by
  have h : vc11 a := by
    rw [← vc11_eq]
    simp
    exact lim_eq _ _ rfl
  exact h
theorem k12 : TabOK Try.prog T12 := fn_tabA k11 hm Try.func12 (by kernel_rfl) (by kernel_rfl) sT.ok (by kernel_rfl) (fun _ => []) fun a hp => by
  have h : vc12 a := by
    rw [← vc12_eq]
    simp
    refine ⟨fun h => ?_, fun h => ⟨fun h2 => ?_, fun h2 => ?_⟩⟩
    · simp only [limT]; rw [if_pos h]
    · simp only [limT]; rw [if_neg (by omega), if_pos (by omega)]
    · exact lim_eq _ _ (by rw [if_neg (show ¬ a.radius < 0 by omega), if_neg (by omega)])
  exact h
theorem k15 : TabOK Try.prog T15 := fn_tabA k12 hm Try.func15 (by kernel_rfl) (by kernel_rfl) sII.ok (by kernel_rfl) (fun _ => []) fun a hp => by
  have h : vc15 a.1 a.2 := by
    rw [← vc15_eq]
    simp
    have e1 : 0 ≤ a.2 → outB a.1 a.2 = decide (a.1 < 0 ∨ a.2 < a.1) := fun h => by simp only [outB]; rw [if_pos h]
    have e2 : a.2 < 0 → outB a.1 a.2 = decide (0 < a.1 ∨ a.1 < a.2) := fun h => by simp only [outB]; rw [if_neg (by omega)]
    refine ⟨fun h => ⟨fun h2 => ?_, fun h2 => ?_⟩, fun h => ⟨fun h2 => ?_, fun h2 => ?_⟩⟩
    · rw [e1 h]; exact decide_eq_true (.inl h2)
    · rw [e1 h]; exact decide_eq_decide.2 (by omega)
    · rw [e2 h]; exact decide_eq_true (.inl h2)
    · rw [e2 h]; exact decide_eq_decide.2 (by omega)
  exact h
theorem tdiv_two (x : Int) (i : Nat) : (x.tdiv (2 ^ i)).tdiv 2 = x.tdiv (2 ^ (i + 1)) := by
  have p : ∀ y : Int, 0 ≤ y → (y.tdiv (2 ^ i)).tdiv 2 = y.tdiv (2 ^ (i + 1)) := fun y hy => by
    have h2 : (0 : Int) < 2 ^ i := Int.pow_pos (by omega)
    rw [Int.tdiv_eq_ediv_of_nonneg hy, Int.tdiv_eq_ediv_of_nonneg hy, Int.tdiv_eq_ediv_of_nonneg (Int.ediv_nonneg hy (by omega)), Int.pow_succ, Int.ediv_ediv_of_nonneg (by omega)]
  by_cases h : 0 ≤ x
  · exact p x h
  · have := p (-x) (by omega)
    rw [Int.neg_tdiv, Int.neg_tdiv, Int.neg_tdiv] at this
    omega
theorem tdiv_rg {x : Int} (h : rg x) (m : Int) : rg (x.tdiv m) ∨ x = -9223372036854775808 := by
  have := Int.natAbs_tdiv_le_natAbs x m
  simp only [rg] at h ⊢; omega
theorem tdiv_rg' {x : Int} (h : rg x) {m : Int} (hm : 0 < m) : rg (x.tdiv m) := by
  have a := Int.natAbs_tdiv_le_natAbs x m
  by_cases hx : 0 ≤ x
  · have := Int.tdiv_nonneg hx (show 0 ≤ m by omega)
    simp only [rg] at h ⊢; omega
  · have := Int.tdiv_nonneg (a := -x) (b := m) (by omega) (by omega)
    rw [Int.neg_tdiv] at this
    simp only [rg] at h ⊢; omega
theorem sub_rg {x : Int} (h : rg x) {m : Int} (hm : 0 < m) : rg (x - x.tdiv m) ∧ (0 ≤ x → 0 ≤ x.tdiv m ∧ x.tdiv m ≤ x) ∧ (x ≤ 0 → x.tdiv m ≤ 0 ∧ x ≤ x.tdiv m) := by
  have a := Int.natAbs_tdiv_le_natAbs x m
  by_cases hx : 0 ≤ x
  · have := Int.tdiv_nonneg hx (show 0 ≤ m by omega)
    simp only [rg] at h ⊢; omega
  · have := Int.tdiv_nonneg (a := -x) (b := m) (by omega) (by omega)
    rw [Int.neg_tdiv] at this
    simp only [rg] at h ⊢; omega
theorem two_pos (i : Nat) : (0 : Int) < 2 ^ i := Int.pow_pos (by omega)
theorem t21 (x s : Int) (hx : rg x) (s0 : 0 ≤ s) (s1 : s ≤ 62) : vc21 x s := by
  rw [← vc21_eq]
  simp
  refine ⟨?_, fun n m hJ => ?_⟩
  · simp only [J21]; exact ⟨by omega, by omega, by simp⟩
  · simp only [J21] at hJ ⊢
    obtain ⟨n0, n1, rfl⟩ := hJ
    have r := tdiv_rg' hx (two_pos (n.toNat + 1))
    rw [W_id (n := n + 1) (by omega) (by omega), tdiv_two, W_id r.1 r.2]
    refine ⟨fun h => ⟨fun _ => ⟨⟨by omega, by omega, by rw [show (n + 1).toNat = n.toNat + 1 by omega]⟩, by omega⟩, fun h2 => by omega⟩, fun h => by rw [show n = s by omega]⟩
theorem sh_eq (s : Int) : (if 62 < if s < 0 then 0 else s then 62 else if s < 0 then 0 else s) = ((shN s : Nat) : Int) := by
  simp only [shN]
  repeat' split
  all_goals omega
theorem shN_le (s : Int) : shN s ≤ 62 := by simp only [shN]; omega
theorem pow62 {i : Nat} (h : i ≤ 62) : (2 : Int) ^ i ≤ 4611686018427387904 := by
  have h1 : 2 ^ i ≤ 2 ^ 62 := Nat.pow_le_pow_right (by omega) h
  have e : ((2 ^ i : Nat) : Int) = (2 : Int) ^ i := by simp
  rw [← e]; omega
theorem u64_nat {i : Nat} (h : i ≤ 64) : IntKind.u64.wrap (i : Int) = i := by
  simp [IntKind.wrap, IntKind.bits, IntKind.signed]; omega
theorem drV_no {t : Tb} {k : Int} (h : t.drag ≤ 0 ∨ ¬ k.tmod t.drag = 0) (x : Int) : drV t k x = x := by
  simp only [drV, drB]; rw [decide_eq_true h]; rfl
theorem drV_yes {t : Tb} {k : Int} (h : ¬ (t.drag ≤ 0 ∨ ¬ k.tmod t.drag = 0)) (x : Int) : drV t k x = drI t.shift x := by
  simp only [drV, drB]; rw [decide_eq_false h]; rfl
theorem t9 (t : Tb) (k x y : Int) (hx : rg x) (hy : rg y) : vc9 t k x y := by
  rw [← vc9_eq]
  simp
  rw [sh_eq]
  have hl := shN_le t.shift
  have hp := pow62 hl
  have h0 := two_pos (shN t.shift)
  have hq : min (IntKind.u64.wrap ((shN t.shift : Nat) : Int)).toNat 64 = shN t.shift := by rw [u64_nat (by omega)]; omega
  rw [hq, W_id (n := 2 ^ shN t.shift) (by omega) (by omega)]
  have rx := tdiv_rg' hx h0
  have ry := tdiv_rg' hy h0
  have sx := (sub_rg hx h0).1
  have sy := (sub_rg hy h0).1
  rw [W_id rx.1 rx.2, W_id ry.1 ry.2, W_id sx.1 sx.2, W_id sy.1 sy.2, u64_nat (by omega)]
  refine ⟨fun h => ⟨(drV_no (.inl h) x).symm, (drV_no (.inl h) y).symm⟩, fun h => ⟨by omega, fun h2 => ⟨(drV_no (.inr h2) x).symm, (drV_no (.inr h2) y).symm⟩, fun h2 => ⟨by omega, by omega, ?_, ?_⟩⟩⟩
  · rw [drV_yes (by omega)]; simp only [drI]
  · rw [drV_yes (by omega)]; simp only [drI]
theorem t10 (t : Tb) (k x y : Int) (hx : rg x) (hy : rg y) : vc10 t k x y := by
  rw [← vc10_eq]
  simp
  rw [sh_eq]
  have hl := shN_le t.shift
  have h0 := two_pos (shN t.shift)
  rw [show ((shN t.shift : Nat) : Int).toNat = shN t.shift by omega]
  have sx := (sub_rg hx h0).1
  have sy := (sub_rg hy h0).1
  rw [W_id sx.1 sx.2, W_id sy.1 sy.2]
  refine ⟨fun h => ⟨(drV_no (.inl h) x).symm, (drV_no (.inl h) y).symm⟩, fun h => ⟨by omega, fun h2 => ⟨(drV_no (.inr h2) x).symm, (drV_no (.inr h2) y).symm⟩, fun h2 => ⟨⟨hx, by omega, by omega⟩, ⟨hy, by omega, by omega⟩, ?_, ?_⟩⟩⟩
  · rw [drV_yes (by omega)]; simp only [drI]
  · rw [drV_yes (by omega)]; simp only [drI]
theorem k21 : TabOK Try.prog T21 := fn_tabA k15 hm Try.func21 (by kernel_rfl) (by kernel_rfl) sII.ok (by kernel_rfl) (fun a => A21 a.1 a.2) fun a hp => by
  have h := t21 a.1 a.2 hp.1 hp.2.1 hp.2.2
  exact h
theorem k9 : TabOK Try.prog T9 := fn_tabA k21 hm Try.func9 (by kernel_rfl) (by kernel_rfl) sTIV.ok (by kernel_rfl) (fun _ => []) fun a hp => by
  have h := t9 a.1 a.2.1 a.2.2.x a.2.2.y hp.1 hp.2
  exact h
theorem k10 : TabOK Try.prog T10 := fn_tabA k9 hm Try.func10 (by kernel_rfl) (by kernel_rfl) sTIV.ok (by kernel_rfl) (fun _ => []) fun a hp => by
  have h := t10 a.1 a.2.1 a.2.2.x a.2.2.y hp.1 hp.2
  exact h
theorem k13 : TabOK Try.prog T13 := fn_tabA k10 hm Try.func13 (by kernel_rfl) (by kernel_rfl) sTV.ok (by kernel_rfl) (fun _ => []) fun a hp => by
  have h : vc13 a.1 a.2.x a.2.y := by
    rw [← vc13_eq]
    simp
  exact h
theorem k14 : TabOK Try.prog T14 := fn_tabA k13 hm Try.func14 (by kernel_rfl) (by kernel_rfl) sTV.ok (by kernel_rfl) (fun _ => []) fun a hp => by
  have h : vc14 a.1 a.2.x a.2.y := by
    rw [← vc14_eq]
    simp
  exact h
theorem act_eq {c lv px py : Int} {z : Zn} {b : Bool} (h : b = true ↔ z.lox < px ∧ px < z.hix ∧ z.loy < py ∧ py < z.hiy ∧ z.level = lv ∧ enB c z.coil = true) : b = act c lv px py z := by
  rw [Bool.eq_iff_iff, act_iff]; exact h
theorem act_no {c lv px py : Int} {z : Zn} (h : ¬ (z.lox < px ∧ px < z.hix ∧ z.loy < py ∧ py < z.hiy ∧ z.level = lv ∧ enB c z.coil = true)) : act c lv px py z = false := by
  rw [Bool.eq_false_iff]; exact fun h2 => h (act_iff.1 h2)
theorem t25 (z : Zn) (c lv px py : Int) : vc25 z c lv px py := by
  rw [← vc25_eq]
  simp
  have tail : enB c z.coil = true → (z.level = lv → (z.lox < px → (px < z.hix → (z.loy < py → decide (py < z.hiy) = act c lv px py z) ∧ (py ≤ z.loy → act c lv px py z = false)) ∧ (z.hix ≤ px → act c lv px py z = false)) ∧ (px ≤ z.lox → act c lv px py z = false)) ∧ (¬ z.level = lv → act c lv px py z = false) := fun he =>
    ⟨fun h1 => ⟨fun h2 => ⟨fun h3 => ⟨fun h4 => act_eq (by rw [decide_eq_true_eq]; exact ⟨fun h5 => ⟨h2, h3, h4, h5, h1, he⟩, fun h => h.2.2.2.1⟩), fun h4 => act_no (by omega)⟩, fun h3 => act_no (by omega)⟩, fun h2 => act_no (by omega)⟩, fun h1 => act_no fun h => h1 h.2.2.2.2.1⟩
  refine ⟨fun h => tail (by simp [enB, h]), fun h => ⟨fun h2 => ⟨fun h3 => ?_, fun h3 => act_no fun q => ?_⟩, fun h2 => act_no fun q => ?_⟩⟩
  · have e : IntKind.u64.wrap z.coil = z.coil := by
      have := u64_nat (i := z.coil.toNat) (by omega)
      rw [show ((z.coil.toNat : Nat) : Int) = z.coil by omega] at this; exact this
    rw [e, show min z.coil.toNat 32 = z.coil.toNat by omega]
    refine ⟨h2, fun hb => tail (by simp [enB, h2, h3, hb]), fun hb => act_no fun q => ?_⟩
    have := q.2.2.2.2.2
    simp [enB, h, hb] at this
  · have := q.2.2.2.2.2
    simp [enB, h, show ¬ z.coil ≤ 31 by omega] at this
  · have := q.2.2.2.2.2
    simp [enB, h, show ¬ 0 ≤ z.coil by omega] at this
theorem k25 : TabOK Try.prog T25 := fn_tabA k14 hm Try.func25 (by kernel_rfl) (by kernel_rfl) sZCIV.ok (by kernel_rfl) (fun _ => []) fun a hp => by
  have h := t25 a.1 a.2.1 a.2.2.1 a.2.2.2.x a.2.2.2.y
  exact h
end Go.Proofs.Fi
