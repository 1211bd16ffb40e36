import Derived.Test.YtjbhnbbegkdplaaEngX
import Derived.Test.YtjbhnbbegkdplaaRows
namespace Go.Proofs.Ti
set_option linter.unusedVariables false
set_option linter.unusedSimpArgs false
open Go Go.Sx Go.Proofs
set_option maxRecDepth 100000
structure V2 where
  x : Int
  y : Int
def codV : Cod V2 where
  n := 2
  enc a := [.int .i64 a.x, .int .i64 a.y]
  dec := fun | [x0, x1] => oB (rI .i64 x0) fun a0 => oB (rI .i64 x1) fun a1 => some ⟨a0, a1⟩ | _ => none
  dft := ⟨0, 0⟩
  good _ := True
  fine _ := trivial
  ok l a h _ := by
    split at h
    case h_2 => cases h
    obtain ⟨a0, h0, h⟩ := oB_ok h
    obtain ⟨a1, h1, h⟩ := oB_ok h
    cases h
    exact ⟨rI_leZ h0, rI_leZ h1, trivial⟩
  self _ := rfl
  len _ := rfl
  mrg c x y a b h k := by
    split at h
    case h_2 => cases h
    split at k
    case h_2 => cases k
    obtain ⟨a0, h0, h⟩ := oB_ok h
    obtain ⟨b0, k0, k⟩ := oB_ok k
    obtain ⟨a1, h1, h⟩ := oB_ok h
    obtain ⟨b1, k1, k⟩ := oB_ok k
    cases h; cases k
    simp only [mergeL, rI_mrg h0 k0, rI_mrg h1 k1, oB_some]
    cases c <;> rfl
@[simp] theorem codV_n : codV.n = 2 := rfl
@[simp] theorem codV_dft : codV.dft = ⟨0, 0⟩ := rfl
@[simp] theorem codV_enc (a : V2) : codV.enc a = [.int .i64 a.x, .int .i64 a.y] := rfl
@[simp] theorem codV_push {l : List V2} {v0 : Int} {v1 : Int} : rowL codV (l.length + 1) (fun j => mergeL (decide (j < l.length)) [.int .i64 (l.getD j ⟨0, 0⟩).x, .int .i64 (l.getD j ⟨0, 0⟩).y] [.int .i64 v0, .int .i64 v1]) = l ++ [⟨v0, v1⟩] := rowL_push (C := codV) rfl
theorem codV_set {n i : Nat} {l : List V2} {v0 : Int} {v1 : Int} (hn : n = l.length) : rowL codV n (fun j => mergeL (decide (j = i)) [.int .i64 v0, .int .i64 v1] [.int .i64 (l.getD j ⟨0, 0⟩).x, .int .i64 (l.getD j ⟨0, 0⟩).y]) = l.set i ⟨v0, v1⟩ := rowL_set (C := codV) hn rfl
@[simp] theorem codV_self {l : List V2} : rowL codV l.length (fun j => [.int .i64 (l.getD j ⟨0, 0⟩).x, .int .i64 (l.getD j ⟨0, 0⟩).y]) = l := rowL_enc (C := codV) rfl
theorem codV_z : ∀ l a, codV.dec l = some a → codV.good l → leZ0L l (codV.enc a) := by
  intro l a h _
  simp only [codV] at h ⊢
  split at h
  case h_2 => cases h
  obtain ⟨a0, h0, h⟩ := oB_ok h
  obtain ⟨a1, h1, h⟩ := oB_ok h
  cases h
  exact ⟨rI_leZ0 h0, rI_leZ0 h1, trivial⟩
@[simp] theorem codV_const {n : Nat} {v0 : Int} {v1 : Int} : rowL codV n (fun _ => [.int .i64 v0, .int .i64 v1]) = List.replicate n ⟨v0, v1⟩ := rowL_const (C := codV) rfl
theorem codV_sub {n o : Nat} {l : List V2} (hn : o + n ≤ l.length) : rowL codV n (fun i => [.int .i64 (l.getD (o + i) ⟨0, 0⟩).x, .int .i64 (l.getD (o + i) ⟨0, 0⟩).y]) = (l.drop o).take n := rowL_sub (C := codV) hn
theorem codV_take {n : Nat} {l : List V2} (hn : n ≤ l.length) : rowL codV n (fun j => [.int .i64 (l.getD j ⟨0, 0⟩).x, .int .i64 (l.getD j ⟨0, 0⟩).y]) = l.take n := rowL_take (C := codV) hn
structure Tilt where
  spring : Int
  damp : Int
  ring : Int
  settle : Int
  warnings : Int
  slam : Int
def codC : Cod Tilt where
  n := 6
  enc a := [.int .i64 a.spring, .int .i64 a.damp, .int .i64 a.ring, .int .i64 a.settle, .int .i64 a.warnings, .int .i64 a.slam]
  dec := fun | [x0, x1, x2, x3, x4, x5] => oB (rI .i64 x0) fun a0 => oB (rI .i64 x1) fun a1 => oB (rI .i64 x2) fun a2 => oB (rI .i64 x3) fun a3 => oB (rI .i64 x4) fun a4 => oB (rI .i64 x5) fun a5 => some ⟨a0, a1, a2, a3, a4, a5⟩ | _ => none
  dft := ⟨0, 0, 0, 0, 0, 0⟩
  good _ := True
  fine _ := trivial
  ok l a h _ := by
    split at h
    case h_2 => cases h
    obtain ⟨a0, h0, h⟩ := oB_ok h
    obtain ⟨a1, h1, h⟩ := oB_ok h
    obtain ⟨a2, h2, h⟩ := oB_ok h
    obtain ⟨a3, h3, h⟩ := oB_ok h
    obtain ⟨a4, h4, h⟩ := oB_ok h
    obtain ⟨a5, h5, h⟩ := oB_ok h
    cases h
    exact ⟨rI_leZ h0, rI_leZ h1, rI_leZ h2, rI_leZ h3, rI_leZ h4, rI_leZ h5, trivial⟩
  self _ := rfl
  len _ := rfl
  mrg c x y a b h k := by
    split at h
    case h_2 => cases h
    split at k
    case h_2 => cases k
    obtain ⟨a0, h0, h⟩ := oB_ok h
    obtain ⟨b0, k0, k⟩ := oB_ok k
    obtain ⟨a1, h1, h⟩ := oB_ok h
    obtain ⟨b1, k1, k⟩ := oB_ok k
    obtain ⟨a2, h2, h⟩ := oB_ok h
    obtain ⟨b2, k2, k⟩ := oB_ok k
    obtain ⟨a3, h3, h⟩ := oB_ok h
    obtain ⟨b3, k3, k⟩ := oB_ok k
    obtain ⟨a4, h4, h⟩ := oB_ok h
    obtain ⟨b4, k4, k⟩ := oB_ok k
    obtain ⟨a5, h5, h⟩ := oB_ok h
    obtain ⟨b5, k5, k⟩ := oB_ok k
    cases h; cases k
    simp only [mergeL, rI_mrg h0 k0, rI_mrg h1 k1, rI_mrg h2 k2, rI_mrg h3 k3, rI_mrg h4 k4, rI_mrg h5 k5, oB_some]
    cases c <;> rfl
@[simp] theorem codC_n : codC.n = 6 := rfl
@[simp] theorem codC_dft : codC.dft = ⟨0, 0, 0, 0, 0, 0⟩ := rfl
@[simp] theorem codC_enc (a : Tilt) : codC.enc a = [.int .i64 a.spring, .int .i64 a.damp, .int .i64 a.ring, .int .i64 a.settle, .int .i64 a.warnings, .int .i64 a.slam] := rfl
@[simp] theorem codC_push {l : List Tilt} {v0 : Int} {v1 : Int} {v2 : Int} {v3 : Int} {v4 : Int} {v5 : Int} : rowL codC (l.length + 1) (fun j => mergeL (decide (j < l.length)) [.int .i64 (l.getD j ⟨0, 0, 0, 0, 0, 0⟩).spring, .int .i64 (l.getD j ⟨0, 0, 0, 0, 0, 0⟩).damp, .int .i64 (l.getD j ⟨0, 0, 0, 0, 0, 0⟩).ring, .int .i64 (l.getD j ⟨0, 0, 0, 0, 0, 0⟩).settle, .int .i64 (l.getD j ⟨0, 0, 0, 0, 0, 0⟩).warnings, .int .i64 (l.getD j ⟨0, 0, 0, 0, 0, 0⟩).slam] [.int .i64 v0, .int .i64 v1, .int .i64 v2, .int .i64 v3, .int .i64 v4, .int .i64 v5]) = l ++ [⟨v0, v1, v2, v3, v4, v5⟩] := rowL_push (C := codC) rfl
theorem codC_set {n i : Nat} {l : List Tilt} {v0 : Int} {v1 : Int} {v2 : Int} {v3 : Int} {v4 : Int} {v5 : Int} (hn : n = l.length) : rowL codC n (fun j => mergeL (decide (j = i)) [.int .i64 v0, .int .i64 v1, .int .i64 v2, .int .i64 v3, .int .i64 v4, .int .i64 v5] [.int .i64 (l.getD j ⟨0, 0, 0, 0, 0, 0⟩).spring, .int .i64 (l.getD j ⟨0, 0, 0, 0, 0, 0⟩).damp, .int .i64 (l.getD j ⟨0, 0, 0, 0, 0, 0⟩).ring, .int .i64 (l.getD j ⟨0, 0, 0, 0, 0, 0⟩).settle, .int .i64 (l.getD j ⟨0, 0, 0, 0, 0, 0⟩).warnings, .int .i64 (l.getD j ⟨0, 0, 0, 0, 0, 0⟩).slam]) = l.set i ⟨v0, v1, v2, v3, v4, v5⟩ := rowL_set (C := codC) hn rfl
@[simp] theorem codC_self {l : List Tilt} : rowL codC l.length (fun j => [.int .i64 (l.getD j ⟨0, 0, 0, 0, 0, 0⟩).spring, .int .i64 (l.getD j ⟨0, 0, 0, 0, 0, 0⟩).damp, .int .i64 (l.getD j ⟨0, 0, 0, 0, 0, 0⟩).ring, .int .i64 (l.getD j ⟨0, 0, 0, 0, 0, 0⟩).settle, .int .i64 (l.getD j ⟨0, 0, 0, 0, 0, 0⟩).warnings, .int .i64 (l.getD j ⟨0, 0, 0, 0, 0, 0⟩).slam]) = l := rowL_enc (C := codC) rfl
theorem codC_z : ∀ l a, codC.dec l = some a → codC.good l → leZ0L l (codC.enc a) := by
  intro l a h _
  simp only [codC] at h ⊢
  split at h
  case h_2 => cases h
  obtain ⟨a0, h0, h⟩ := oB_ok h
  obtain ⟨a1, h1, h⟩ := oB_ok h
  obtain ⟨a2, h2, h⟩ := oB_ok h
  obtain ⟨a3, h3, h⟩ := oB_ok h
  obtain ⟨a4, h4, h⟩ := oB_ok h
  obtain ⟨a5, h5, h⟩ := oB_ok h
  cases h
  exact ⟨rI_leZ0 h0, rI_leZ0 h1, rI_leZ0 h2, rI_leZ0 h3, rI_leZ0 h4, rI_leZ0 h5, trivial⟩
@[simp] theorem codC_const {n : Nat} {v0 : Int} {v1 : Int} {v2 : Int} {v3 : Int} {v4 : Int} {v5 : Int} : rowL codC n (fun _ => [.int .i64 v0, .int .i64 v1, .int .i64 v2, .int .i64 v3, .int .i64 v4, .int .i64 v5]) = List.replicate n ⟨v0, v1, v2, v3, v4, v5⟩ := rowL_const (C := codC) rfl
theorem codC_sub {n o : Nat} {l : List Tilt} (hn : o + n ≤ l.length) : rowL codC n (fun i => [.int .i64 (l.getD (o + i) ⟨0, 0, 0, 0, 0, 0⟩).spring, .int .i64 (l.getD (o + i) ⟨0, 0, 0, 0, 0, 0⟩).damp, .int .i64 (l.getD (o + i) ⟨0, 0, 0, 0, 0, 0⟩).ring, .int .i64 (l.getD (o + i) ⟨0, 0, 0, 0, 0, 0⟩).settle, .int .i64 (l.getD (o + i) ⟨0, 0, 0, 0, 0, 0⟩).warnings, .int .i64 (l.getD (o + i) ⟨0, 0, 0, 0, 0, 0⟩).slam]) = (l.drop o).take n := rowL_sub (C := codC) hn
theorem codC_take {n : Nat} {l : List Tilt} (hn : n ≤ l.length) : rowL codC n (fun j => [.int .i64 (l.getD j ⟨0, 0, 0, 0, 0, 0⟩).spring, .int .i64 (l.getD j ⟨0, 0, 0, 0, 0, 0⟩).damp, .int .i64 (l.getD j ⟨0, 0, 0, 0, 0, 0⟩).ring, .int .i64 (l.getD j ⟨0, 0, 0, 0, 0, 0⟩).settle, .int .i64 (l.getD j ⟨0, 0, 0, 0, 0, 0⟩).warnings, .int .i64 (l.getD j ⟨0, 0, 0, 0, 0, 0⟩).slam]) = l.take n := rowL_take (C := codC) hn
structure TS where
  px : Int
  py : Int
  vx : Int
  vy : Int
  closed : Bool
  quiet : Int
  warned : Int
  tilted : Bool
  slammed : Bool
def codT : Cod TS where
  n := 9
  enc a := [.int .i64 a.px, .int .i64 a.py, .int .i64 a.vx, .int .i64 a.vy, .bool a.closed, .int .i64 a.quiet, .int .i64 a.warned, .bool a.tilted, .bool a.slammed]
  dec := fun | [x0, x1, x2, x3, x4, x5, x6, x7, x8] => oB (rI .i64 x0) fun a0 => oB (rI .i64 x1) fun a1 => oB (rI .i64 x2) fun a2 => oB (rI .i64 x3) fun a3 => oB (rB x4) fun a4 => oB (rI .i64 x5) fun a5 => oB (rI .i64 x6) fun a6 => oB (rB x7) fun a7 => oB (rB x8) fun a8 => some ⟨a0, a1, a2, a3, a4, a5, a6, a7, a8⟩ | _ => none
  dft := ⟨0, 0, 0, 0, false, 0, 0, false, false⟩
  good _ := True
  fine _ := trivial
  ok l a h _ := by
    split at h
    case h_2 => cases h
    obtain ⟨a0, h0, h⟩ := oB_ok h
    obtain ⟨a1, h1, h⟩ := oB_ok h
    obtain ⟨a2, h2, h⟩ := oB_ok h
    obtain ⟨a3, h3, h⟩ := oB_ok h
    obtain ⟨a4, h4, h⟩ := oB_ok h
    obtain ⟨a5, h5, h⟩ := oB_ok h
    obtain ⟨a6, h6, h⟩ := oB_ok h
    obtain ⟨a7, h7, h⟩ := oB_ok h
    obtain ⟨a8, h8, h⟩ := oB_ok h
    cases h
    exact ⟨rI_leZ h0, rI_leZ h1, rI_leZ h2, rI_leZ h3, (rB_ok h4).1, rI_leZ h5, rI_leZ h6, (rB_ok h7).1, (rB_ok h8).1, trivial⟩
  self _ := rfl
  len _ := rfl
  mrg c x y a b h k := by
    split at h
    case h_2 => cases h
    split at k
    case h_2 => cases k
    obtain ⟨a0, h0, h⟩ := oB_ok h
    obtain ⟨b0, k0, k⟩ := oB_ok k
    obtain ⟨a1, h1, h⟩ := oB_ok h
    obtain ⟨b1, k1, k⟩ := oB_ok k
    obtain ⟨a2, h2, h⟩ := oB_ok h
    obtain ⟨b2, k2, k⟩ := oB_ok k
    obtain ⟨a3, h3, h⟩ := oB_ok h
    obtain ⟨b3, k3, k⟩ := oB_ok k
    obtain ⟨a4, h4, h⟩ := oB_ok h
    obtain ⟨b4, k4, k⟩ := oB_ok k
    obtain ⟨a5, h5, h⟩ := oB_ok h
    obtain ⟨b5, k5, k⟩ := oB_ok k
    obtain ⟨a6, h6, h⟩ := oB_ok h
    obtain ⟨b6, k6, k⟩ := oB_ok k
    obtain ⟨a7, h7, h⟩ := oB_ok h
    obtain ⟨b7, k7, k⟩ := oB_ok k
    obtain ⟨a8, h8, h⟩ := oB_ok h
    obtain ⟨b8, k8, k⟩ := oB_ok k
    cases h; cases k
    simp only [mergeL, rI_mrg h0 k0, rI_mrg h1 k1, rI_mrg h2 k2, rI_mrg h3 k3, rB_mrg h4 k4, rI_mrg h5 k5, rI_mrg h6 k6, rB_mrg h7 k7, rB_mrg h8 k8, oB_some]
    cases c <;> rfl
@[simp] theorem codT_n : codT.n = 9 := rfl
@[simp] theorem codT_dft : codT.dft = ⟨0, 0, 0, 0, false, 0, 0, false, false⟩ := rfl
@[simp] theorem codT_enc (a : TS) : codT.enc a = [.int .i64 a.px, .int .i64 a.py, .int .i64 a.vx, .int .i64 a.vy, .bool a.closed, .int .i64 a.quiet, .int .i64 a.warned, .bool a.tilted, .bool a.slammed] := rfl
@[simp] theorem codT_push {l : List TS} {v0 : Int} {v1 : Int} {v2 : Int} {v3 : Int} {v4 : Bool} {v5 : Int} {v6 : Int} {v7 : Bool} {v8 : Bool} : rowL codT (l.length + 1) (fun j => mergeL (decide (j < l.length)) [.int .i64 (l.getD j ⟨0, 0, 0, 0, false, 0, 0, false, false⟩).px, .int .i64 (l.getD j ⟨0, 0, 0, 0, false, 0, 0, false, false⟩).py, .int .i64 (l.getD j ⟨0, 0, 0, 0, false, 0, 0, false, false⟩).vx, .int .i64 (l.getD j ⟨0, 0, 0, 0, false, 0, 0, false, false⟩).vy, .bool (l.getD j ⟨0, 0, 0, 0, false, 0, 0, false, false⟩).closed, .int .i64 (l.getD j ⟨0, 0, 0, 0, false, 0, 0, false, false⟩).quiet, .int .i64 (l.getD j ⟨0, 0, 0, 0, false, 0, 0, false, false⟩).warned, .bool (l.getD j ⟨0, 0, 0, 0, false, 0, 0, false, false⟩).tilted, .bool (l.getD j ⟨0, 0, 0, 0, false, 0, 0, false, false⟩).slammed] [.int .i64 v0, .int .i64 v1, .int .i64 v2, .int .i64 v3, .bool v4, .int .i64 v5, .int .i64 v6, .bool v7, .bool v8]) = l ++ [⟨v0, v1, v2, v3, v4, v5, v6, v7, v8⟩] := rowL_push (C := codT) rfl
theorem codT_set {n i : Nat} {l : List TS} {v0 : Int} {v1 : Int} {v2 : Int} {v3 : Int} {v4 : Bool} {v5 : Int} {v6 : Int} {v7 : Bool} {v8 : Bool} (hn : n = l.length) : rowL codT n (fun j => mergeL (decide (j = i)) [.int .i64 v0, .int .i64 v1, .int .i64 v2, .int .i64 v3, .bool v4, .int .i64 v5, .int .i64 v6, .bool v7, .bool v8] [.int .i64 (l.getD j ⟨0, 0, 0, 0, false, 0, 0, false, false⟩).px, .int .i64 (l.getD j ⟨0, 0, 0, 0, false, 0, 0, false, false⟩).py, .int .i64 (l.getD j ⟨0, 0, 0, 0, false, 0, 0, false, false⟩).vx, .int .i64 (l.getD j ⟨0, 0, 0, 0, false, 0, 0, false, false⟩).vy, .bool (l.getD j ⟨0, 0, 0, 0, false, 0, 0, false, false⟩).closed, .int .i64 (l.getD j ⟨0, 0, 0, 0, false, 0, 0, false, false⟩).quiet, .int .i64 (l.getD j ⟨0, 0, 0, 0, false, 0, 0, false, false⟩).warned, .bool (l.getD j ⟨0, 0, 0, 0, false, 0, 0, false, false⟩).tilted, .bool (l.getD j ⟨0, 0, 0, 0, false, 0, 0, false, false⟩).slammed]) = l.set i ⟨v0, v1, v2, v3, v4, v5, v6, v7, v8⟩ := rowL_set (C := codT) hn rfl
@[simp] theorem codT_self {l : List TS} : rowL codT l.length (fun j => [.int .i64 (l.getD j ⟨0, 0, 0, 0, false, 0, 0, false, false⟩).px, .int .i64 (l.getD j ⟨0, 0, 0, 0, false, 0, 0, false, false⟩).py, .int .i64 (l.getD j ⟨0, 0, 0, 0, false, 0, 0, false, false⟩).vx, .int .i64 (l.getD j ⟨0, 0, 0, 0, false, 0, 0, false, false⟩).vy, .bool (l.getD j ⟨0, 0, 0, 0, false, 0, 0, false, false⟩).closed, .int .i64 (l.getD j ⟨0, 0, 0, 0, false, 0, 0, false, false⟩).quiet, .int .i64 (l.getD j ⟨0, 0, 0, 0, false, 0, 0, false, false⟩).warned, .bool (l.getD j ⟨0, 0, 0, 0, false, 0, 0, false, false⟩).tilted, .bool (l.getD j ⟨0, 0, 0, 0, false, 0, 0, false, false⟩).slammed]) = l := rowL_enc (C := codT) rfl
theorem codT_z : ∀ l a, codT.dec l = some a → codT.good l → leZ0L l (codT.enc a) := by
  intro l a h _
  simp only [codT] at h ⊢
  split at h
  case h_2 => cases h
  obtain ⟨a0, h0, h⟩ := oB_ok h
  obtain ⟨a1, h1, h⟩ := oB_ok h
  obtain ⟨a2, h2, h⟩ := oB_ok h
  obtain ⟨a3, h3, h⟩ := oB_ok h
  obtain ⟨a4, h4, h⟩ := oB_ok h
  obtain ⟨a5, h5, h⟩ := oB_ok h
  obtain ⟨a6, h6, h⟩ := oB_ok h
  obtain ⟨a7, h7, h⟩ := oB_ok h
  obtain ⟨a8, h8, h⟩ := oB_ok h
  cases h
  exact ⟨rI_leZ0 h0, rI_leZ0 h1, rI_leZ0 h2, rI_leZ0 h3, rB_leZ0 h4, rI_leZ0 h5, rI_leZ0 h6, rB_leZ0 h7, rB_leZ0 h8, trivial⟩
@[simp] theorem codT_const {n : Nat} {v0 : Int} {v1 : Int} {v2 : Int} {v3 : Int} {v4 : Bool} {v5 : Int} {v6 : Int} {v7 : Bool} {v8 : Bool} : rowL codT n (fun _ => [.int .i64 v0, .int .i64 v1, .int .i64 v2, .int .i64 v3, .bool v4, .int .i64 v5, .int .i64 v6, .bool v7, .bool v8]) = List.replicate n ⟨v0, v1, v2, v3, v4, v5, v6, v7, v8⟩ := rowL_const (C := codT) rfl
theorem codT_sub {n o : Nat} {l : List TS} (hn : o + n ≤ l.length) : rowL codT n (fun i => [.int .i64 (l.getD (o + i) ⟨0, 0, 0, 0, false, 0, 0, false, false⟩).px, .int .i64 (l.getD (o + i) ⟨0, 0, 0, 0, false, 0, 0, false, false⟩).py, .int .i64 (l.getD (o + i) ⟨0, 0, 0, 0, false, 0, 0, false, false⟩).vx, .int .i64 (l.getD (o + i) ⟨0, 0, 0, 0, false, 0, 0, false, false⟩).vy, .bool (l.getD (o + i) ⟨0, 0, 0, 0, false, 0, 0, false, false⟩).closed, .int .i64 (l.getD (o + i) ⟨0, 0, 0, 0, false, 0, 0, false, false⟩).quiet, .int .i64 (l.getD (o + i) ⟨0, 0, 0, 0, false, 0, 0, false, false⟩).warned, .bool (l.getD (o + i) ⟨0, 0, 0, 0, false, 0, 0, false, false⟩).tilted, .bool (l.getD (o + i) ⟨0, 0, 0, 0, false, 0, 0, false, false⟩).slammed]) = (l.drop o).take n := rowL_sub (C := codT) hn
theorem codT_take {n : Nat} {l : List TS} (hn : n ≤ l.length) : rowL codT n (fun j => [.int .i64 (l.getD j ⟨0, 0, 0, 0, false, 0, 0, false, false⟩).px, .int .i64 (l.getD j ⟨0, 0, 0, 0, false, 0, 0, false, false⟩).py, .int .i64 (l.getD j ⟨0, 0, 0, 0, false, 0, 0, false, false⟩).vx, .int .i64 (l.getD j ⟨0, 0, 0, 0, false, 0, 0, false, false⟩).vy, .bool (l.getD j ⟨0, 0, 0, 0, false, 0, 0, false, false⟩).closed, .int .i64 (l.getD j ⟨0, 0, 0, 0, false, 0, 0, false, false⟩).quiet, .int .i64 (l.getD j ⟨0, 0, 0, 0, false, 0, 0, false, false⟩).warned, .bool (l.getD j ⟨0, 0, 0, 0, false, 0, 0, false, false⟩).tilted, .bool (l.getD j ⟨0, 0, 0, 0, false, 0, 0, false, false⟩).slammed]) = l.take n := rowL_take (C := codT) hn
abbrev iS (n : Int) : SV := .int .i64 n
abbrev iG (n : Int) : Seg := .s (.int .i64 n)
def encV (v : V2) : SV := (argA codV).enc v
def encC (c : Tilt) : SV := (argA codC).enc c
def encS (s : TS) : SV := (argA codT).enc s
def sIII := (Sig.cons (argI .i64) (Sig.cons (argI .i64) (Sig.one (argI .i64))))
def sI := Sig.one (argI .i64)
def sV := Sig.one (argA codV)
def sVI := (Sig.cons (argA codV) (Sig.one (argI .i64)))
def sCIII := (Sig.cons (argA codC) (Sig.cons (argI .i64) (Sig.cons (argI .i64) (Sig.one (argI .i64)))))
def sII := (Sig.cons (argI .i64) (Sig.one (argI .i64)))
def sC := Sig.one (argA codC)
def sCS := (Sig.cons (argA codC) (Sig.one (argA codT)))
def sS := Sig.one (argA codT)
def sCSV := (Sig.cons (argA codC) (Sig.cons (argA codT) (Sig.one (argA codV))))
def sCSR := (Sig.cons (argA codC) (Sig.cons (argA codT) (Sig.one (argR codV))))
theorem hm : Try.prog.follows .mixedOrders = true := by kernel_rfl
end Go.Proofs.Ti
