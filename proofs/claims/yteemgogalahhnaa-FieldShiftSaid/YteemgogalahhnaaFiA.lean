import Derived.Test.YteemgogalahhnaaEngZa
import Derived.Test.YteemgogalahhnaaRows
import Derived.Test.YteemgogalahhnaaFiR
namespace Go.Proofs.Fi
set_option linter.unusedVariables false
set_option linter.unusedSimpArgs false
open Go Go.Sx Go.Proofs Go.RowKit
set_option maxRecDepth 100000
def codZ : Cod Zn where
  n := 9
  enc a := [.str a.name, .int .i64 a.level, .int .i64 a.lox, .int .i64 a.loy, .int .i64 a.hix, .int .i64 a.hiy, .int .i64 a.hx, .int .i64 a.hy, .int .i64 a.coil]
  dec := fun | [x0, x1, x2, x3, x4, x5, x6, x7, x8] => oB (rS x0) fun a0 => oB (rI .i64 x1) fun a1 => oB (rI .i64 x2) fun a2 => oB (rI .i64 x3) fun a3 => oB (rI .i64 x4) fun a4 => oB (rI .i64 x5) fun a5 => oB (rI .i64 x6) fun a6 => oB (rI .i64 x7) fun a7 => oB (rI .i64 x8) fun a8 => some ⟨a0, a1, a2, a3, a4, a5, a6, a7, a8⟩ | _ => none
  dft := ⟨[], 0, 0, 0, 0, 0, 0, 0, 0⟩
  good _ := True
  fine _ := trivial
  ok l a h _ := by
    split at h
    case h_2 => cases h
    obtain ⟨a0, h0, h⟩ := oB_ok h
    obtain ⟨a1, h1, h⟩ := oB_ok h
    obtain ⟨a2, h2, h⟩ := oB_ok h
    obtain ⟨a3, h3, h⟩ := oB_ok h
    obtain ⟨a4, h4, h⟩ := oB_ok h
    obtain ⟨a5, h5, h⟩ := oB_ok h
    obtain ⟨a6, h6, h⟩ := oB_ok h
    obtain ⟨a7, h7, h⟩ := oB_ok h
    obtain ⟨a8, h8, h⟩ := oB_ok h
    cases h
    exact ⟨rS_leZ h0, rI_leZ h1, rI_leZ h2, rI_leZ h3, rI_leZ h4, rI_leZ h5, rI_leZ h6, rI_leZ h7, rI_leZ h8, trivial⟩
  self _ := rfl
  len _ := rfl
  mrg c x y a b h k := by
    split at h
    case h_2 => cases h
    split at k
    case h_2 => cases k
    obtain ⟨a0, h0, h⟩ := oB_ok h
    obtain ⟨b0, k0, k⟩ := oB_ok k
    obtain ⟨a1, h1, h⟩ := oB_ok h
    obtain ⟨b1, k1, k⟩ := oB_ok k
    obtain ⟨a2, h2, h⟩ := oB_ok h
    obtain ⟨b2, k2, k⟩ := oB_ok k
    obtain ⟨a3, h3, h⟩ := oB_ok h
    obtain ⟨b3, k3, k⟩ := oB_ok k
    obtain ⟨a4, h4, h⟩ := oB_ok h
    obtain ⟨b4, k4, k⟩ := oB_ok k
    obtain ⟨a5, h5, h⟩ := oB_ok h
    obtain ⟨b5, k5, k⟩ := oB_ok k
    obtain ⟨a6, h6, h⟩ := oB_ok h
    obtain ⟨b6, k6, k⟩ := oB_ok k
    obtain ⟨a7, h7, h⟩ := oB_ok h
    obtain ⟨b7, k7, k⟩ := oB_ok k
    obtain ⟨a8, h8, h⟩ := oB_ok h
    obtain ⟨b8, k8, k⟩ := oB_ok k
    cases h; cases k
    simp only [mergeL, rS_mrg h0 k0, rI_mrg h1 k1, rI_mrg h2 k2, rI_mrg h3 k3, rI_mrg h4 k4, rI_mrg h5 k5, rI_mrg h6 k6, rI_mrg h7 k7, rI_mrg h8 k8, oB_some]
    cases c <;> rfl
@[simp] theorem codZ_n : codZ.n = 9 := rfl
@[simp] theorem codZ_dft : codZ.dft = ⟨[], 0, 0, 0, 0, 0, 0, 0, 0⟩ := rfl
@[simp] theorem codZ_enc (a : Zn) : codZ.enc a = [.str a.name, .int .i64 a.level, .int .i64 a.lox, .int .i64 a.loy, .int .i64 a.hix, .int .i64 a.hiy, .int .i64 a.hx, .int .i64 a.hy, .int .i64 a.coil] := rfl
@[simp] theorem codZ_push {l : List Zn} {v0 : List UInt8} {v1 : Int} {v2 : Int} {v3 : Int} {v4 : Int} {v5 : Int} {v6 : Int} {v7 : Int} {v8 : Int} : rowL codZ (l.length + 1) (fun j => mergeL (decide (j < l.length)) [.str (l.getD j ⟨[], 0, 0, 0, 0, 0, 0, 0, 0⟩).name, .int .i64 (l.getD j ⟨[], 0, 0, 0, 0, 0, 0, 0, 0⟩).level, .int .i64 (l.getD j ⟨[], 0, 0, 0, 0, 0, 0, 0, 0⟩).lox, .int .i64 (l.getD j ⟨[], 0, 0, 0, 0, 0, 0, 0, 0⟩).loy, .int .i64 (l.getD j ⟨[], 0, 0, 0, 0, 0, 0, 0, 0⟩).hix, .int .i64 (l.getD j ⟨[], 0, 0, 0, 0, 0, 0, 0, 0⟩).hiy, .int .i64 (l.getD j ⟨[], 0, 0, 0, 0, 0, 0, 0, 0⟩).hx, .int .i64 (l.getD j ⟨[], 0, 0, 0, 0, 0, 0, 0, 0⟩).hy, .int .i64 (l.getD j ⟨[], 0, 0, 0, 0, 0, 0, 0, 0⟩).coil] [.str v0, .int .i64 v1, .int .i64 v2, .int .i64 v3, .int .i64 v4, .int .i64 v5, .int .i64 v6, .int .i64 v7, .int .i64 v8]) = l ++ [⟨v0, v1, v2, v3, v4, v5, v6, v7, v8⟩] := rowL_push (C := codZ) rfl
theorem codZ_set {n i : Nat} {l : List Zn} {v0 : List UInt8} {v1 : Int} {v2 : Int} {v3 : Int} {v4 : Int} {v5 : Int} {v6 : Int} {v7 : Int} {v8 : Int} (hn : n = l.length) : rowL codZ n (fun j => mergeL (decide (j = i)) [.str v0, .int .i64 v1, .int .i64 v2, .int .i64 v3, .int .i64 v4, .int .i64 v5, .int .i64 v6, .int .i64 v7, .int .i64 v8] [.str (l.getD j ⟨[], 0, 0, 0, 0, 0, 0, 0, 0⟩).name, .int .i64 (l.getD j ⟨[], 0, 0, 0, 0, 0, 0, 0, 0⟩).level, .int .i64 (l.getD j ⟨[], 0, 0, 0, 0, 0, 0, 0, 0⟩).lox, .int .i64 (l.getD j ⟨[], 0, 0, 0, 0, 0, 0, 0, 0⟩).loy, .int .i64 (l.getD j ⟨[], 0, 0, 0, 0, 0, 0, 0, 0⟩).hix, .int .i64 (l.getD j ⟨[], 0, 0, 0, 0, 0, 0, 0, 0⟩).hiy, .int .i64 (l.getD j ⟨[], 0, 0, 0, 0, 0, 0, 0, 0⟩).hx, .int .i64 (l.getD j ⟨[], 0, 0, 0, 0, 0, 0, 0, 0⟩).hy, .int .i64 (l.getD j ⟨[], 0, 0, 0, 0, 0, 0, 0, 0⟩).coil]) = l.set i ⟨v0, v1, v2, v3, v4, v5, v6, v7, v8⟩ := rowL_set (C := codZ) hn rfl
@[simp] theorem codZ_self {l : List Zn} : rowL codZ l.length (fun j => [.str (l.getD j ⟨[], 0, 0, 0, 0, 0, 0, 0, 0⟩).name, .int .i64 (l.getD j ⟨[], 0, 0, 0, 0, 0, 0, 0, 0⟩).level, .int .i64 (l.getD j ⟨[], 0, 0, 0, 0, 0, 0, 0, 0⟩).lox, .int .i64 (l.getD j ⟨[], 0, 0, 0, 0, 0, 0, 0, 0⟩).loy, .int .i64 (l.getD j ⟨[], 0, 0, 0, 0, 0, 0, 0, 0⟩).hix, .int .i64 (l.getD j ⟨[], 0, 0, 0, 0, 0, 0, 0, 0⟩).hiy, .int .i64 (l.getD j ⟨[], 0, 0, 0, 0, 0, 0, 0, 0⟩).hx, .int .i64 (l.getD j ⟨[], 0, 0, 0, 0, 0, 0, 0, 0⟩).hy, .int .i64 (l.getD j ⟨[], 0, 0, 0, 0, 0, 0, 0, 0⟩).coil]) = l := rowL_enc (C := codZ) rfl
theorem codZ_z : ∀ l a, codZ.dec l = some a → codZ.good l → leZ0L l (codZ.enc a) := by
  intro l a h _
  simp only [codZ] at h ⊢
  split at h
  case h_2 => cases h
  obtain ⟨a0, h0, h⟩ := oB_ok h
  obtain ⟨a1, h1, h⟩ := oB_ok h
  obtain ⟨a2, h2, h⟩ := oB_ok h
  obtain ⟨a3, h3, h⟩ := oB_ok h
  obtain ⟨a4, h4, h⟩ := oB_ok h
  obtain ⟨a5, h5, h⟩ := oB_ok h
  obtain ⟨a6, h6, h⟩ := oB_ok h
  obtain ⟨a7, h7, h⟩ := oB_ok h
  obtain ⟨a8, h8, h⟩ := oB_ok h
  cases h
  exact ⟨rS_leZ0 h0, rI_leZ0 h1, rI_leZ0 h2, rI_leZ0 h3, rI_leZ0 h4, rI_leZ0 h5, rI_leZ0 h6, rI_leZ0 h7, rI_leZ0 h8, trivial⟩
@[simp] theorem codZ_const {n : Nat} {v0 : List UInt8} {v1 : Int} {v2 : Int} {v3 : Int} {v4 : Int} {v5 : Int} {v6 : Int} {v7 : Int} {v8 : Int} : rowL codZ n (fun _ => [.str v0, .int .i64 v1, .int .i64 v2, .int .i64 v3, .int .i64 v4, .int .i64 v5, .int .i64 v6, .int .i64 v7, .int .i64 v8]) = List.replicate n ⟨v0, v1, v2, v3, v4, v5, v6, v7, v8⟩ := rowL_const (C := codZ) rfl
theorem codZ_sub {n o : Nat} {l : List Zn} (hn : o + n ≤ l.length) : rowL codZ n (fun i => [.str (l.getD (o + i) ⟨[], 0, 0, 0, 0, 0, 0, 0, 0⟩).name, .int .i64 (l.getD (o + i) ⟨[], 0, 0, 0, 0, 0, 0, 0, 0⟩).level, .int .i64 (l.getD (o + i) ⟨[], 0, 0, 0, 0, 0, 0, 0, 0⟩).lox, .int .i64 (l.getD (o + i) ⟨[], 0, 0, 0, 0, 0, 0, 0, 0⟩).loy, .int .i64 (l.getD (o + i) ⟨[], 0, 0, 0, 0, 0, 0, 0, 0⟩).hix, .int .i64 (l.getD (o + i) ⟨[], 0, 0, 0, 0, 0, 0, 0, 0⟩).hiy, .int .i64 (l.getD (o + i) ⟨[], 0, 0, 0, 0, 0, 0, 0, 0⟩).hx, .int .i64 (l.getD (o + i) ⟨[], 0, 0, 0, 0, 0, 0, 0, 0⟩).hy, .int .i64 (l.getD (o + i) ⟨[], 0, 0, 0, 0, 0, 0, 0, 0⟩).coil]) = (l.drop o).take n := rowL_sub (C := codZ) hn
theorem codZ_take {n : Nat} {l : List Zn} (hn : n ≤ l.length) : rowL codZ n (fun j => [.str (l.getD j ⟨[], 0, 0, 0, 0, 0, 0, 0, 0⟩).name, .int .i64 (l.getD j ⟨[], 0, 0, 0, 0, 0, 0, 0, 0⟩).level, .int .i64 (l.getD j ⟨[], 0, 0, 0, 0, 0, 0, 0, 0⟩).lox, .int .i64 (l.getD j ⟨[], 0, 0, 0, 0, 0, 0, 0, 0⟩).loy, .int .i64 (l.getD j ⟨[], 0, 0, 0, 0, 0, 0, 0, 0⟩).hix, .int .i64 (l.getD j ⟨[], 0, 0, 0, 0, 0, 0, 0, 0⟩).hiy, .int .i64 (l.getD j ⟨[], 0, 0, 0, 0, 0, 0, 0, 0⟩).hx, .int .i64 (l.getD j ⟨[], 0, 0, 0, 0, 0, 0, 0, 0⟩).hy, .int .i64 (l.getD j ⟨[], 0, 0, 0, 0, 0, 0, 0, 0⟩).coil]) = l.take n := rowL_take (C := codZ) hn
def codZW (a : Zn) : Prop := a.name.length ≤ maxLen ∧ (Lit.int .i64 a.level).wf = true ∧ (Lit.int .i64 a.lox).wf = true ∧ (Lit.int .i64 a.loy).wf = true ∧ (Lit.int .i64 a.hix).wf = true ∧ (Lit.int .i64 a.hiy).wf = true ∧ (Lit.int .i64 a.hx).wf = true ∧ (Lit.int .i64 a.hy).wf = true ∧ (Lit.int .i64 a.coil).wf = true
theorem codZ_acc : codZ.Acc [.str, .int .i64, .int .i64, .int .i64, .int .i64, .int .i64, .int .i64, .int .i64, .int .i64] codZW := by
  intro svs h
  simp only [HasKL, HasK] at h
  obtain ⟨x0, r0, rfl, ⟨a0, rfl, h0⟩, x1, r1, rfl, ⟨a1, rfl, h1⟩, x2, r2, rfl, ⟨a2, rfl, h2⟩, x3, r3, rfl, ⟨a3, rfl, h3⟩, x4, r4, rfl, ⟨a4, rfl, h4⟩, x5, r5, rfl, ⟨a5, rfl, h5⟩, x6, r6, rfl, ⟨a6, rfl, h6⟩, x7, r7, rfl, ⟨a7, rfl, h7⟩, x8, r8, rfl, ⟨a8, rfl, h8⟩, rfl⟩ := h
  exact ⟨⟨a0, a1, a2, a3, a4, a5, a6, a7, a8⟩, rfl, trivial, h0, h1, h2, h3, h4, h5, h6, h7, h8⟩
/-- A table, as far as this chapter reads it. -/
structure Tb where
  radius : Int
  gx : Int
  gy : Int
  drag : Int
  shift : Int
  zones : List Zn
  deriving DecidableEq
abbrev codZs : Cod (List Zn) := codR codZ codZ_z
theorem opq_leZ {x : SV} (h : closed1 x = true) : leZ x .opq := by
  cases x <;> simp [closed1] at h <;> simp [leZ, leZ0, andB, closed1]
def codTb : Cod Tb where
  n := 18
  enc a := [.int .i64 a.radius, .opq, .opq, .int .i64 a.gx, .int .i64 a.gy, .int .i64 a.drag, .int .i64 a.shift, .opq, .opq, .opq, .opq, .opq, encR codZ a.zones, .opq, .opq, .opq, .opq, .opq]
  dec := fun | [x0, x1, x2, x3, x4, x5, x6, x7, x8, x9, x10, x11, x12, x13, x14, x15, x16, x17] => oB (rI .i64 x0) fun a0 => oB (rI .i64 x3) fun a3 => oB (rI .i64 x4) fun a4 => oB (rI .i64 x5) fun a5 => oB (rI .i64 x6) fun a6 => oB (codZs.dec [x12]) fun a12 => some ⟨a0, a3, a4, a5, a6, a12⟩ | _ => none
  dft := ⟨0, 0, 0, 0, 0, []⟩
  good := fun | [x0, x1, x2, x3, x4, x5, x6, x7, x8, x9, x10, x11, x12, x13, x14, x15, x16, x17] => (closed1 x1 = true ∧ closed1 x2 = true ∧ closed1 x7 = true ∧ closed1 x8 = true ∧ closed1 x9 = true ∧ closed1 x10 = true ∧ closed1 x11 = true ∧ closed1 x13 = true ∧ closed1 x14 = true ∧ closed1 x15 = true ∧ closed1 x16 = true ∧ closed1 x17 = true) ∧ codZs.good [x12] | _ => True
  fine a := ⟨⟨rfl, rfl, rfl, rfl, rfl, rfl, rfl, rfl, rfl, rfl, rfl, rfl⟩, codZs.fine a.zones⟩
  ok l a h hg := by
    split at h
    case h_2 => cases h
    obtain ⟨a0, h0, h⟩ := oB_ok h
    obtain ⟨a3, h3, h⟩ := oB_ok h
    obtain ⟨a4, h4, h⟩ := oB_ok h
    obtain ⟨a5, h5, h⟩ := oB_ok h
    obtain ⟨a6, h6, h⟩ := oB_ok h
    obtain ⟨a12, h12, h⟩ := oB_ok h
    cases h
    obtain ⟨⟨g1, g2, g7, g8, g9, g10, g11, g13, g14, g15, g16, g17⟩, g12⟩ := hg
    exact ⟨rI_leZ h0, opq_leZ g1, opq_leZ g2, rI_leZ h3, rI_leZ h4, rI_leZ h5, rI_leZ h6, opq_leZ g7, opq_leZ g8, opq_leZ g9, opq_leZ g10, opq_leZ g11, (codZs.ok _ _ h12 g12).1, opq_leZ g13, opq_leZ g14, opq_leZ g15, opq_leZ g16, opq_leZ g17, trivial⟩
  self a := by
    have := codZs.self a.zones
    simp only [rI_self, oB_some]
    show oB (codZs.dec (codZs.enc a.zones)) _ = _
    rw [this]; rfl
  len _ := rfl
  mrg c x y a b h k := by
    split at h
    case h_2 => cases h
    split at k
    case h_2 => cases k
    obtain ⟨a0, h0, h⟩ := oB_ok h
    obtain ⟨b0, k0, k⟩ := oB_ok k
    obtain ⟨a3, h3, h⟩ := oB_ok h
    obtain ⟨b3, k3, k⟩ := oB_ok k
    obtain ⟨a4, h4, h⟩ := oB_ok h
    obtain ⟨b4, k4, k⟩ := oB_ok k
    obtain ⟨a5, h5, h⟩ := oB_ok h
    obtain ⟨b5, k5, k⟩ := oB_ok k
    obtain ⟨a6, h6, h⟩ := oB_ok h
    obtain ⟨b6, k6, k⟩ := oB_ok k
    obtain ⟨a12, h12, h⟩ := oB_ok h
    obtain ⟨b12, k12, k⟩ := oB_ok k
    cases h; cases k
    have m := codZs.mrg c _ _ _ _ h12 k12
    simp only [mergeL] at m ⊢
    simp only [rI_mrg h0 k0, rI_mrg h3 k3, rI_mrg h4 k4, rI_mrg h5 k5, rI_mrg h6 k6, oB_some, m]
    cases c <;> rfl
@[simp] theorem codTb_n : codTb.n = 18 := rfl
@[simp] theorem codTb_dft : codTb.dft = ⟨0, 0, 0, 0, 0, []⟩ := rfl
@[simp] theorem codTb_enc (a : Tb) : codTb.enc a = [.int .i64 a.radius, .opq, .opq, .int .i64 a.gx, .int .i64 a.gy, .int .i64 a.drag, .int .i64 a.shift, .opq, .opq, .opq, .opq, .opq, encR codZ a.zones, .opq, .opq, .opq, .opq, .opq] := rfl
/-! An argument that is a table. -/
def isI : CS → Bool
  | .int .i64 => true
  | _ => false
def isStr : CS → Bool
  | .str => true
  | _ => false
theorem isI_ok {k : CS} (h : isI k = true) : k = .int .i64 := by
  unfold isI at h; split at h
  · rfl
  · cases h
theorem isStr_ok {k : CS} (h : isStr k = true) : k = .str := by
  unfold isStr at h; split at h
  · rfl
  · cases h
def okZ : List CS → Bool
  | [k0, k1, k2, k3, k4, k5, k6, k7, k8] => isStr k0 && isI k1 && isI k2 && isI k3 && isI k4 && isI k5 && isI k6 && isI k7 && isI k8
  | _ => false
def okTb : List CS → Bool
  | [k0, k1, k2, k3, k4, k5, k6, k7, k8, k9, k10, k11, k12, k13, k14, k15, k16, k17] => isI k0 && isI k3 && isI k4 && isI k5 && isI k6 && (match k12 with | .sl ks => okZ ks | _ => false)
  | _ => false
theorem okZ_ok {ks : List CS} (h : okZ ks = true) : ks = [.str, .int .i64, .int .i64, .int .i64, .int .i64, .int .i64, .int .i64, .int .i64, .int .i64] := by
  unfold okZ at h; split at h
  · simp only [Bool.and_eq_true] at h
    obtain ⟨⟨⟨⟨⟨⟨⟨⟨h0, h1⟩, h2⟩, h3⟩, h4⟩, h5⟩, h6⟩, h7⟩, h8⟩ := h
    rw [isStr_ok h0, isI_ok h1, isI_ok h2, isI_ok h3, isI_ok h4, isI_ok h5, isI_ok h6, isI_ok h7, isI_ok h8]
  · cases h
theorem HasK_closed {k : CS} {x : SV} (h : HasK k x) : closed1 x = true := by
  cases k <;> simp only [HasK] at h
  · obtain ⟨n, rfl, _⟩ := h; rfl
  · obtain ⟨n, rfl⟩ := h; rfl
  · obtain ⟨n, rfl, _⟩ := h; rfl
  · obtain ⟨n, f, rfl, _⟩ := h; rfl
def codTbW (t : Tb) : Prop := (Lit.int .i64 t.radius).wf = true ∧ (Lit.int .i64 t.gx).wf = true ∧ (Lit.int .i64 t.gy).wf = true ∧ (Lit.int .i64 t.drag).wf = true ∧ (Lit.int .i64 t.shift).wf = true ∧ t.zones.length ≤ maxLen ∧ ∀ z ∈ t.zones, codZW z
theorem codTb_acc {ks : List CS} (hk : okTb ks = true) : codTb.Acc ks codTbW := by
  intro svs h
  unfold okTb at hk; split at hk
  case h_2 => cases hk
  rename_i k0 k1 k2 k3 k4 k5 k6 k7 k8 k9 k10 k11 k12 k13 k14 k15 k16 k17
  simp only [Bool.and_eq_true] at hk
  obtain ⟨⟨⟨⟨⟨e0, e3⟩, e4⟩, e5⟩, e6⟩, e12⟩ := hk
  obtain rfl := isI_ok e0
  obtain rfl := isI_ok e3
  obtain rfl := isI_ok e4
  obtain rfl := isI_ok e5
  obtain rfl := isI_ok e6
  split at e12
  case h_2 => cases e12
  rename_i zk
  obtain rfl := okZ_ok e12
  simp only [HasKL] at h
  obtain ⟨x0, r0, rfl, h0, x1, r1, rfl, h1, x2, r2, rfl, h2, x3, r3, rfl, h3, x4, r4, rfl, h4, x5, r5, rfl, h5, x6, r6, rfl, h6, x7, r7, rfl, h7, x8, r8, rfl, h8, x9, r9, rfl, h9, x10, r10, rfl, h10, x11, r11, rfl, h11, x12, r12, rfl, h12, x13, r13, rfl, h13, x14, r14, rfl, h14, x15, r15, rfl, h15, x16, r16, rfl, h16, x17, r17, rfl, h17, rfl⟩ := h
  simp only [HasK] at h0 h3 h4 h5 h6
  obtain ⟨a0, rfl, w0⟩ := h0
  obtain ⟨a3, rfl, w3⟩ := h3
  obtain ⟨a4, rfl, w4⟩ := h4
  obtain ⟨a5, rfl, w5⟩ := h5
  obtain ⟨a6, rfl, w6⟩ := h6
  obtain ⟨n, f, rfl, g1, g2, g3, g4⟩ := HasK_row h12 codZ_acc rfl
  have hd : codZs.dec [SV.ros 9 n f] = some (rowL codZ n f) := rfl
  refine ⟨⟨a0, a3, a4, a5, a6, rowL codZ n f⟩, ?_, ⟨⟨HasK_closed h1, HasK_closed h2, HasK_closed h7, HasK_closed h8, HasK_closed h9, HasK_closed h10, HasK_closed h11, HasK_closed h13, HasK_closed h14, HasK_closed h15, HasK_closed h16, HasK_closed h17⟩, g1⟩, w0, w3, w4, w5, w6, by rw [rowL_length]; exact g3, g4⟩
  simp only [codTb, rI_self, oB_some]
  rfl
theorem shapeT : ∃ ks, shapeOf Try.prog 9 36 = some ks ∧ okTb ks = true := by
  have h : (match shapeOf Try.prog 9 36 with | some ks => okTb ks | none => false) = true := by kernel_rfl
  split at h
  · exact ⟨_, ‹_›, h⟩
  · cases h
theorem open_table {ts : List TypeId} {xs : List SV} (h : HasArgs Try.prog (36 :: ts) xs) : ∃ a x r, xs = x :: r ∧ le1 x ((argA codTb).enc a) ∧ codTbW a ∧ HasArgs Try.prog ts r := by
  obtain ⟨ks, h1, h2⟩ := shapeT
  exact open_struct h h1 (by kernel_rfl) (codTb_acc h2)
end Go.Proofs.Fi
