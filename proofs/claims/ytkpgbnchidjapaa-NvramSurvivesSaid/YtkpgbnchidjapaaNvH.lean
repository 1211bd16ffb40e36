import Derived.Test.YtkpgbnchidjapaaNvG
namespace Go.Proofs.Nv
set_option linter.unusedVariables false
set_option linter.unusedSimpArgs false
open Go Go.Sx Go.Proofs Go.RowKit
set_option maxRecDepth 100000
structure Bit where
  pos : Int
  val : Int
deriving DecidableEq
def codBit : Cod Bit where
  n := 2
  enc a := [.int .u16 a.pos, .int .u8 a.val]
  dec := fun | [x0, x1] => oB (rI .u16 x0) fun a0 => oB (rI .u8 x1) fun a1 => some ⟨a0, a1⟩ | _ => none
  dft := ⟨0, 0⟩
  good _ := True
  fine _ := trivial
  ok l a h _ := by
    split at h
    case h_2 => cases h
    obtain ⟨a0, h0, h⟩ := oB_ok h
    obtain ⟨a1, h1, h⟩ := oB_ok h
    cases h
    exact ⟨rI_leZ h0, rI_leZ h1, trivial⟩
  self _ := rfl
  len _ := rfl
  mrg c x y a b h k := by
    split at h
    case h_2 => cases h
    split at k
    case h_2 => cases k
    obtain ⟨a0, h0, h⟩ := oB_ok h
    obtain ⟨b0, k0, k⟩ := oB_ok k
    obtain ⟨a1, h1, h⟩ := oB_ok h
    obtain ⟨b1, k1, k⟩ := oB_ok k
    cases h; cases k
    simp only [mergeL, rI_mrg h0 k0, rI_mrg h1 k1, oB_some]
    cases c <;> rfl
@[simp] theorem codBit_n : codBit.n = 2 := rfl
@[simp] theorem codBit_dft : codBit.dft = ⟨0, 0⟩ := rfl
@[simp] theorem codBit_enc (a : Bit) : codBit.enc a = [.int .u16 a.pos, .int .u8 a.val] := rfl
@[simp] theorem codBit_push {l : List Bit} {v0 : Int} {v1 : Int} : rowL codBit (l.length + 1) (fun j => mergeL (decide (j < l.length)) [.int .u16 (l.getD j ⟨0, 0⟩).pos, .int .u8 (l.getD j ⟨0, 0⟩).val] [.int .u16 v0, .int .u8 v1]) = l ++ [⟨v0, v1⟩] := rowL_push (C := codBit) rfl
theorem codBit_set {n i : Nat} {l : List Bit} {v0 : Int} {v1 : Int} (hn : n = l.length) : rowL codBit n (fun j => mergeL (decide (j = i)) [.int .u16 v0, .int .u8 v1] [.int .u16 (l.getD j ⟨0, 0⟩).pos, .int .u8 (l.getD j ⟨0, 0⟩).val]) = l.set i ⟨v0, v1⟩ := rowL_set (C := codBit) hn rfl
@[simp] theorem codBit_self {l : List Bit} : rowL codBit l.length (fun j => [.int .u16 (l.getD j ⟨0, 0⟩).pos, .int .u8 (l.getD j ⟨0, 0⟩).val]) = l := rowL_enc (C := codBit) rfl
theorem codBit_z : ∀ l a, codBit.dec l = some a → codBit.good l → leZ0L l (codBit.enc a) := by
  intro l a h _
  simp only [codBit] at h ⊢
  split at h
  case h_2 => cases h
  obtain ⟨a0, h0, h⟩ := oB_ok h
  obtain ⟨a1, h1, h⟩ := oB_ok h
  cases h
  exact ⟨rI_leZ0 h0, rI_leZ0 h1, trivial⟩
@[simp] theorem codBit_const {n : Nat} {v0 : Int} {v1 : Int} : rowL codBit n (fun _ => [.int .u16 v0, .int .u8 v1]) = List.replicate n ⟨v0, v1⟩ := rowL_const (C := codBit) rfl
theorem codBit_sub {n o : Nat} {l : List Bit} (hn : o + n ≤ l.length) : rowL codBit n (fun i => [.int .u16 (l.getD (o + i) ⟨0, 0⟩).pos, .int .u8 (l.getD (o + i) ⟨0, 0⟩).val]) = (l.drop o).take n := rowL_sub (C := codBit) hn
theorem codBit_take {n : Nat} {l : List Bit} (hn : n ≤ l.length) : rowL codBit n (fun j => [.int .u16 (l.getD j ⟨0, 0⟩).pos, .int .u8 (l.getD j ⟨0, 0⟩).val]) = l.take n := rowL_take (C := codBit) hn
def codBitW (a : Bit) : Prop := (Lit.int .u16 a.pos).wf = true ∧ (Lit.int .u8 a.val).wf = true
theorem codBit_acc : codBit.Acc [.int .u16, .int .u8] codBitW := by
  intro svs h
  simp only [HasKL, HasK] at h
  obtain ⟨x0, r0, rfl, ⟨a0, rfl, h0⟩, x1, r1, rfl, ⟨a1, rfl, h1⟩, rfl⟩ := h
  exact ⟨⟨a0, a1⟩, rfl, trivial, h0, h1⟩
theorem law_tt {P : Program} {f : FuncId} {args : Array Value} {W : World} {Q : RO → World → Prop} (h : Calls P f args W fun e W' => ∃ v R', e = .returned v ∧ Rel R' Own.empty (.bool true) v ∧ Q R' W') :
    Calls P f args W fun e W' => ∃ v R', e = .returned v ∧ Rel R' Own.empty .tt v ∧ Q R' W' :=
  Calls.mono h fun e W' ⟨v, R', h1, h2, h3⟩ => ⟨v, R', h1, by rw [inv_bool h2]; exact .tt _, h3⟩
end Go.Proofs.Nv
