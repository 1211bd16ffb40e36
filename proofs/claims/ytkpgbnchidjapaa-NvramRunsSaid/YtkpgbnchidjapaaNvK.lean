import Derived.Test.YtkpgbnchidjapaaNvJ
namespace Go.Proofs.Nv
set_option linter.unusedVariables false
set_option linter.unusedSimpArgs false
open Go Go.Sx Go.Proofs
set_option maxRecDepth 100000
set_option maxHeartbeats 4000000
-- SAME: sm
-- ABBR: IntKind.i64.wrap ==> W
noncomputable def vc3 (l : List Bs) (x : List Bit) (raw : Bs) : Prop := cva T14 Try.f3 [] [encR codS l, encR codBit x, .str raw] (.bool true)
theorem vc3_eq (l : List Bs) (x : List Bit) (raw : Bs) : (True ∧ True ∧ ((∀ (i : Nat), i < l.length → true = true ∧ True) ∧ (rowL codS l.length fun i => codS.enc (l.getD i codS.dft)).length ≤ (9223372036854775807 : Nat)
    ∧ ∀ (c : List UInt8), (c ∈ rowL codS l.length fun i => codS.enc (l.getD i codS.dft)) → c.length ≤ (9223372036854775807 : Nat)) ∧ True ∧ ((∀ (i : Nat), i < (comF
    (rowL codS l.length fun i => codS.enc (l.getD i codS.dft))).length → true = true ∧ True) ∧ (rowL codS (comF (rowL codS l.length fun i => codS.enc (l.getD i codS.dft))).length
    fun i => codS.enc ((comF (rowL codS l.length fun i => codS.enc (l.getD i codS.dft))).getD i codS.dft)).length ≤ (1000000 : Nat) ∧ ∀ (c : List UInt8), (c ∈ rowL codS
    (comF (rowL codS l.length fun i => codS.enc (l.getD i codS.dft))).length fun i => codS.enc ((comF (rowL codS l.length fun i => codS.enc (l.getD i codS.dft))).getD
    i codS.dft)) → c.length ≤ (1024 : Nat)) ∧ True ∧ (true = true → True ∧ (True ∧ True) ∧ (true = true → True ∧ True ∧ ((True ∧ ∀ (i : Nat), i < x.length → true = true
    ∧ True) ∧ List.length (madM (rowL codS (comF (rowL codS l.length fun i => codS.enc (l.getD i codS.dft))).length fun i => codS.enc ((comF (rowL codS l.length fun
    i => codS.enc (l.getD i codS.dft))).getD i codS.dft))) = (2062 : Nat) ∧ (rowL codBit x.length fun i => codBit.enc (x.getD i codBit.dft)).length ≤ (9223372036854775807
    : Nat) ∧ ∀ (b : Bit), (b ∈ rowL codBit x.length fun i => codBit.enc (x.getD i codBit.dft)) → (Lit.int IntKind.u16 b.pos).wf = true ∧ (Lit.int IntKind.u8 b.val).wf
    = true) ∧ True ∧ (True ∧ True) ∧ (true = true → (decide (↑(List.length raw) > (3000 : Int)) = true → (True ∧ True) ∧ True ∧ True ∧ true = true ∧ True) ∧ (decide
    (↑(List.length raw) > (3000 : Int)) = false → True ∧ (True ∧ True) ∧ (true = true → (True ∧ True) ∧ True ∧ True ∧ true = true ∧ True) ∧ (true = false → True ∧ True
    ∧ true = false ∧ True))) ∧ (true = false → True ∧ True ∧ true = false ∧ True)) ∧ (true = false → True ∧ True ∧ true = false ∧ True)) ∧ (true = false → True ∧ True
    ∧ true = false ∧ True)) = vc3 l x raw := by kernel_rfl
theorem mxl {n : Nat} (h : n ≤ Go.maxLen) : n ≤ 9223372036854775807 := by simpa [Go.maxLen] using h
theorem mxa {l : List Bs} (h : ∀ c ∈ l, c.length ≤ Go.maxLen) : ∀ c ∈ l, c.length ≤ 9223372036854775807 := fun c hc => mxl (h c hc)
theorem selfS (l : List Bs) : rowL codS l.length (fun i => [SV.str (l.getD i [])]) = l := rowL_enc (C := codS) rfl
theorem com_ok (l : List Bs) : (comF l).length ≤ 1000000 ∧ ∀ c ∈ comF l, c.length ≤ 1024 := ⟨by rw [com_len]; omega, com_all⟩
theorem mad_len {l : List Bs} (h : ∀ c ∈ l, c.length ≤ 1024) : (madM l).length = 2062 ∧ curE (madM l) = 0 := by
  have := mad_good h l.length (by omega)
  rw [List.take_length] at this; exact this
theorem t3 (l : List Bs) (x : List Bit) (raw : Bs) (hl : l.length ≤ 9223372036854775807) (hc : ∀ c ∈ l, c.length ≤ 9223372036854775807) (hx : x.length ≤ 9223372036854775807) (hb : ∀ b ∈ x, codBitW b) : vc3 l x raw := by
  rw [← vc3_eq]
  simp [-List.getD_eq_getElem?_getD, W_def, by_def]
  simp only [selfS]
  exact ⟨⟨hl, hc⟩, com_ok l, (mad_len com_all).1, hx, hb⟩
end Go.Proofs.Nv
