/-
  NvramDetects of chapter 40: for every input the law returns true, and each argument reads afterwards as it did. Conditions: none.
-/
import Derived.Test.YtkpgbnchidjapaaNvN
namespace Go.Proofs.Ytkpgbnchidjapaa
set_option linter.unusedVariables false
set_option linter.unusedSimpArgs false
open Go Go.Sx Go.Proofs Go.RowKit Go.ChangeShapes Go.WideShapes Go.ChangeAt Go.Proofs.Nv
set_option maxRecDepth 100000
theorem own : ownKnob Try.prog.godebug = none := by kernel_rfl
theorem laidOut : laidOutB Try.prog = true := by kernel_rfl
theorem nvramDetects_lifted (os : Os) (started : os.Started) (H : Type) (enc : TypeId × Value → H) :
    ReturnsInHanded {} Try.checked os 7 .any (Rows.nvramDetectsSpec.pre6 enc Try.prog Try.f7 Rows.nvramDetectsRow.domain false) (Rows.nvramDetectsSpec.post enc Try.prog Try.f7 false true false false) := by
  refine law_lifted (C := Try.checked) (tb := 4) started own laidOut (by kernel_rfl) Try.func7 rfl (by kernel_rfl) Try.underlying4 ?_ (by kernel_rfl) (by kernel_rfl)
    (ChangeSpec.witness6 (enc := enc) (C := Try.checked) false ⟨#[], #[.slice none 0 0, .int .u16 0, .int .u8 0], []⟩ 8 (by kernel_rfl) (by kernel_rfl) (by kernel_rfl) (by kernel_rfl)) ?_
  · intro ds h
    have h : ds.length = 3 := by rw [h]; kernel_rfl
    match ds, h with
    | [d0, d1, d2], _ => rfl
  · intro W xs args h hrel
    rw [show (Try.f7.params.toList) = [22, 42, 5] by kernel_rfl] at h
    obtain ⟨l, x0, r0, rfl, l0, m0, w0, h⟩ := open_row h (by kernel_rfl) (by kernel_rfl) codS_acc (by kernel_rfl)
    obtain ⟨a, r1, rfl, w1, h⟩ := open_int (ik := .u16) h (by kernel_rfl) (by kernel_rfl)
    obtain ⟨b, r2, rfl, w2, h⟩ := open_int (ik := .u8) h (by kernel_rfl) (by kernel_rfl)
    cases h
    exact law_tt (law_run k14 hm Try.func7 (by kernel_rfl) (t7 l a b (mxl m0) (mxa w0) (u16_facts w1).1 (u16_facts w1).2 (u8_facts w2).1 (u8_facts w2).2) hrel ⟨l0, le1_refl _, le1_refl _, trivial⟩ (by kernel_rfl))
/-- 'NvramDetects': for every input the law returns true, and each argument reads afterwards as it did. -/
theorem nvramDetects_holds : Rows.NvramDetectsSaid :=
  OpenClaim.holds_of_wide 7 Try.f7 rfl rfl rfl rfl rfl rfl rfl ⟨rfl, rfl, rfl, rfl, rfl⟩ rfl rfl rfl rfl rfl (by kernel_rfl) Try.func7 (by kernel_rfl)
    (of_decide_eq_true (by kernel_rfl)) (by unfold Func.isWrapper; first | (rw [if_pos (by decide +kernel)]; kernel_rfl) | (rw [if_neg (by decide +kernel)]; exact ⟨rfl, rfl⟩))
    (fun os started H enc _ => nvramDetects_lifted os started H enc)
end Go.Proofs.Ytkpgbnchidjapaa
