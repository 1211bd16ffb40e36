/-
  NvramKeeps of chapter 40: for every input the law returns true, and each argument reads afterwards as it did. Conditions: none.
-/
import Derived.Test.YtkpgbnchidjapaaNvM
namespace Go.Proofs.Ytkpgbnchidjapaa
set_option linter.unusedVariables false
set_option linter.unusedSimpArgs false
open Go Go.Sx Go.Proofs Go.RowKit Go.ChangeShapes Go.WideShapes Go.ChangeAt Go.Proofs.Nv
set_option maxRecDepth 100000
theorem own : ownKnob Try.prog.godebug = none := by kernel_rfl
theorem laidOut : laidOutB Try.prog = true := by kernel_rfl
theorem nvramKeeps_lifted (os : Os) (started : os.Started) (H : Type) (enc : TypeId × Value → H) :
    ReturnsInHanded {} Try.checked os 6 .any (Rows.nvramKeepsSpec.pre6 enc Try.prog Try.f6 Rows.nvramKeepsRow.domain false) (Rows.nvramKeepsSpec.post enc Try.prog Try.f6 false true false false) := by
  refine law_lifted (C := Try.checked) (tb := 4) started own laidOut (by kernel_rfl) Try.func6 rfl (by kernel_rfl) Try.underlying4 ?_ (by kernel_rfl) (by kernel_rfl)
    (ChangeSpec.witness6 (enc := enc) (C := Try.checked) false ⟨#[], #[.slice none 0 0], []⟩ 8 (by kernel_rfl) (by kernel_rfl) (by kernel_rfl) (by kernel_rfl)) ?_
  · intro ds h
    have h : ds.length = 1 := by rw [h]; kernel_rfl
    match ds, h with
    | [d0], _ => rfl
  · intro W xs args h hrel
    rw [show (Try.f6.params.toList) = [22] by kernel_rfl] at h
    obtain ⟨l, x0, r0, rfl, l0, m0, w0, h⟩ := open_row h (by kernel_rfl) (by kernel_rfl) codS_acc (by kernel_rfl)
    cases h
    exact law_tt (law_run k14 hm Try.func6 (by kernel_rfl) (t6 l (mxl m0) (mxa w0)) hrel ⟨l0, trivial⟩ (by kernel_rfl))
/-- 'NvramKeeps': for every input the law returns true, and each argument reads afterwards as it did. -/
theorem nvramKeeps_holds : Rows.NvramKeepsSaid :=
  OpenClaim.holds_of_wide 6 Try.f6 rfl rfl rfl rfl rfl rfl rfl ⟨rfl, rfl, rfl, rfl, rfl⟩ rfl rfl rfl rfl rfl (by kernel_rfl) Try.func6 (by kernel_rfl)
    (of_decide_eq_true (by kernel_rfl)) (by unfold Func.isWrapper; first | (rw [if_pos (by decide +kernel)]; kernel_rfl) | (rw [if_neg (by decide +kernel)]; exact ⟨rfl, rfl⟩))
    (fun os started H enc _ => nvramKeeps_lifted os started H enc)
end Go.Proofs.Ytkpgbnchidjapaa
