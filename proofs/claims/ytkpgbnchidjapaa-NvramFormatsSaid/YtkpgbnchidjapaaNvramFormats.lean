/-
  NvramFormats of chapter 40: for every input the law returns true, and each argument reads afterwards as it did. Conditions: none.
-/
import Derived.Test.YtkpgbnchidjapaaNvQ
namespace Go.Proofs.Ytkpgbnchidjapaa
set_option linter.unusedVariables false
set_option linter.unusedSimpArgs false
open Go Go.Sx Go.Proofs Go.RowKit Go.ChangeShapes Go.WideShapes Go.ChangeAt Go.Proofs.Nv
set_option maxRecDepth 100000
theorem own : ownKnob Try.prog.godebug = none := by kernel_rfl
theorem laidOut : laidOutB Try.prog = true := by kernel_rfl
theorem nvramFormats_lifted (os : Os) (started : os.Started) (H : Type) (enc : TypeId × Value → H) :
    ReturnsInHanded {} Try.checked os 8 .any (Rows.nvramFormatsSpec.pre6 enc Try.prog Try.f8 Rows.nvramFormatsRow.domain false) (Rows.nvramFormatsSpec.post enc Try.prog Try.f8 false true false false) := by
  refine law_lifted (C := Try.checked) (tb := 4) started own laidOut (by kernel_rfl) Try.func8 rfl (by kernel_rfl) Try.underlying4 ?_ (by kernel_rfl) (by kernel_rfl)
    (ChangeSpec.witness6 (enc := enc) (C := Try.checked) false ⟨#[], #[.string ⟨#[]⟩, .int .u8 0], []⟩ 8 (by kernel_rfl) (by kernel_rfl) (by kernel_rfl) (by kernel_rfl)) ?_
  · intro ds h
    have h : ds.length = 2 := by rw [h]; kernel_rfl
    match ds, h with
    | [d0, d1], _ => rfl
  · intro W xs args h hrel
    rw [show (Try.f8.params.toList) = [9, 5] by kernel_rfl] at h
    obtain ⟨s, r0, rfl, w0, h⟩ := open_str h (by kernel_rfl) (by kernel_rfl)
    obtain ⟨n, r1, rfl, w1, h⟩ := open_int (ik := .u8) h (by kernel_rfl) (by kernel_rfl)
    cases h
    exact law_tt (law_run k14 hm Try.func8 (by kernel_rfl) (t8 s n (mxl w0) (u8_facts w1).1 (u8_facts w1).2) hrel ⟨le1_refl _, le1_refl _, trivial⟩ (by kernel_rfl))
/-- 'NvramFormats': for every input the law returns true, and each argument reads afterwards as it did. -/
theorem nvramFormats_holds : Rows.NvramFormatsSaid :=
  OpenClaim.holds_of_wide 8 Try.f8 rfl rfl rfl rfl rfl rfl rfl ⟨rfl, rfl, rfl, rfl, rfl⟩ rfl rfl rfl rfl rfl (by kernel_rfl) Try.func8 (by kernel_rfl)
    (of_decide_eq_true (by kernel_rfl)) (by unfold Func.isWrapper; first | (rw [if_pos (by decide +kernel)]; kernel_rfl) | (rw [if_neg (by decide +kernel)]; exact ⟨rfl, rfl⟩))
    (fun os started H enc _ => nvramFormats_lifted os started H enc)
end Go.Proofs.Ytkpgbnchidjapaa
