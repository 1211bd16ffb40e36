/-
  DotsWrites of chapter 38: for every input the law returns true, and each argument reads afterwards as it did. Conditions: none.
-/
import Derived.Test.YtjmjndfdociiiaaDoN
namespace Go.Proofs.Ytjmjndfdociiiaa
set_option linter.unusedVariables false
set_option linter.unusedSimpArgs false
open Go Go.Sx Go.Proofs Go.RowKit Go.ChangeShapes Go.WideShapes Go.ChangeAt Go.Proofs.Do
set_option maxRecDepth 100000
theorem own : ownKnob Try.prog.godebug = none := by kernel_rfl
theorem laidOut : laidOutB Try.prog = true := by kernel_rfl
theorem dotsWrites_lifted (os : Os) (started : os.Started) (H : Type) (enc : TypeId × Value → H) :
    ReturnsInHanded {} Try.checked os 11 .any (Rows.dotsWritesSpec.pre6 enc Try.prog Try.f11 Rows.dotsWritesRow.domain false) (Rows.dotsWritesSpec.post enc Try.prog Try.f11 false true false false) := by
  refine law_lifted (C := Try.checked) (tb := 4) started own laidOut (by kernel_rfl) Try.func11 rfl (by kernel_rfl) Try.underlying4 ?_ (by kernel_rfl) (by kernel_rfl)
    (ChangeSpec.witness6 (enc := enc) (C := Try.checked) false ⟨#[], #[.string ⟨#[]⟩, .int .u8 0, .agg #[.int .i64 0, .int .i64 0, .int .i64 0]], []⟩ 8 (by kernel_rfl) (by kernel_rfl) (by kernel_rfl) (by kernel_rfl)) ?_
  · intro ds h
    have h : ds.length = 3 := by rw [h]; kernel_rfl
    match ds, h with
    | [d0, d1, d2], _ => rfl
  · intro W xs args h hrel
    rw [show (Try.f11.params.toList) = [9, 5, 27] by kernel_rfl] at h
    obtain ⟨s, r0, rfl, w0, h⟩ := open_str h (by kernel_rfl) (by kernel_rfl)
    obtain ⟨k, r1, rfl, w1, h⟩ := open_int (ik := .u8) h (by kernel_rfl) (by kernel_rfl)
    obtain ⟨d, x2, r2, rfl, l2, w2, h⟩ := open_struct h (by kernel_rfl) (by kernel_rfl) codDot_acc
    cases h
    exact law_tt (law_run k16 hm Try.func11 (by kernel_rfl) (v11 s k d (u8_facts w1).1 (u8_facts w1).2) hrel ⟨le1_refl _, le1_refl _, l2, trivial⟩ (by kernel_rfl))
/-- 'DotsWrites': for every input the law returns true, and each argument reads afterwards as it did. -/
theorem dotsWrites_holds : Rows.DotsWritesSaid :=
  OpenClaim.holds_of_wide 11 Try.f11 rfl rfl rfl rfl rfl rfl rfl ⟨rfl, rfl, rfl, rfl, rfl⟩ rfl rfl rfl rfl rfl (by kernel_rfl) Try.func11 (by kernel_rfl)
    (of_decide_eq_true (by kernel_rfl)) (by unfold Func.isWrapper; first | (rw [if_pos (by decide +kernel)]; kernel_rfl) | (rw [if_neg (by decide +kernel)]; exact ⟨rfl, rfl⟩))
    (fun os started H enc _ => dotsWrites_lifted os started H enc)
end Go.Proofs.Ytjmjndfdociiiaa
