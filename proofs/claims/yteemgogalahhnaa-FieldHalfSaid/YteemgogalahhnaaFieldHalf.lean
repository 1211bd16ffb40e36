/-
  FieldHalf of chapter 18: for every input the law returns true, and each argument reads afterwards as it did. Conditions: none.
-/
import Derived.Test.YteemgogalahhnaaFiD
namespace Go.Proofs.Yteemgogalahhnaa
set_option linter.unusedVariables false
set_option linter.unusedSimpArgs false
open Go Go.Sx Go.Proofs Go.RowKit Go.ChangeShapes Go.WideShapes Go.ChangeAt Go.Proofs.Fi
set_option maxRecDepth 100000
theorem own : ownKnob Try.prog.godebug = none := by kernel_rfl
theorem laidOut : laidOutB Try.prog = true := by kernel_rfl
theorem fieldHalf_lifted (os : Os) (started : os.Started) (H : Type) (enc : TypeId × Value → H) :
    ReturnsInHanded {} Try.checked os 5 .any (Rows.fieldHalfSpec.pre6 enc Try.prog Try.f5 Rows.fieldHalfRow.domain false) (Rows.fieldHalfSpec.post enc Try.prog Try.f5 false true false false) := by
  refine law_lifted (C := Try.checked) (tb := 4) started own laidOut (by kernel_rfl) Try.func5 rfl (by kernel_rfl) Try.underlying4 ?_ (by kernel_rfl) (by kernel_rfl)
    (ChangeSpec.witness6 (enc := enc) (C := Try.checked) false ⟨#[], #[.agg #[.int .i64 0, .int .i64 0, .int .i64 0, .int .i64 0, .int .i64 0, .int .i64 0, .int .i64 0, .slice none 0 0, .slice none 0 0, .slice none 0 0, .slice none 0 0, .slice none 0 0, .slice none 0 0, .slice none 0 0, .slice none 0 0, .slice none 0 0, .slice none 0 0, .slice none 0 0], .agg #[.int .i64 0, .int .i64 0], .int .u32 0], []⟩ 8 (by kernel_rfl) (by kernel_rfl) (by kernel_rfl) (by kernel_rfl)) ?_
  · intro ds h
    have h : ds.length = 3 := by rw [h]; kernel_rfl
    match ds, h with
    | [d0, d1, d2], _ => rfl
  · intro W xs args h hrel
    rw [show (Try.f5.params.toList) = [36, 23, 44] by kernel_rfl] at h
    obtain ⟨t, x0, r0, rfl, l0, w0, h⟩ := open_table h
    obtain ⟨v, x1, r1, rfl, l1, w1, h⟩ := open_struct (C := codV) (wf := codVW) h (by kernel_rfl) (by kernel_rfl) codV_acc
    obtain ⟨n, r2, rfl, w2, h⟩ := open_int (ik := .u32) h (by kernel_rfl) (by kernel_rfl)
    cases h
    exact law_tt (law_run k7 hm Try.func5 (by kernel_rfl) (t5 t v.x v.y n (max_of w0.2.2.2.2.2.1)) hrel ⟨l0, l1, le1_refl _, trivial⟩ (by kernel_rfl))
/-- 'FieldHalf': for every input the law returns true, and each argument reads afterwards as it did. -/
theorem fieldHalf_holds : Rows.FieldHalfSaid :=
  OpenClaim.holds_of_wide 5 Try.f5 rfl rfl rfl rfl rfl rfl rfl ⟨rfl, rfl, rfl, rfl, rfl⟩ rfl rfl rfl rfl rfl (by kernel_rfl) Try.func5 (by kernel_rfl)
    (of_decide_eq_true (by kernel_rfl)) (by unfold Func.isWrapper; first | (rw [if_pos (by decide +kernel)]; kernel_rfl) | (rw [if_neg (by decide +kernel)]; exact ⟨rfl, rfl⟩))
    (fun os started H enc _ => fieldHalf_lifted os started H enc)
end Go.Proofs.Yteemgogalahhnaa
