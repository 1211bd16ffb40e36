/-
  FieldShift of chapter 18: for every input the law returns true, and each argument reads afterwards as it did. Conditions: none.
-/
import Derived.Test.YteemgogalahhnaaFiE
namespace Go.Proofs.Yteemgogalahhnaa
set_option linter.unusedVariables false
set_option linter.unusedSimpArgs false
open Go Go.Sx Go.Proofs Go.RowKit Go.ChangeShapes Go.WideShapes Go.ChangeAt Go.Proofs.Fi
set_option maxRecDepth 100000
theorem own : ownKnob Try.prog.godebug = none := by kernel_rfl
theorem laidOut : laidOutB Try.prog = true := by kernel_rfl
theorem fieldShift_lifted (os : Os) (started : os.Started) (H : Type) (enc : TypeId × Value → H) :
    ReturnsInHanded {} Try.checked os 6 .any (Rows.fieldShiftSpec.pre6 enc Try.prog Try.f6 Rows.fieldShiftRow.domain false) (Rows.fieldShiftSpec.post enc Try.prog Try.f6 false true false false) := by
  refine law_lifted (C := Try.checked) (tb := 4) started own laidOut (by kernel_rfl) Try.func6 rfl (by kernel_rfl) Try.underlying4 ?_ (by kernel_rfl) (by kernel_rfl)
    (ChangeSpec.witness6 (enc := enc) (C := Try.checked) false ⟨#[], #[.agg #[.int .i64 0, .int .i64 0, .int .i64 0, .int .i64 0, .int .i64 0, .int .i64 0, .int .i64 0, .slice none 0 0, .slice none 0 0, .slice none 0 0, .slice none 0 0, .slice none 0 0, .slice none 0 0, .slice none 0 0, .slice none 0 0, .slice none 0 0, .slice none 0 0, .slice none 0 0], .agg #[.int .i64 0, .int .i64 0], .int .i64 0], []⟩ 8 (by kernel_rfl) (by kernel_rfl) (by kernel_rfl) (by kernel_rfl)) ?_
  · intro ds h
    have h : ds.length = 3 := by rw [h]; kernel_rfl
    match ds, h with
    | [d0, d1, d2], _ => rfl
  · intro W xs args h hrel
    rw [show (Try.f6.params.toList) = [36, 23, 3] by kernel_rfl] at h
    obtain ⟨t, x0, r0, rfl, l0, w0, h⟩ := open_table h
    obtain ⟨v, x1, r1, rfl, l1, w1, h⟩ := open_struct (C := codV) (wf := codVW) h (by kernel_rfl) (by kernel_rfl) codV_acc
    obtain ⟨n, r2, rfl, w2, h⟩ := open_int (ik := .i64) h (by kernel_rfl) (by kernel_rfl)
    cases h
    exact law_tt (law_run k7 hm Try.func6 (by kernel_rfl) (t6 t v.x v.y n (max_of w0.2.2.2.2.2.1)) hrel ⟨l0, l1, le1_refl _, trivial⟩ (by kernel_rfl))
/-- 'FieldShift': for every input the law returns true, and each argument reads afterwards as it did. -/
theorem fieldShift_holds : Rows.FieldShiftSaid :=
  OpenClaim.holds_of_wide 6 Try.f6 rfl rfl rfl rfl rfl rfl rfl ⟨rfl, rfl, rfl, rfl, rfl⟩ rfl rfl rfl rfl rfl (by kernel_rfl) Try.func6 (by kernel_rfl)
    (of_decide_eq_true (by kernel_rfl)) (by unfold Func.isWrapper; first | (rw [if_pos (by decide +kernel)]; kernel_rfl) | (rw [if_neg (by decide +kernel)]; exact ⟨rfl, rfl⟩))
    (fun os started H enc _ => fieldShift_lifted os started H enc)
end Go.Proofs.Yteemgogalahhnaa
