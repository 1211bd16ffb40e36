/-
  TiltSplits of chapter 28: for every input the law returns true, and each argument reads afterwards as it did. Conditions: none.
-/
import Derived.Test.YtjbhnbbegkdplaaTiI
namespace Go.Proofs.Ytjbhnbbegkdplaa
open Go Go.Sx Go.Proofs Go.RowKit Go.ChangeShapes Go.WideShapes Go.ChangeAt
set_option maxRecDepth 100000
set_option linter.unusedVariables false
set_option linter.unusedSimpArgs false
open Go.Proofs.Ti
theorem own : ownKnob Try.prog.godebug = none := by kernel_rfl
theorem laidOut : laidOutB Try.prog = true := by kernel_rfl
theorem tiltSplits_lifted (os : Os) (started : os.Started) (H : Type) (enc : TypeId × Value → H) :
    ReturnsInHanded {} Try.checked os 10 .any (Rows.tiltSplitsSpec.pre6 enc Try.prog Try.f10 Rows.tiltSplitsRow.domain false) (Rows.tiltSplitsSpec.post enc Try.prog Try.f10 false true false false) := by
  refine law_lifted (C := Try.checked) (tb := 4) started own laidOut (by kernel_rfl) Try.func10 rfl (by kernel_rfl) Try.underlying4 ?_ (by kernel_rfl) (by kernel_rfl)
    (ChangeSpec.witness6 (enc := enc) (C := Try.checked) false ⟨#[], #[.agg #[.int .i64 0, .int .i64 0, .int .i64 0, .int .i64 0, .int .i64 0, .int .i64 0], .slice none 0 0, .int .u8 0], []⟩ 8 (by kernel_rfl) (by kernel_rfl) (by kernel_rfl) (by kernel_rfl)) ?_
  · intro ds h
    have h : ds.length = 3 := by rw [h]; kernel_rfl
    match ds, h with
    | [d0, d1, d2], _ => rfl
  · intro W xs args h hrel
    rw [show (Try.f10.params.toList) = [23, 28, 5] by kernel_rfl] at h
    obtain ⟨c, x0, r0, rfl, l0, w0, h⟩ := open_struct h (by kernel_rfl) (by kernel_rfl) codC_acc
    obtain ⟨l, x1, r1, rfl, l1, m1, w1, h⟩ := open_row h (by kernel_rfl) (by kernel_rfl) codV_acc (by kernel_rfl)
    obtain ⟨n, r2, rfl, w2, h⟩ := open_int (ik := .u8) h (by kernel_rfl) (by kernel_rfl)
    cases h
    exact law_run k18 hm Try.func10 (by kernel_rfl) (v10 c l n w2) hrel ⟨l0, l1, le1_refl _, trivial⟩ (by kernel_rfl)
/-- 'TiltSplits': for every input the law returns true, and each argument reads afterwards as it did. -/
theorem tiltSplits_holds : Rows.TiltSplitsSaid :=
  OpenClaim.holds_of_wide 10 Try.f10 rfl rfl rfl rfl rfl rfl rfl ⟨rfl, rfl, rfl, rfl, rfl⟩ rfl rfl rfl rfl rfl (by kernel_rfl) Try.func10 (by kernel_rfl)
    (of_decide_eq_true (by kernel_rfl)) (by unfold Func.isWrapper; first | (rw [if_pos (by decide +kernel)]; kernel_rfl) | (rw [if_neg (by decide +kernel)]; exact ⟨rfl, rfl⟩))
    (fun os started H enc _ => tiltSplits_lifted os started H enc)
end Go.Proofs.Ytjbhnbbegkdplaa
