/-
  DebounceLimits of chapter 27: for every input the law returns true, and each argument reads afterwards as it did. Conditions: none.
-/
import Derived.Test.YtdddafcogefceaaDeG
namespace Go.Proofs.Ytdddafcogefceaa
set_option linter.unusedVariables false
set_option linter.unusedSimpArgs false
open Go Go.Sx Go.Proofs Go.RowKit Go.ChangeShapes Go.WideShapes Go.ChangeAt Go.Proofs.De
set_option maxRecDepth 100000
theorem own : ownKnob Try.prog.godebug = none := by kernel_rfl
theorem laidOut : laidOutB Try.prog = true := by kernel_rfl
theorem debounceLimits_lifted (os : Os) (started : os.Started) (H : Type) (enc : TypeId × Value → H) :
    ReturnsInHanded {} Try.checked os 8 .any (Rows.debounceLimitsSpec.pre6 enc Try.prog Try.f8 Rows.debounceLimitsRow.domain false) (Rows.debounceLimitsSpec.post enc Try.prog Try.f8 false true false false) := by
  refine law_lifted (C := Try.checked) (tb := 4) started own laidOut (by kernel_rfl) Try.func8 rfl (by kernel_rfl) Try.underlying4 ?_ (by kernel_rfl) (by kernel_rfl)
    (ChangeSpec.witness6 (enc := enc) (C := Try.checked) false ⟨#[], #[.int .u8 0, .int .u64 0], []⟩ 8 (by kernel_rfl) (by kernel_rfl) (by kernel_rfl) (by kernel_rfl)) ?_
  · intro ds h
    have h : ds.length = 2 := by rw [h]; kernel_rfl
    match ds, h with
    | [d0, d1], _ => rfl
  · intro W xs args h hrel
    rw [show (Try.f8.params.toList) = [5, 23] by kernel_rfl] at h
    obtain ⟨k, r0, rfl, w0, h⟩ := open_int (ik := .u8) h (by kernel_rfl) (by kernel_rfl)
    obtain ⟨n, r1, rfl, w1, h⟩ := open_int (ik := .u64) h (by kernel_rfl) (by kernel_rfl)
    cases h
    exact law_run k13 hm Try.func8 (by kernel_rfl) (v8 k n w0 (u64_facts w1)) hrel ⟨le1_refl _, le1_refl _, trivial⟩ (by kernel_rfl)
/-- 'DebounceLimits': for every input the law returns true, and each argument reads afterwards as it did. -/
theorem debounceLimits_holds : Rows.DebounceLimitsSaid :=
  OpenClaim.holds_of_wide 8 Try.f8 rfl rfl rfl rfl rfl rfl rfl ⟨rfl, rfl, rfl, rfl, rfl⟩ rfl rfl rfl rfl rfl (by kernel_rfl) Try.func8 (by kernel_rfl)
    (of_decide_eq_true (by kernel_rfl)) (by unfold Func.isWrapper; first | (rw [if_pos (by decide +kernel)]; kernel_rfl) | (rw [if_neg (by decide +kernel)]; exact ⟨rfl, rfl⟩))
    (fun os started H enc _ => debounceLimits_lifted os started H enc)
end Go.Proofs.Ytdddafcogefceaa
