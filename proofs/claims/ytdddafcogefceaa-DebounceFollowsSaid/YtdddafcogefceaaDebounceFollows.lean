/-
  DebounceFollows of chapter 27: for every input the law returns true, and each argument reads afterwards as it did. Conditions: none.
-/
import Derived.Test.YtdddafcogefceaaDeL
namespace Go.Proofs.Ytdddafcogefceaa
set_option linter.unusedVariables false
set_option linter.unusedSimpArgs false
open Go Go.Sx Go.Proofs Go.RowKit Go.ChangeShapes Go.WideShapes Go.ChangeAt Go.Proofs.De
set_option maxRecDepth 100000
theorem own : ownKnob Try.prog.godebug = none := by kernel_rfl
theorem laidOut : laidOutB Try.prog = true := by kernel_rfl
theorem debounceFollows_lifted (os : Os) (started : os.Started) (H : Type) (enc : TypeId × Value → H) :
    ReturnsInHanded {} Try.checked os 12 .any (Rows.debounceFollowsSpec.pre6 enc Try.prog Try.f12 Rows.debounceFollowsRow.domain false) (Rows.debounceFollowsSpec.post enc Try.prog Try.f12 false true false false) := by
  refine law_lifted (C := Try.checked) (tb := 4) started own laidOut (by kernel_rfl) Try.func12 rfl (by kernel_rfl) Try.underlying4 ?_ (by kernel_rfl) (by kernel_rfl)
    (ChangeSpec.witness6 (enc := enc) (C := Try.checked) false ⟨#[], #[.slice none 0 0, .slice none 0 0, .int .u64 0], []⟩ 8 (by kernel_rfl) (by kernel_rfl) (by kernel_rfl) (by kernel_rfl)) ?_
  · intro ds h
    have h : ds.length = 3 := by rw [h]; kernel_rfl
    match ds, h with
    | [d0, d1, d2], _ => rfl
  · intro W xs args h hrel
    rw [show (Try.f12.params.toList) = [22, 27, 23] by kernel_rfl] at h
    obtain ⟨l, x0, r0, rfl, l0, m0, w0, h⟩ := open_row h (by kernel_rfl) (by kernel_rfl) codF_acc (by kernel_rfl)
    obtain ⟨n, x1, r1, rfl, l1, m1, w1, h⟩ := open_row h (by kernel_rfl) (by kernel_rfl) (codI_acc (ik := .u64)) (by kernel_rfl)
    obtain ⟨k, r2, rfl, w2, h⟩ := open_int (ik := .u64) h (by kernel_rfl) (by kernel_rfl)
    cases h
    exact law_run k13 hm Try.func12 (by kernel_rfl) (v12 l n k (okR_of w1) (u64_facts w2)) hrel ⟨l0, l1, le1_refl _, trivial⟩ (by kernel_rfl)
/-- 'DebounceFollows': for every input the law returns true, and each argument reads afterwards as it did. -/
theorem debounceFollows_holds : Rows.DebounceFollowsSaid :=
  OpenClaim.holds_of_wide 12 Try.f12 rfl rfl rfl rfl rfl rfl rfl ⟨rfl, rfl, rfl, rfl, rfl⟩ rfl rfl rfl rfl rfl (by kernel_rfl) Try.func12 (by kernel_rfl)
    (of_decide_eq_true (by kernel_rfl)) (by unfold Func.isWrapper; first | (rw [if_pos (by decide +kernel)]; kernel_rfl) | (rw [if_neg (by decide +kernel)]; exact ⟨rfl, rfl⟩))
    (fun os started H enc _ => debounceFollows_lifted os started H enc)
end Go.Proofs.Ytdddafcogefceaa
