import Derived.Test.YtjbhnbbegkdplaaTiC
namespace Go.Proofs.Ti
set_option linter.unusedVariables false
set_option linter.unusedSimpArgs false
open Go Go.Sx Go.Proofs
set_option maxRecDepth 100000
set_option maxHeartbeats 8000000 in
theorem k26 : TabOK Try.prog T26 := fn_tab k25 hm Try.func26 (by kernel_rfl) (by kernel_rfl) sCSV.ok (by kernel_rfl) fun a _ => by
  have h : vc26 a.1 a.2.1 a.2.2 := by
    rw [← vc26_eq]
    obtain ⟨c, s, n⟩ := a
    cases hi : isS c s with
    | false => simp [stateR, repR, errR, zeroS, isT, hi]
    | true =>
      obtain ⟨e1, e2, f1, f2, f3, f4, f5⟩ := isS_facts hi
      simp only [stateR, repR, errR, isT, hi, if_true, stepS, repS, slamS, warnS, closedS, pxS, pyS, vxS, vyS, quietS, e1, e2, beyondS]
      simp only [W] at e1 e2 ⊢
      simp only [e1, e2]
      generalize posS s.px (velS c s.px s.vx (clamp n.x)) = px
      generalize posS s.py (velS c s.py s.vy (clamp n.y)) = py
      generalize velS c s.px s.vx (clamp n.x) = vx
      generalize velS c s.py s.vy (clamp n.y) = vy
      generalize IntKind.i64.wrap (IntKind.i64.wrap (px * px) + IntKind.i64.wrap (py * py)) = A1
      generalize IntKind.i64.wrap (c.ring * c.ring) = A2
      generalize IntKind.i64.wrap (IntKind.i64.wrap (clamp n.x * clamp n.x) + IntKind.i64.wrap (clamp n.y * clamp n.y)) = B1
      generalize IntKind.i64.wrap (c.slam * c.slam) = B2
      generalize IntKind.i64.wrap (s.quiet - 1) = q
      have m0 : max q 0 = if q > 0 then q else 0 := by omega
      have ht : s.tilted = false → s.warned ≠ c.warnings + 1 := fun h e => by rw [h] at f3; simp [e] at f3
      simp only [m0]
      by_cases d1 : 0 < c.slam <;> by_cases d2 : B1 > B2 <;> by_cases d3 : A1 > A2 <;> rcases (show (q > 0 ∧ ¬ q = 0) ∨ (¬ q > 0) by omega) with d4 | d4 <;> by_cases d5 : s.warned = c.warnings <;> cases d6 : s.closed <;> cases d7 : s.tilted <;> cases d8 : s.slammed <;> simp [d1, d2, d3, d4, d5] <;> simp [d7] at ht <;> omega
  exact h
end Go.Proofs.Ti
