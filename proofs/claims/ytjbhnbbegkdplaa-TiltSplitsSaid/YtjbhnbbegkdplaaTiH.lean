import Derived.Test.YtjbhnbbegkdplaaTiG
import Derived.Test.YtjbhnbbegkdplaaEngY
namespace Go.Proofs.Ti
open Go Go.Sx Go.Proofs
set_option linter.unusedVariables false
set_option linter.unusedSimpArgs false
set_option maxRecDepth 100000
def codVW (a : V2) : Prop := (Lit.int .i64 a.x).wf = true ∧ (Lit.int .i64 a.y).wf = true
theorem codV_acc : codV.Acc [.int .i64, .int .i64] codVW := by
  intro svs h
  simp only [HasKL, HasK] at h
  obtain ⟨x0, r0, rfl, ⟨a0, rfl, h0⟩, x1, r1, rfl, ⟨a1, rfl, h1⟩, rfl⟩ := h
  exact ⟨⟨a0, a1⟩, rfl, trivial, h0, h1⟩
def codCW (a : Tilt) : Prop := (Lit.int .i64 a.spring).wf = true ∧ (Lit.int .i64 a.damp).wf = true ∧ (Lit.int .i64 a.ring).wf = true ∧ (Lit.int .i64 a.settle).wf = true ∧ (Lit.int .i64 a.warnings).wf = true ∧ (Lit.int .i64 a.slam).wf = true
theorem codC_acc : codC.Acc [.int .i64, .int .i64, .int .i64, .int .i64, .int .i64, .int .i64] codCW := by
  intro svs h
  simp only [HasKL, HasK] at h
  obtain ⟨x0, r0, rfl, ⟨a0, rfl, h0⟩, x1, r1, rfl, ⟨a1, rfl, h1⟩, x2, r2, rfl, ⟨a2, rfl, h2⟩, x3, r3, rfl, ⟨a3, rfl, h3⟩, x4, r4, rfl, ⟨a4, rfl, h4⟩, x5, r5, rfl, ⟨a5, rfl, h5⟩, rfl⟩ := h
  exact ⟨⟨a0, a1, a2, a3, a4, a5⟩, rfl, trivial, h0, h1, h2, h3, h4, h5⟩
def codTW (a : TS) : Prop := (Lit.int .i64 a.px).wf = true ∧ (Lit.int .i64 a.py).wf = true ∧ (Lit.int .i64 a.vx).wf = true ∧ (Lit.int .i64 a.vy).wf = true ∧ (Lit.int .i64 a.quiet).wf = true ∧ (Lit.int .i64 a.warned).wf = true
theorem codT_acc : codT.Acc [.int .i64, .int .i64, .int .i64, .int .i64, .bool, .int .i64, .int .i64, .bool, .bool] codTW := by
  intro svs h
  simp only [HasKL, HasK] at h
  obtain ⟨x0, r0, rfl, ⟨a0, rfl, h0⟩, x1, r1, rfl, ⟨a1, rfl, h1⟩, x2, r2, rfl, ⟨a2, rfl, h2⟩, x3, r3, rfl, ⟨a3, rfl, h3⟩, x4, r4, rfl, ⟨a4, rfl⟩, x5, r5, rfl, ⟨a5, rfl, h5⟩, x6, r6, rfl, ⟨a6, rfl, h6⟩, x7, r7, rfl, ⟨a7, rfl⟩, x8, r8, rfl, ⟨a8, rfl⟩, rfl⟩ := h
  exact ⟨⟨a0, a1, a2, a3, a4, a5, a6, a7, a8⟩, rfl, trivial, h0, h1, h2, h3, h5, h6⟩
end Go.Proofs.Ti
