import Derived.Test.YtjbhnbbegkdplaaTiD
namespace Go.Proofs.Ti
set_option linter.unusedVariables false
set_option linter.unusedSimpArgs false
open Go Go.Sx Go.Proofs
set_option maxRecDepth 100000
def stateL (c : Tilt) (s : TS) (l : List V2) : TS := l.foldl (stepS c) s
def repsL (c : Tilt) : TS → List V2 → List Int
  | _, [] => []
  | s, n :: r => repS c s n :: repsL c (stepS c s n) r
theorem stateL_app (c : Tilt) (s : TS) (l m : List V2) : stateL c s (l ++ m) = stateL c (stateL c s l) m := by simp [stateL]
theorem repsL_app (c : Tilt) (m : List V2) : ∀ (l : List V2) (s : TS), repsL c s (l ++ m) = repsL c s l ++ repsL c (stateL c s l) m
  | [], s => rfl
  | n :: r, s => by simp [repsL, repsL_app c m r, stateL]
theorem repsL_length (c : Tilt) : ∀ (l : List V2) (s : TS), (repsL c s l).length = l.length
  | [], s => rfl
  | n :: r, s => by simp [repsL, repsL_length c r]
theorem inV_clamp (x y : Int) : inV ⟨clamp x, clamp y⟩ = true := by
  simp only [inV, withinS, clamp, Bool.and_eq_true, decide_eq_true_eq]; omega
theorem inV_clamp' {v : V2} (hx : ∃ x, v.x = clamp x) (hy : ∃ y, v.y = clamp y) : inV v = true := by
  obtain ⟨a, b⟩ := v
  obtain ⟨x, rfl⟩ := hx
  obtain ⟨y, rfl⟩ := hy
  exact inV_clamp x y
theorem isS_iff {c : Tilt} {s : TS} : isS c s = true ↔ validS c = true ∧ inV ⟨s.px, s.py⟩ = true ∧ inV ⟨s.vx, s.vy⟩ = true ∧ 0 ≤ s.quiet ∧ s.quiet ≤ c.settle ∧ 0 ≤ s.warned ∧ s.warned ≤ W (c.warnings + 1) ∧ s.tilted = decide (s.warned = W (c.warnings + 1)) := by
  simp only [isS, withinS, Bool.and_eq_true, decide_eq_true_eq, beq_iff_eq]
  constructor
  · rintro ⟨a, b, d, ⟨e, f⟩, ⟨g, h⟩, i⟩; exact ⟨a, b, d, e, f, g, h, i⟩
  · rintro ⟨a, b, d, e, f, g, h, i⟩; exact ⟨a, b, d, ⟨e, f⟩, ⟨g, h⟩, i⟩
/-- A state's step is a state. -/
theorem isS_step {c : Tilt} {s : TS} (n : V2) (h : isS c s = true) : isS c (stepS c s n) = true := by
  obtain ⟨e1, e2, f1, f2, f3, f4, f5⟩ := isS_facts h
  rw [isS_iff] at h ⊢
  obtain ⟨hv, h1, h2, q1, q2, w1, w2, ht⟩ := h
  have hp : inV ⟨pxS c s n, pyS c s n⟩ = true := by simp only [pxS, pyS, posS]; exact inV_clamp _ _
  have hq : inV ⟨vxS c s n, vyS c s n⟩ = true := by simp only [vxS, vyS, velS]; exact inV_clamp _ _
  have hs : 0 ≤ c.settle ∧ c.settle ≤ 1000 := by simp only [validS, decide_eq_true_eq] at hv; omega
  have hqu : 0 ≤ quietS s ∧ quietS s ≤ c.settle := by
    simp only [quietS]
    rw [W_id (by omega) (by omega)]; omega
  rw [e1] at ht w2 ⊢
  have hw : 0 < c.warnings + 1 := by omega
  simp only [stepS, e1, e2]
  split
  · exact ⟨hv, hp, hq, hqu.1, hqu.2, w1, w2, ht⟩
  · split
    · rename_i hw
      have : s.tilted = false := by
        simp only [warnS, Bool.and_eq_true, Bool.not_eq_true'] at hw; exact hw.2.2.2.1
      rw [this] at ht
      have hne : s.warned ≠ c.warnings + 1 := by simpa using ht.symm
      refine ⟨hv, hp, hq, hs.1, Int.le_refl _, by simp only []; omega, by simp only []; omega, ?_⟩
      simp only []
      split
      · simp [*]
      · rename_i h3; simp [this, h3]
    · exact ⟨hv, hp, hq, hqu.1, hqu.2, w1, w2, ht⟩
theorem isS_stateL {c : Tilt} : ∀ (l : List V2) {s : TS}, isS c s = true → isS c (stateL c s l) = true
  | [], _, h => h
  | n :: r, s, h => by
    have := isS_stateL r (isS_step n h)
    simpa [stateL] using this
end Go.Proofs.Ti
