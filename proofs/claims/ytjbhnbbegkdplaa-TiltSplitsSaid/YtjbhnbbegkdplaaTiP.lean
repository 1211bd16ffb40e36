/-
  The plain laws of chapter 28: what the steps do, in plain terms.
-/
import Derived.Test.YtjbhnbbegkdplaaTiH
namespace Go.Proofs.Ti
set_option linter.unusedVariables false
set_option linter.unusedSimpArgs false
open Go Go.Sx Go.Proofs
set_option maxRecDepth 100000
theorem mul_bd {a p A B : Int} (h0 : 0 ≤ a) (h1 : a ≤ A) (h2 : -B ≤ p) (h3 : p ≤ B) (hB : 0 ≤ B) : -(A * B) ≤ a * p ∧ a * p ≤ A * B := by
  have e1 : a * p ≤ a * B := Int.mul_le_mul_of_nonneg_left h3 h0
  have e2 : a * B ≤ A * B := Int.mul_le_mul_of_nonneg_right h1 hB
  have e3 : a * (-B) ≤ a * p := Int.mul_le_mul_of_nonneg_left h2 h0
  rw [Int.mul_neg] at e3
  omega
theorem clamp_neg (x : Int) : clamp (-x) = -clamp x := by simp only [clamp]; omega
theorem clamp_bd (x : Int) : -16384 ≤ clamp x ∧ clamp x ≤ 16384 := by simp only [clamp]; omega
theorem clamp_id {x : Int} (h : -16384 ≤ x) (k : x ≤ 16384) : clamp x = x := by simp only [clamp]; omega
theorem clamp_clamp (x : Int) : clamp (clamp x) = clamp x := clamp_id (clamp_bd x).1 (clamp_bd x).2
theorem valid_facts {c : Tilt} (h : validS c = true) : 0 ≤ c.spring ∧ c.spring ≤ 256 ∧ 0 ≤ c.damp ∧ c.damp ≤ 256 ∧ 0 ≤ c.ring ∧ c.ring ≤ 16384 ∧ 0 ≤ c.slam ∧ c.slam ≤ 16384 ∧ 0 ≤ c.settle ∧ c.settle ≤ 1000 ∧ 0 ≤ c.warnings ∧ c.warnings ≤ 9 := by
  simpa only [validS, decide_eq_true_eq] using h
theorem in_facts {x y : Int} (h : inV ⟨x, y⟩ = true) : -16384 ≤ x ∧ x ≤ 16384 ∧ -16384 ≤ y ∧ y ≤ 16384 := by
  simp only [inV, withinS, Bool.and_eq_true, decide_eq_true_eq] at h; omega
theorem isS_zero {c : Tilt} (h : validS c = true) : isS c zeroS = true := by
  have f := valid_facts h
  rw [isS_iff]
  refine ⟨h, by decide +kernel, by decide +kernel, Int.le_refl _, f.2.2.2.2.2.2.2.2.1, Int.le_refl _, ?_, ?_⟩
  · rw [W_id (by omega) (by omega)]; simp only [zeroS]; omega
  · rw [W_id (by omega) (by omega)]; exact (decide_eq_false (by simp only [zeroS]; omega)).symm
theorem velS_eq {c : Tilt} (h : validS c = true) {p v n : Int} (hp : -16384 ≤ p ∧ p ≤ 16384) (hv : -16384 ≤ v ∧ v ≤ 16384) (hn : -16384 ≤ n ∧ n ≤ 16384) : velS c p v n = clamp (v + n - (c.spring * p + c.damp * v).tdiv 256) := by
  have f := valid_facts h
  have e1 := mul_bd f.1 f.2.1 hp.1 hp.2 (by omega)
  have e2 := mul_bd f.2.2.1 f.2.2.2.1 hv.1 hv.2 (by omega)
  have e3 := Int.natAbs_tdiv_le_natAbs (c.spring * p + c.damp * v) 256
  simp only [velS]
  rw [W_id (n := c.spring * p) (by omega) (by omega), W_id (n := c.damp * v) (by omega) (by omega), W_id (n := c.spring * p + c.damp * v) (by omega) (by omega), W_id (n := v + n) (by omega) (by omega), W_id (n := (c.spring * p + c.damp * v).tdiv 256) (by omega) (by omega), W_id (by omega) (by omega)]
theorem velS_neg {c : Tilt} (h : validS c = true) {p v n : Int} (hp : -16384 ≤ p ∧ p ≤ 16384) (hv : -16384 ≤ v ∧ v ≤ 16384) (hn : -16384 ≤ n ∧ n ≤ 16384) : velS c (-p) (-v) (-n) = -velS c p v n := by
  rw [velS_eq h hp hv hn, velS_eq h (by omega) (by omega) (by omega), ← clamp_neg, Int.mul_neg, Int.mul_neg, show -(c.spring * p) + -(c.damp * v) = -(c.spring * p + c.damp * v) by omega, Int.neg_tdiv]
  congr 1; omega
theorem velS_bd (c : Tilt) (p v n : Int) : -16384 ≤ velS c p v n ∧ velS c p v n ≤ 16384 := by simp only [velS]; exact clamp_bd _
theorem posS_eq {p v : Int} (hp : -16384 ≤ p ∧ p ≤ 16384) (hv : -16384 ≤ v ∧ v ≤ 16384) : posS p v = clamp (p + v) := by
  simp only [posS]; rw [W_id (by omega) (by omega)]
theorem posS_bd (p v : Int) : -16384 ≤ posS p v ∧ posS p v ≤ 16384 := by simp only [posS]; exact clamp_bd _
theorem posS_neg {p v : Int} (hp : -16384 ≤ p ∧ p ≤ 16384) (hv : -16384 ≤ v ∧ v ≤ 16384) : posS (-p) (-v) = -posS p v := by
  rw [posS_eq hp hv, posS_eq (by omega) (by omega), ← clamp_neg]; congr 1; omega
theorem beyond_neg (x y f : Int) : beyondS ⟨-x, -y⟩ f = beyondS ⟨x, y⟩ f := by simp only [beyondS, Int.neg_mul_neg]
theorem beyond_swap (x y f : Int) : beyondS ⟨y, x⟩ f = beyondS ⟨x, y⟩ f := by simp only [beyondS]; rw [Int.add_comm]
def negV (v : V2) : V2 := ⟨-clamp v.x, -clamp v.y⟩
def swpV (v : V2) : V2 := ⟨clamp v.y, clamp v.x⟩
def negT (t : TS) : TS := ⟨-t.px, -t.py, -t.vx, -t.vy, t.closed, t.quiet, t.warned, t.tilted, t.slammed⟩
def swpT (t : TS) : TS := ⟨t.py, t.px, t.vy, t.vx, t.closed, t.quiet, t.warned, t.tilted, t.slammed⟩
section
variable {c : Tilt} {s : TS} {n : V2}
theorem step_neg (h : isS c s = true) : stepS c (negT s) (negV n) = negT (stepS c s n) ∧ repS c (negT s) (negV n) = repS c s n := by
  have h' := h
  rw [isS_iff] at h'
  obtain ⟨hv, h1, h2, _⟩ := h'
  have b1 := in_facts h1
  have b2 := in_facts h2
  have e1 : vxS c (negT s) (negV n) = -vxS c s n := by
    simp only [vxS, negT, negV]
    rw [clamp_neg, clamp_clamp]
    exact velS_neg hv ⟨b1.1, b1.2.1⟩ ⟨b2.1, b2.2.1⟩ (clamp_bd _)
  have e2 : vyS c (negT s) (negV n) = -vyS c s n := by
    simp only [vyS, negT, negV]
    rw [clamp_neg, clamp_clamp]
    exact velS_neg hv ⟨b1.2.2.1, b1.2.2.2⟩ ⟨b2.2.2.1, b2.2.2.2⟩ (clamp_bd _)
  have e3 : pxS c (negT s) (negV n) = -pxS c s n := by
    simp only [pxS]; rw [e1]; exact posS_neg ⟨b1.1, b1.2.1⟩ (velS_bd _ _ _ _)
  have e4 : pyS c (negT s) (negV n) = -pyS c s n := by
    simp only [pyS]; rw [e2]; exact posS_neg ⟨b1.2.2.1, b1.2.2.2⟩ (velS_bd _ _ _ _)
  have e5 : closedS c (negT s) (negV n) = closedS c s n := by simp only [closedS]; rw [e3, e4, beyond_neg]
  have e6 : slamS c (negV n) = slamS c n := by
    simp only [slamS, negV]; rw [clamp_neg, clamp_neg, clamp_clamp, clamp_clamp, beyond_neg]
  have e7 : warnS c (negT s) (negV n) = warnS c s n := by simp only [warnS]; rw [e5]; rfl
  have e8 : quietS (negT s) = quietS s := rfl
  constructor
  · simp only [stepS, e1, e2, e3, e4, e5, e6, e7, e8]
    split
    · rfl
    · split <;> rfl
  · simp only [repS, e6, e7]; rfl
theorem step_swp : stepS c (swpT s) (swpV n) = swpT (stepS c s n) ∧ repS c (swpT s) (swpV n) = repS c s n := by
  have e1 : vxS c (swpT s) (swpV n) = vyS c s n := by simp only [vxS, vyS, swpT, swpV]; rw [clamp_clamp]
  have e2 : vyS c (swpT s) (swpV n) = vxS c s n := by simp only [vxS, vyS, swpT, swpV]; rw [clamp_clamp]
  have e3 : pxS c (swpT s) (swpV n) = pyS c s n := by simp only [pxS, pyS]; rw [e1]; rfl
  have e4 : pyS c (swpT s) (swpV n) = pxS c s n := by simp only [pxS, pyS]; rw [e2]; rfl
  have e5 : closedS c (swpT s) (swpV n) = closedS c s n := by simp only [closedS]; rw [e3, e4, beyond_swap]
  have e6 : slamS c (swpV n) = slamS c n := by
    simp only [slamS, swpV]; rw [clamp_clamp, clamp_clamp, beyond_swap]
  have e7 : warnS c (swpT s) (swpV n) = warnS c s n := by simp only [warnS]; rw [e5]; rfl
  have e8 : quietS (swpT s) = quietS s := rfl
  constructor
  · simp only [stepS, e1, e2, e3, e4, e5, e6, e7, e8]
    split
    · rfl
    · split <;> rfl
  · simp only [repS, e6, e7]; rfl
end
theorem run_neg {c : Tilt} : ∀ (l : List V2) {s : TS}, isS c s = true → stateL c (negT s) (l.map negV) = negT (stateL c s l) ∧ repsL c (negT s) (l.map negV) = repsL c s l
  | [], _, _ => ⟨rfl, rfl⟩
  | n :: r, s, h => by
    obtain ⟨e1, e2⟩ := step_neg (n := n) h
    obtain ⟨f1, f2⟩ := run_neg r (isS_step n h)
    constructor
    · simpa [stateL, e1] using f1
    · simp [repsL, e1, e2, f2]
theorem run_swp {c : Tilt} : ∀ (l : List V2) (s : TS), stateL c (swpT s) (l.map swpV) = swpT (stateL c s l) ∧ repsL c (swpT s) (l.map swpV) = repsL c s l
  | [], _ => ⟨rfl, rfl⟩
  | n :: r, s => by
    obtain ⟨e1, e2⟩ := step_swp (c := c) (s := s) (n := n)
    obtain ⟨f1, f2⟩ := run_swp (c := c) r (stepS c s n)
    constructor
    · simpa [stateL, e1] using f1
    · simp [repsL, e1, e2, f2]
theorem W_sq {x : Int} (h : -16384 ≤ x ∧ x ≤ 16384) : W (x * x) = x * x ∧ 0 ≤ x * x ∧ x * x ≤ 268435456 := by
  have h2 : 0 ≤ x * x ∧ x * x ≤ 268435456 := by
    rcases Int.le_total 0 x with h0 | h0
    · have := mul_bd h0 h.2 h.1 h.2 (by omega)
      exact ⟨Int.mul_nonneg h0 h0, by omega⟩
    · have h0' : 0 ≤ -x := by omega
      have := mul_bd h0' (A := 16384) (p := -x) (B := 16384) (by omega) (by omega) (by omega) (by omega)
      rw [Int.neg_mul_neg] at this
      have h3 := Int.mul_nonneg h0' h0'
      rw [Int.neg_mul_neg] at h3
      exact ⟨h3, by omega⟩
  exact ⟨W_id (by omega) (by omega), h2⟩
theorem beyond_zero {f : Int} (h : 0 ≤ f ∧ f ≤ 16384) : beyondS ⟨0, 0⟩ f = false := by
  simp only [beyondS]
  have := W_sq (x := f) (by omega)
  rw [this.1]
  simp
  have e : W (W 0 + W 0) = 0 := by decide +kernel
  rw [e]; omega
/-- A bob at rest. -/
theorem step_rest {c : Tilt} (h : validS c = true) : stepS c zeroS ⟨0, 0⟩ = zeroS ∧ repS c zeroS ⟨0, 0⟩ = 0 := by
  have f := valid_facts h
  have c0 : clamp 0 = 0 := by decide +kernel
  have ev : velS c 0 0 0 = 0 := by
    rw [velS_eq h (by omega) (by omega) (by omega)]; simp [c0]
  have ep : posS 0 0 = 0 := by decide +kernel
  have e1 : vxS c zeroS ⟨0, 0⟩ = 0 := by simp only [vxS, zeroS, c0]; exact ev
  have e2 : vyS c zeroS ⟨0, 0⟩ = 0 := by simp only [vyS, zeroS, c0]; exact ev
  have e3 : pxS c zeroS ⟨0, 0⟩ = 0 := by simp only [pxS, e1]; exact ep
  have e4 : pyS c zeroS ⟨0, 0⟩ = 0 := by simp only [pyS, e2]; exact ep
  have e5 : closedS c zeroS ⟨0, 0⟩ = false := by simp only [closedS, e3, e4]; exact beyond_zero ⟨by omega, by omega⟩
  have e6 : slamS c ⟨0, 0⟩ = false := by simp only [slamS, c0]; rw [beyond_zero ⟨by omega, by omega⟩]; simp
  have e7 : warnS c zeroS ⟨0, 0⟩ = false := by simp only [warnS, e5]; rfl
  have e8 : quietS zeroS = 0 := by decide +kernel
  constructor
  · simp only [stepS, e1, e2, e3, e4, e5, e6, e7, e8]; rfl
  · simp only [repS, e6, e7]; rfl
theorem run_rest {c : Tilt} (h : validS c = true) : ∀ n : Nat, stateL c zeroS (List.replicate n ⟨0, 0⟩) = zeroS ∧ repsL c zeroS (List.replicate n ⟨0, 0⟩) = List.replicate n 0
  | 0 => ⟨rfl, rfl⟩
  | n + 1 => by
    obtain ⟨e1, e2⟩ := step_rest h
    obtain ⟨f1, f2⟩ := run_rest h n
    constructor
    · simpa [List.replicate_succ, stateL, e1] using f1
    · simp [List.replicate_succ, repsL, e1, e2, f2]
/-- The movement alone. -/
def sameMove (s t : TS) : Prop := s.px = t.px ∧ s.py = t.py ∧ s.vx = t.vx ∧ s.vy = t.vy
theorem step_parts (c : Tilt) (s : TS) (n : V2) : (stepS c s n).px = pxS c s n ∧ (stepS c s n).py = pyS c s n ∧ (stepS c s n).vx = vxS c s n ∧ (stepS c s n).vy = vyS c s n ∧ (stepS c s n).closed = closedS c s n := by
  simp only [stepS]; split
  · exact ⟨rfl, rfl, rfl, rfl, rfl⟩
  · split <;> exact ⟨rfl, rfl, rfl, rfl, rfl⟩
theorem step_move {c d : Tilt} {s t : TS} (n : V2) (h1 : c.spring = d.spring) (h2 : c.damp = d.damp) (h : sameMove s t) : sameMove (stepS c s n) (stepS d t n) := by
  obtain ⟨a1, a2, a3, a4⟩ := h
  have hv : ∀ p v n, velS c p v n = velS d p v n := by intro p v n; simp only [velS, h1, h2]
  have e1 : vxS c s n = vxS d t n := by simp only [vxS, a1, a3, hv]
  have e2 : vyS c s n = vyS d t n := by simp only [vyS, a2, a4, hv]
  obtain ⟨p1, p2, p3, p4, _⟩ := step_parts c s n
  obtain ⟨q1, q2, q3, q4, _⟩ := step_parts d t n
  refine ⟨?_, ?_, by rw [p3, q3, e1], by rw [p4, q4, e2]⟩
  · rw [p1, q1]; simp only [pxS, e1, a1]
  · rw [p2, q2]; simp only [pyS, e2, a2]
theorem run_move {c d : Tilt} (h1 : c.spring = d.spring) (h2 : c.damp = d.damp) : ∀ (l : List V2) {s t : TS}, sameMove s t → sameMove (stateL c s l) (stateL d t l)
  | [], _, _, h => h
  | n :: r, s, t, h => run_move h1 h2 r (step_move n h1 h2 h)
/-- And whether the ring is touched. -/
theorem run_closed {c : Tilt} : ∀ (l : List V2) {s t : TS}, sameMove s t → s.closed = t.closed → (stateL c s l).closed = (stateL c t l).closed
  | [], _, _, _, h => h
  | n :: r, s, t, h, _ => by
    have hm := step_move (c := c) (d := c) n rfl rfl h
    refine run_closed r hm ?_
    obtain ⟨p1, p2, p3, p4, p5⟩ := step_parts c s n
    obtain ⟨q1, q2, q3, q4, q5⟩ := step_parts c t n
    obtain ⟨m1, m2, m3, m4⟩ := hm
    rw [p5, q5]; simp only [closedS]
    rw [← p1, ← p2, ← q1, ← q2, m1, m2]
/-- Behind a slam. -/
theorem step_slammed {c : Tilt} {s : TS} (n : V2) (h : s.slammed = true) : (stepS c s n).slammed = true ∧ (stepS c s n).warned = s.warned ∧ repS c s n ≠ 1 ∧ repS c s n ≠ 2 := by
  have hw : warnS c s n = false := by simp only [warnS, h]; simp
  simp only [stepS, repS, hw]
  cases slamS c n <;> simp [h]
theorem run_slammed {c : Tilt} : ∀ (l : List V2) {s : TS}, s.slammed = true → (stateL c s l).slammed = true ∧ (stateL c s l).warned = s.warned ∧ ∀ x ∈ repsL c s l, x ≠ 1 ∧ x ≠ 2
  | [], _, h => ⟨h, rfl, by simp [repsL]⟩
  | n :: r, s, h => by
    obtain ⟨a1, a2, a3, a4⟩ := step_slammed (c := c) n h
    obtain ⟨b1, b2, b3⟩ := run_slammed (c := c) r a1
    refine ⟨b1, b2.trans a2, fun x hx => ?_⟩
    simp only [repsL, List.mem_cons] at hx
    rcases hx with rfl | hx
    · exact ⟨a3, a4⟩
    · exact b3 x hx
theorem step_slams (c : Tilt) (s : TS) (n : V2) : (repS c s n = 3 ↔ slamS c n = true) ∧ (slamS c n = true → (stepS c s n).slammed = true ∧ (stepS c s n).warned = s.warned) := by
  constructor
  · simp only [repS]
    cases slamS c n <;> simp
    split
    · split <;> simp
    · simp
  · intro h
    simp [stepS, h]
theorem run_ok {c : Tilt} {s : TS} {l : List V2} (h : isS c s = true) (hl : l.length ≤ 4096) : runS c s l = stateL c s l ∧ runR c s l = repsL c s l ∧ runX c s l = 0 := by
  simp [runS, runR, runX, h, show ¬ 4096 < l.length by omega]
theorem good_facts {c : Tilt} {l : List V2} (h : goodS c l = true) : validS c = true ∧ l.length ≤ 500 ∧ runS c zeroS l = stateL c zeroS l ∧ runR c zeroS l = repsL c zeroS l ∧ runX c zeroS l = 0 := by
  simp only [goodS, Bool.and_eq_true, decide_eq_true_eq] at h
  obtain ⟨a, b, d⟩ := run_ok (l := l) (isS_zero h.1) (by omega)
  exact ⟨h.1, h.2, a, b, d⟩
end Go.Proofs.Ti
