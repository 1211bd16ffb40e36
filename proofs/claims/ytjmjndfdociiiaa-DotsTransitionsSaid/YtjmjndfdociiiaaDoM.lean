import Derived.Test.YtjmjndfdociiiaaDoI
namespace Go.Proofs.Do
set_option linter.unusedVariables false
set_option linter.unusedSimpArgs false
open Go Go.Sx Go.Proofs
/-! Transitions between two filled frames: which dots are new, and how many. -/
def newS (k : Int) (y x : Nat) (i n : Int) : Bool := if k = 5 then decide (64 ≤ (x : Int) + 64 * i / n) else fromS k x y i n
abbrev fr7 (k i n : Int) : Fr := bldS k (fillS 1) (fillS 2) i n
theorem lvS_1 : lvS 1 = 1 := by simp only [lvS]; rfl
theorem lvS_2 : lvS 2 = 2 := by simp only [lvS]; rfl
theorem clp_id {i n : Int} (h0 : 0 ≤ i) (h1 : i ≤ n) : clp i 0 n = i := by simp only [clp]; omega
theorem bld_ok0 {k n : Int} (k0 : 0 ≤ k) (k1 : k ≤ 5) (n0 : 1 ≤ n) (n1 : n ≤ 10000) : bldE k n = 0 := bldE_0 (by omega) (by omega)
theorem lv_bld {k i n : Int} {y x : Nat} (k0 : 0 ≤ k) (k1 : k ≤ 5) (n0 : 1 ≤ n) (n1 : n ≤ 10000) (i0 : 0 ≤ i) (i1 : i ≤ n) (hy : y < 16) (hx : x < 64) : lv (fr7 k i n) y x = if newS k y x i n then 2 else 1 := by
  have d := div_bd (m := 64) (by omega) i0 i1 n0
  simp only [fr7, bldS, if_pos (bld_ok0 k0 k1 n0 n1), clp_id i0 i1]
  rw [lv_mkL hy hx (bld_lev k _ _ i n y x)]
  simp only [blendL]
  by_cases hk : k = 5
  · have hn : newS k y x i n = decide (64 ≤ (x : Int) + 64 * i / n) := by simp only [newS, if_pos hk]
    rw [if_pos hk, hn]
    by_cases h : (x : Int) + 64 * i / n < 64
    · rw [if_pos h, getS_in (by omega) (by omega) (by omega) (by omega), lv_fill (by omega) (by omega), lvS_1, decide_eq_false (by omega)]; rfl
    · rw [if_neg h, getS_in (by omega) (by omega) (by omega) (by omega), lv_fill (by omega) (by omega), lvS_2, decide_eq_true (by omega)]; rfl
  · have hn : newS k y x i n = fromS k x y i n := by simp only [newS, if_neg hk]
    rw [if_neg hk, hn, lv_fill hy hx, lv_fill hy hx, lvS_1, lvS_2]
theorem cN_succ (p : Nat → Bool) (n : Nat) : cN p (n + 1) = cN p n + if p n = true then 1 else 0 := rfl
theorem cN_zero (p : Nat → Bool) : cN p 0 = 0 := rfl
theorem cN_false : ∀ n : Nat, cN (fun _ => false) n = 0
  | 0 => rfl
  | n + 1 => by simp only [cN, cN_false n]; rfl
theorem cN_true : ∀ n : Nat, cN (fun _ => true) n = n
  | 0 => rfl
  | n + 1 => by simp only [cN, cN_true n]; simp
theorem cN_not (p : Nat → Bool) : ∀ n : Nat, cN (fun j => !p j) n = n - cN p n
  | 0 => rfl
  | n + 1 => by
    have := cN_not p n
    rw [cN_succ, cN_succ, this]
    cases p n <;> simp <;> omega
/-- Numbers of an interval. -/
theorem cN_iv (a b : Int) (h : a ≤ b) : ∀ n : Nat, cN (fun j => decide (a ≤ (j : Int) ∧ (j : Int) < b)) n = max 0 (min b n - max a 0)
  | 0 => by simp only [cN]; omega
  | n + 1 => by
    have := cN_iv a b h n
    simp only [cN, this, decide_eq_true_eq]
    split <;> omega
theorem cN_add (p : Nat → Bool) (a : Nat) : ∀ b : Nat, cN p (a + b) = cN p a + cN (fun j => p (a + j)) b
  | 0 => by simp only [cN, Nat.add_zero]; omega
  | b + 1 => by
    have := cN_add p a b
    rw [← Nat.add_assoc]
    simp only [cN, this]; omega
theorem cN_one (m : Nat) : ∀ n : Nat, cN (fun j => decide (j = m)) n = if m < n then 1 else 0
  | 0 => by simp [cN]
  | n + 1 => by
    have := cN_one m n
    simp only [cN, this, decide_eq_true_eq]
    split <;> split <;> split <;> omega
theorem cN_or {p q : Nat → Bool} (h : ∀ j, ¬ (p j = true ∧ q j = true)) : ∀ n : Nat, cN (fun j => p j || q j) n = cN p n + cN q n
  | 0 => rfl
  | n + 1 => by
    have := cN_or h n
    have hn := h n
    rw [cN_succ, cN_succ, cN_succ, this]
    revert hn
    cases p n <;> cases q n <;> simp <;> omega
/-- The pattern that dissolves has each number once. -/
theorem cN_dis : ∀ t : Nat, t ≤ 1024 → cN (fun p => decide (389 * (p : Int) % 1024 < (t : Nat))) (64 * 16) = t
  | 0, _ => by
    rw [show (fun p : Nat => decide (389 * (p : Int) % 1024 < ((0 : Nat) : Int))) = fun _ => false from funext fun p => decide_eq_false (by omega)]
    rw [cN_false]; rfl
  | t + 1, ht => by
    have := cN_dis t (by omega)
    have e : ∀ j : Nat, j < 64 * 16 → decide (389 * (j : Int) % 1024 < ((t + 1 : Nat) : Int)) = (decide (389 * (j : Int) % 1024 < t) || decide (j = (t * 845) % 1024)) := fun j hj => by
      rw [← Bool.decide_or]
      exact decide_eq_decide.2 (by omega)
    rw [cN_congr e, cN_or, this, cN_one, if_pos (Nat.mod_lt _ (by omega))]
    · omega
    · intro j h
      simp only [decide_eq_true_eq] at h
      omega
theorem cA_rows (f : Fr) (k : Int) (r : Int) : ∀ m : Nat, (∀ y, y < m → cR f k y 64 = r) → cA f k m = m * r
  | 0, _ => by simp only [cA]; omega
  | m + 1, h => by
    rw [cA_next, cA_rows f k r m fun y hy => h y (by omega), h m (by omega), Int.natCast_add, Int.add_mul]; omega
theorem cA_flat {f : Fr} {k : Int} {p : Nat → Bool} : ∀ m : Nat, (∀ y, y < m → cR f k y 64 = cN (fun x => p (64 * y + x)) 64) → cA f k m = cN p (64 * m)
  | 0, _ => by simp only [cA]; rfl
  | m + 1, h => by
    rw [cA_next, cA_flat m fun y hy => h y (by omega), h m (by omega), Nat.mul_add, Nat.mul_one, cN_add]
def disP (t : Nat) (p : Nat) : Bool := decide (389 * (p : Int) % 1024 < (t : Nat))
theorem dis_total {f : Fr} {t : Nat} (ht : t ≤ 1024) (r : ∀ y, y < 16 → cR f 2 y 64 = cN (fun x => disP t (64 * y + x)) 64) : cA f 2 16 = t := by
  have q := cA_flat (p := disP t) 16 r
  have q2 : cN (disP t) (64 * 16) = t := cN_dis t ht
  rw [q, q2]
def wantS (k i n : Int) : Int := if k = 0 then (if i = n then 1024 else 0) else if k = 1 ∨ k = 5 then 16 * (64 * i / n) else if k = 2 then 64 * (16 * i / n) else if k = 3 then 32 * (32 * i / n) else 1024 * i / n
section
variable {k i n : Int} (k0 : 0 ≤ k) (k1 : k ≤ 5) (n0 : 1 ≤ n) (n1 : n ≤ 10000) (i0 : 0 ≤ i) (i1 : i ≤ n)
include k0 k1 n0 n1 i0 i1
theorem cR_new {y : Nat} (hy : y < 16) : cR (fr7 k i n) 0 y 64 = 0 ∧ cR (fr7 k i n) 1 y 64 = 64 - cR (fr7 k i n) 2 y 64 ∧ cR (fr7 k i n) 2 y 64 = cN (fun x => newS k y x i n) 64 ∧ cR (fr7 k i n) 3 y 64 = 0 := by
  have e2 : cR (fr7 k i n) 2 y 64 = cN (fun x => newS k y x i n) 64 := by
    rw [cR_def]; refine cN_congr fun j hj => ?_
    rw [lv_bld k0 k1 n0 n1 i0 i1 hy hj]
    cases newS k y j i n <;> rfl
  have e1 : cR (fr7 k i n) 1 y 64 = 64 - cR (fr7 k i n) 2 y 64 := by
    have := cN_not (fun x => newS k y x i n) 64
    rw [e2, cR_def]
    refine Eq.trans (cN_congr fun j hj => ?_) this
    rw [lv_bld k0 k1 n0 n1 i0 i1 hy hj]
    cases newS k y j i n <;> rfl
  have e0 : ∀ m : Int, m ≠ 1 → m ≠ 2 → cR (fr7 k i n) m y 64 = 0 := fun m h1 h2 => by
    rw [cR_def]
    refine Eq.trans (cN_congr (q := fun _ => false) fun j hj => ?_) (cN_false 64)
    rw [lv_bld k0 k1 n0 n1 i0 i1 hy hj]
    refine decide_eq_false ?_
    cases newS k y j i n
    · exact fun c => h1 c.symm
    · exact fun c => h2 c.symm
  exact ⟨e0 0 (by omega) (by omega), e1, e2, e0 3 (by omega) (by omega)⟩
theorem cA_two : cA (fr7 k i n) 2 16 = wantS k i n := by
  have d64 := div_bd (m := 64) (by omega) i0 i1 n0
  have d16 := div_bd (m := 16) (by omega) i0 i1 n0
  have d32 := div_bd (m := 32) (by omega) i0 i1 n0
  have d1024 := div_bd (m := 1024) (by omega) i0 i1 n0
  have R := fun y (hy : y < 16) => (cR_new k0 k1 n0 n1 i0 i1 (y := y) hy).2.2.1
  rcases (show k = 0 ∨ k = 1 ∨ k = 2 ∨ k = 3 ∨ k = 4 ∨ k = 5 by omega) with rfl | rfl | rfl | rfl | rfl | rfl
  · have r : ∀ y, y < 16 → cR (fr7 0 i n) 2 y 64 = if i = n then 64 else 0 := fun y hy => by
      rw [R y hy]
      have e : (fun x => newS 0 y x i n) = fun _ => decide (i = n) := by funext x; simp [newS, fromS]
      rw [e]
      by_cases h : i = n
      · rw [if_pos h, decide_eq_true h, cN_true]; rfl
      · rw [if_neg h, decide_eq_false h, cN_false]
    rw [cA_rows _ _ _ 16 r]
    simp only [wantS]; split <;> rfl
  · have r : ∀ y, y < 16 → cR (fr7 1 i n) 2 y 64 = 64 * i / n := fun y hy => by
      rw [R y hy]
      have e : (fun x : Nat => newS 1 y x i n) = fun (x : Nat) => decide (0 ≤ (x : Int) ∧ (x : Int) < 64 * i / n) := by
        funext x; simp [newS, fromS]
      rw [e, cN_iv _ _ (by omega)]; omega
    rw [cA_rows _ _ _ 16 r]
    simp [wantS]
  · have e : ∀ y : Nat, y < 16 → cR (fr7 2 i n) 2 y 64 = if 16 - 16 * i / n ≤ (y : Int) then 64 else 0 := fun y hy => by
      rw [R y hy]
      have e : (fun x : Nat => newS 2 y x i n) = fun x => decide (16 - 16 * i / n ≤ (y : Int)) := by
        funext x; simp [newS, fromS]
      rw [e]
      by_cases h : 16 - 16 * i / n ≤ (y : Int)
      · rw [if_pos h, decide_eq_true h, cN_true]; rfl
      · rw [if_neg h, decide_eq_false h, cN_false]
    have g : ∀ m : Nat, m ≤ 16 → cA (fr7 2 i n) 2 m = 64 * cN (fun y => decide (16 - 16 * i / n ≤ (y : Int) ∧ (y : Int) < 16)) m := fun m => by
      induction m with
      | zero => intro _; simp only [cA]; rw [cN_zero]; rfl
      | succ m ih =>
        intro hm
        rw [cA_next, ih (by omega), e m (by omega)]
        rw [cN_succ]
        simp only [decide_eq_true_eq]
        split <;> split <;> omega
    rw [g 16 (by omega), cN_iv _ _ (by omega)]
    simp [wantS]; omega
  · have r : ∀ y, y < 16 → cR (fr7 3 i n) 2 y 64 = 2 * (32 * i / n) := fun y hy => by
      rw [R y hy]
      have e : (fun x : Nat => newS 3 y x i n) = fun (x : Nat) => decide (32 - 32 * i / n ≤ (x : Int) ∧ (x : Int) < 32 + 32 * i / n) := by
        funext x
        have hn : newS 3 y x i n = decide (32 - 32 * i / n ≤ (x : Int) ∧ (x : Int) ≤ 31 + 32 * i / n) := by simp only [newS, fromS]; rfl
        rw [hn]
        exact decide_eq_decide.2 (by omega)
      rw [e, cN_iv _ _ (by omega)]; omega
    rw [cA_rows _ _ _ 16 r]
    simp [wantS]; omega
  · have hb : (1024 * i / n).toNat ≤ 1024 := by omega
    have r : ∀ y, y < 16 → cR (fr7 4 i n) 2 y 64 = cN (fun x => disP (1024 * i / n).toNat (64 * y + x)) 64 := fun y hy => by
      rw [R y hy]
      refine cN_congr fun x hx => ?_
      have hn : newS 4 y x i n = decide (389 * (64 * (y : Int) + x) % 1024 < 1024 * i / n) := by simp only [newS, fromS]; rfl
      rw [hn]
      exact decide_eq_decide.2 (by rw [Int.toNat_of_nonneg d1024.1]; omega)
    rw [dis_total hb r, Int.toNat_of_nonneg d1024.1]
    simp [wantS]
  · have r : ∀ y, y < 16 → cR (fr7 5 i n) 2 y 64 = 64 * i / n := fun y hy => by
      rw [R y hy]
      have e : ∀ x : Nat, x < 64 → newS 5 y x i n = decide (64 - 64 * i / n ≤ (x : Int) ∧ (x : Int) < 64) := fun x hx => by
        simp only [newS, if_pos]
        exact decide_eq_decide.2 (by omega)
      rw [cN_congr e, cN_iv _ _ (by omega)]; omega
    rw [cA_rows _ _ _ 16 r]
    simp [wantS]
theorem cnt_new : cntS (fr7 k i n) = [0, 1024 - wantS k i n, wantS k i n, 0] := by
  have h2 := cA_two k0 k1 n0 n1 i0 i1
  have h0 : cA (fr7 k i n) 0 16 = 0 := (cA_rows _ _ 0 16 fun y hy => (cR_new k0 k1 n0 n1 i0 i1 hy).1).trans (by omega)
  have h3 : cA (fr7 k i n) 3 16 = 0 := (cA_rows _ _ 0 16 fun y hy => (cR_new k0 k1 n0 n1 i0 i1 hy).2.2.2).trans (by omega)
  have s := cA_sum (fr7 k i n) 16
  have h1 : cA (fr7 k i n) 1 16 = 1024 - wantS k i n := by omega
  simp only [cntS, h0, h1, h2, h3]
theorem want_bd : 0 ≤ wantS k i n ∧ wantS k i n ≤ 1024 := by
  have := cA_bd (fr7 k i n) 2 16
  rw [cA_two k0 k1 n0 n1 i0 i1] at this
  omega
end
/-- It begins with the old frame and ends with the new one. -/
theorem new_zero {k n : Int} (k0 : 0 ≤ k) (k1 : k ≤ 5) (n0 : 1 ≤ n) {y x : Nat} (hy : y < 16) (hx : x < 64) : newS k y x 0 n = false := by
  have z : ∀ m : Int, m * 0 / n = 0 := fun m => by rw [Int.mul_zero, Int.zero_ediv]
  rcases (show k = 0 ∨ k = 1 ∨ k = 2 ∨ k = 3 ∨ k = 4 ∨ k = 5 by omega) with rfl | rfl | rfl | rfl | rfl | rfl
  · simp [newS, fromS]; omega
  · simp [newS, fromS]
  · simp [newS, fromS]; omega
  · simp [newS, fromS]; omega
  · simp [newS, fromS]; omega
  · simp [newS]; omega
theorem new_end {k n : Int} (k0 : 0 ≤ k) (k1 : k ≤ 5) (n0 : 1 ≤ n) {y x : Nat} (hy : y < 16) (hx : x < 64) : newS k y x n n = true := by
  have z : ∀ m : Int, m * n / n = m := fun m => Int.mul_ediv_cancel m (by omega)
  rcases (show k = 0 ∨ k = 1 ∨ k = 2 ∨ k = 3 ∨ k = 4 ∨ k = 5 by omega) with rfl | rfl | rfl | rfl | rfl | rfl
  · simp [newS, fromS]
  · simp [newS, fromS, z]; omega
  · simp [newS, fromS, z]
  · simp [newS, fromS, z]; omega
  · simp [newS, fromS, z]; omega
  · simp [newS, z]; omega
theorem div_mono {m i n : Int} (hm : 0 ≤ m) (n0 : 1 ≤ n) : m * i / n ≤ m * (i + 1) / n := Int.ediv_le_ediv (by omega) (Int.mul_le_mul_of_nonneg_left (by omega) hm)
/-- What is new stays new. -/
theorem new_mono {k i n : Int} {y x : Nat} (k0 : 0 ≤ k) (k1 : k ≤ 5) (n0 : 1 ≤ n) (i1 : i + 1 ≤ n) (h : newS k y x i n = true) : newS k y x (i + 1) n = true := by
  have d64 := div_mono (m := 64) (i := i) (n := n) (by omega) n0
  have d16 := div_mono (m := 16) (i := i) (n := n) (by omega) n0
  have d32 := div_mono (m := 32) (i := i) (n := n) (by omega) n0
  have d1024 := div_mono (m := 1024) (i := i) (n := n) (by omega) n0
  rcases (show k = 0 ∨ k = 1 ∨ k = 2 ∨ k = 3 ∨ k = 4 ∨ k = 5 by omega) with rfl | rfl | rfl | rfl | rfl | rfl
  · simp [newS, fromS] at h; omega
  · simp [newS, fromS] at h ⊢; omega
  · simp [newS, fromS] at h ⊢; omega
  · simp [newS, fromS] at h ⊢; omega
  · simp [newS, fromS] at h ⊢; omega
  · simp [newS] at h ⊢; omega
end Go.Proofs.Do
