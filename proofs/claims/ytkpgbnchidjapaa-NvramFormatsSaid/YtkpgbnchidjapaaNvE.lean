import Derived.Test.YtkpgbnchidjapaaNvD
namespace Go.Proofs.Nv
set_option linter.unusedVariables false
set_option linter.unusedSimpArgs false
open Go Go.Sx Go.Proofs
set_option maxRecDepth 100000
set_option maxHeartbeats 4000000
-- SAME: sm
-- ABBR: IntKind.i64.wrap ==> W
/-- What Run gives: the memory, the commits that are whole, the error. -/
def runS : Bs → List Bs → Int → Int → Bs × Int × Int
  | m, [], _, n => (m, n, 0)
  | m, c :: r, b, n => if cmE m c b = 0 then runS (cmS m c b) r (b - (8 + (c.length : Int))) (n + 1) else if cmE m c b = 61 then (cmS m c b, n, 61) else ([], 0, cmE m c b)
def rnM (m : Bs) (l : List Bs) (b : Int) : Bs := (runS m l b 0).1
def rnN (m : Bs) (l : List Bs) (b : Int) : Int := (runS m l b 0).2.1
def rnE (m : Bs) (l : List Bs) (b : Int) : Int := (runS m l b 0).2.2
abbrev XE := Bs × Int × Int
def J24 (m : Bs) (l : List Bs) (b : Int) (x : XE) : Prop := 0 ≤ x.2.2 ∧ x.2.2 ≤ l.length ∧ -9223372036854775808 ≤ x.2.1 ∧ x.2.1 < 9223372036854775808 ∧ runS x.1 (l.drop x.2.2.toNat) x.2.1 x.2.2 = runS m l b 0
attribute [irreducible] runS rnM rnN rnE J24
def sSLI := Sig.cons argS (Sig.cons (argR codS) sI)
def cRun : Ctr := ctr sSLI.dec (fun a => a.2.1.length ≤ 1000000 ∧ (∀ c ∈ a.2.1, c.length ≤ 1000000) ∧ -9223372036854775808 ≤ a.2.2 ∧ a.2.2 < 9223372036854775808) (fun a => .tup [.str (rnM a.1 a.2.1 a.2.2), iS (rnN a.1 a.2.1 a.2.2), iS (rnE a.1 a.2.1 a.2.2)])
noncomputable def A24 (m : Bs) (l : List Bs) (b : Int) : List Ann := [⟨.unit, .list [.str (.tm 0), .int .i64 (.tm 2), .int .i64 (.tm 15)], fun _ (x : XE) => J24 m l b x, fun _ (x : XE) => ((l.length : Int) - x.2.2).toNat⟩]
noncomputable def A25 (m : Bs) (l : List Bs) (b : Int) : List Ann := [⟨.unit, .list [.str (.tm 0), .int .i64 (.tm 2), .int .i64 (.tm 9)], fun _ (x : XE) => J24 m l b x, fun _ (x : XE) => ((l.length : Int) - x.2.2).toNat⟩]
noncomputable def T24 : List (Nat × Ctr) := (24, cRun) :: T17
noncomputable def vc24 (m : Bs) (l : List Bs) (b : Int) : Prop := cva T17 Try.f24 (A24 m l b) [.str m, encR codS l, iS b] (.tup [.str (rnM m l b), iS (rnN m l b), iS (rnE m l b)])
noncomputable def T25 : List (Nat × Ctr) := (25, cRun) :: T24
noncomputable def vc25 (m : Bs) (l : List Bs) (b : Int) : Prop := cva T24 Try.f25 (A25 m l b) [.str m, encR codS l, iS b] (.tup [.str (rnM m l b), iS (rnN m l b), iS (rnE m l b)])
theorem vc24_eq (m : Bs) (l : List Bs) (b : Int) : (True ∧ True ∧ (J24 m l b (m, b, (0 : Int)) ∧ (m = m ∧ (l.length = l.length ∧ ∀ (i : Nat), i < l.length → sm (l.getD i codS.dft) ∧ True) ∧ b = b ∧ True ∧ True ∧ True
    ∧ True ∧ True ∧ True ∧ True ∧ True ∧ True ∧ True ∧ (l.length = l.length ∧ ∀ (i : Nat), i < l.length → sm (l.getD i codS.dft) ∧ True) ∧ Eq (α := Int) ↑l.length ↑l.length
    ∧ sm ((0 : Int)) ∧ True ∧ True ∧ True ∧ True ∧ True ∧ True ∧ True ∧ True ∧ True ∧ True ∧ True ∧ True ∧ True ∧ True ∧ True ∧ True ∧ True ∧ True ∧ True ∧ True ∧ True
    ∧ True ∧ True ∧ True ∧ True ∧ True ∧ True ∧ True ∧ True ∧ True) ∧ True) ∧ ∀ (n : List UInt8) (n_1 n_2 : Int), J24 m l b (n, n_1, n_2) → True ∧ (decide (n_2 < ↑l.length)
    = true → ((0 : Int) ≤ n_2 ∧ n_2 < ↑l.length) ∧ True ∧ True ∧ True ∧ True ∧ ((True ∧ True ∧ True) ∧ (l.getD n_2.toNat codS.dft).length ≤ (1000000 : Nat) ∧ (-9223372036854775808
    : Int) ≤ n_1 ∧ n_1 < (9223372036854775808 : Int)) ∧ True ∧ True ∧ True ∧ ((cmE n (l.getD n_2.toNat codS.dft) n_1 == (0 : Int)) = true → True ∧ True ∧ (True ∧ (l.getD
    n_2.toNat codS.dft).length ≤ (1000000 : Nat)) ∧ True ∧ True ∧ J24 m l b (cmS n (l.getD n_2.toNat codS.dft) n_1, W (n_1 - ((8 : Int) + ↑(l.getD n_2.toNat codS.dft).length)),
    W (n_2 + (1 : Int))) ∧ (↑l.length - W (n_2 + (1 : Int))).toNat < (↑l.length - n_2).toNat ∧ (sm (cmS n (l.getD n_2.toNat codS.dft) n_1) ∧ (l.length = l.length ∧ ∀
    (i : Nat), i < l.length → sm (l.getD i codS.dft) ∧ True) ∧ sm (W (n_1 - ((8 : Int) + ↑(l.getD n_2.toNat codS.dft).length))) ∧ True ∧ True ∧ True ∧ True ∧ True ∧
    True ∧ True ∧ True ∧ True ∧ True ∧ (l.length = l.length ∧ ∀ (i : Nat), i < l.length → sm (l.getD i codS.dft) ∧ True) ∧ Eq (α := Int) ↑l.length ↑l.length ∧ sm (W
    (n_2 + (1 : Int))) ∧ True ∧ True ∧ True ∧ True ∧ True ∧ True ∧ True ∧ True ∧ True ∧ True ∧ True ∧ True ∧ True ∧ True ∧ True ∧ True ∧ True ∧ True ∧ True ∧ True ∧
    True ∧ True ∧ True ∧ True ∧ True ∧ True ∧ True ∧ True ∧ True ∧ True) ∧ True) ∧ ((cmE n (l.getD n_2.toNat codS.dft) n_1 == (0 : Int)) = false → True ∧ ((cmE n (l.getD
    n_2.toNat codS.dft) n_1 == (61 : Int)) = true → True ∧ True ∧ True ∧ True ∧ (cmS n (l.getD n_2.toNat codS.dft) n_1 = rnM m l b ∧ n_2 = rnN m l b ∧ cmE n (l.getD
    n_2.toNat codS.dft) n_1 = rnE m l b ∧ True) ∧ True) ∧ ((cmE n (l.getD n_2.toNat codS.dft) n_1 == (61 : Int)) = false → True ∧ True ∧ True ∧ True ∧ (Array.toList
    #[] = rnM m l b ∧ (0 : Int) = rnN m l b ∧ cmE n (l.getD n_2.toNat codS.dft) n_1 = rnE m l b ∧ True) ∧ True))) ∧ (decide (n_2 < ↑l.length) = false → True ∧ True ∧
    True ∧ True ∧ (n = rnM m l b ∧ ↑l.length = rnN m l b ∧ (0 : Int) = rnE m l b ∧ True) ∧ True)) = vc24 m l b := by kernel_rfl
theorem vc25_eq (m : Bs) (l : List Bs) (b : Int) : (True ∧ True ∧ (J24 m l b (m, b, (0 : Int)) ∧ (m = m ∧ (l.length = l.length ∧ ∀ (i : Nat), i < l.length → sm (l.getD i codS.dft) ∧ True) ∧ b = b ∧ True ∧ True ∧ True
    ∧ True ∧ True ∧ True ∧ sm ((0 : Int)) ∧ True ∧ True ∧ True ∧ True ∧ True ∧ True ∧ True ∧ True ∧ True ∧ True ∧ True ∧ True ∧ True ∧ True ∧ True ∧ True ∧ True ∧ True
    ∧ True ∧ True ∧ True ∧ True ∧ True ∧ True ∧ True ∧ True ∧ True ∧ True ∧ True ∧ True ∧ True ∧ True ∧ True ∧ True ∧ True ∧ True ∧ True ∧ True) ∧ True) ∧ ∀ (n : List
    UInt8) (n_1 n_2 : Int), J24 m l b (n, n_1, n_2) → True ∧ (decide (n_2 < ↑l.length) = true → ((0 : Int) ≤ n_2 ∧ n_2 < ↑l.length) ∧ True ∧ True ∧ True ∧ ((True ∧ True
    ∧ True) ∧ (l.getD n_2.toNat codS.dft).length ≤ (1000000 : Nat) ∧ (-9223372036854775808 : Int) ≤ n_1 ∧ n_1 < (9223372036854775808 : Int)) ∧ True ∧ True ∧ ((cmE n
    (l.getD n_2.toNat codS.dft) n_1 == (61 : Int)) = true → True ∧ True ∧ True ∧ True ∧ (cmS n (l.getD n_2.toNat codS.dft) n_1 = rnM m l b ∧ n_2 = rnN m l b ∧ cmE n
    (l.getD n_2.toNat codS.dft) n_1 = rnE m l b ∧ True) ∧ True) ∧ ((cmE n (l.getD n_2.toNat codS.dft) n_1 == (61 : Int)) = false → True ∧ ((cmE n (l.getD n_2.toNat codS.dft)
    n_1 != (0 : Int)) = true → True ∧ True ∧ True ∧ True ∧ (Array.toList #[] = rnM m l b ∧ (0 : Int) = rnN m l b ∧ cmE n (l.getD n_2.toNat codS.dft) n_1 = rnE m l b
    ∧ True) ∧ True) ∧ ((cmE n (l.getD n_2.toNat codS.dft) n_1 != (0 : Int)) = false → True ∧ ((0 : Int) ≤ n_2 ∧ n_2 < ↑l.length) ∧ True ∧ (True ∧ (l.getD n_2.toNat codS.dft).length
    ≤ (1000000 : Nat)) ∧ True ∧ True ∧ J24 m l b (cmS n (l.getD n_2.toNat codS.dft) n_1, W (n_1 - ((8 : Int) + ↑(l.getD n_2.toNat codS.dft).length)), W (n_2 + (1 : Int)))
    ∧ (↑l.length - W (n_2 + (1 : Int))).toNat < (↑l.length - n_2).toNat ∧ (sm (cmS n (l.getD n_2.toNat codS.dft) n_1) ∧ (l.length = l.length ∧ ∀ (i : Nat), i < l.length
    → sm (l.getD i codS.dft) ∧ True) ∧ sm (W (n_1 - ((8 : Int) + ↑(l.getD n_2.toNat codS.dft).length))) ∧ True ∧ True ∧ True ∧ True ∧ True ∧ True ∧ sm (W (n_2 + (1 :
    Int))) ∧ True ∧ True ∧ True ∧ True ∧ True ∧ True ∧ True ∧ True ∧ True ∧ True ∧ True ∧ True ∧ True ∧ True ∧ True ∧ True ∧ True ∧ True ∧ True ∧ True ∧ True ∧ True
    ∧ True ∧ True ∧ True ∧ True ∧ True ∧ True ∧ True ∧ True ∧ True ∧ True ∧ True ∧ True ∧ True ∧ True ∧ True ∧ True) ∧ True))) ∧ (decide (n_2 < ↑l.length) = false →
    True ∧ True ∧ True ∧ True ∧ (n = rnM m l b ∧ ↑l.length = rnN m l b ∧ (0 : Int) = rnE m l b ∧ True) ∧ True)) = vc25 m l b := by kernel_rfl
theorem run_nil (m : Bs) (b n : Int) : runS m [] b n = (m, n, 0) := by simp only [runS]
theorem run_cons (m c : Bs) (r : List Bs) (b n : Int) : runS m (c :: r) b n = if cmE m c b = 0 then runS (cmS m c b) r (b - (8 + (c.length : Int))) (n + 1) else if cmE m c b = 61 then (cmS m c b, n, 61) else ([], 0, cmE m c b) := by simp only [runS]
theorem drop_getD {l : List Bs} {i : Nat} (h : i < l.length) : l.drop i = l.getD i [] :: l.drop (i + 1) := by
  rw [List.drop_eq_getElem_cons h]; simp [List.getD_eq_getElem?_getD, h]
theorem cmE_0 {m c : Bs} {b : Int} (h : cmE m c b = 0) : curE m = 0 ∧ c.length ≤ 1024 ∧ (c.length : Int) + 8 ≤ b := by
  simp only [cmE] at h
  have := curE_val m
  by_cases h1 : curE m = 0
  · rw [if_pos h1] at h
    by_cases h2 : 1024 < c.length
    · rw [if_pos h2] at h; omega
    · rw [if_neg h2] at h
      by_cases h3 : b < c.length + 8
      · rw [if_pos h3] at h; omega
      · exact ⟨h1, by omega, by omega⟩
  · rw [if_neg h1] at h; omega
theorem mem_getD {l : List Bs} {i : Nat} (h : i < l.length) : l.getD i [] ∈ l := by
  simp [List.getD_eq_getElem?_getD, h]
/-- One round: what is asked in each of the three ends. -/
theorem run_step {m : Bs} {l : List Bs} {b : Int} {n : Bs} {k i : Int} (hl : l.length ≤ 1000000) (hJ : J24 m l b (n, k, i)) (h : i < l.length) : (0 ≤ i ∧ i < l.length) ∧ (-9223372036854775808 ≤ k ∧ k < 9223372036854775808) ∧
    (cmE n (l.getD i.toNat []) k = 0 → J24 m l b (cmS n (l.getD i.toNat []) k, W (k - (8 + ((l.getD i.toNat []).length : Int))), W (i + 1)) ∧ max ((l.length : Int) - W (i + 1)) 0 < l.length - i) ∧
    (¬ cmE n (l.getD i.toNat []) k = 0 → (cmE n (l.getD i.toNat []) k = 61 → cmS n (l.getD i.toNat []) k = rnM m l b ∧ i = rnN m l b ∧ cmE n (l.getD i.toNat []) k = rnE m l b) ∧
      (¬ cmE n (l.getD i.toNat []) k = 61 → rnM m l b = [] ∧ 0 = rnN m l b ∧ cmE n (l.getD i.toNat []) k = rnE m l b)) := by
  simp only [J24] at hJ
  obtain ⟨i0, i1, k0, k1, hr⟩ := hJ
  have hi : i.toNat < l.length := by omega
  rw [drop_getD hi, run_cons] at hr
  refine ⟨⟨i0, h⟩, ⟨k0, k1⟩, fun q => ?_, fun q => ⟨fun q2 => ?_, fun q2 => ?_⟩⟩
  · obtain ⟨z0, z1, z2⟩ := cmE_0 q
    rw [if_pos q] at hr
    rw [W_id (n := k - (8 + ((l.getD i.toNat []).length : Int))) (by omega) (by omega), W_id (n := i + 1) (by omega) (by omega)]
    refine ⟨?_, by omega⟩
    simp only [J24]
    rw [show (i + 1).toNat = i.toNat + 1 by omega]
    exact ⟨by omega, by omega, by omega, by omega, hr⟩
  · rw [if_neg q, if_pos q2] at hr
    simp only [rnM, rnN, rnE]
    rw [← hr]; exact ⟨rfl, rfl, q2⟩
  · rw [if_neg q, if_neg q2] at hr
    simp only [rnM, rnN, rnE]
    rw [← hr]; exact ⟨rfl, rfl, rfl⟩
theorem run_end {m : Bs} {l : List Bs} {b : Int} {n : Bs} {k i : Int} (hJ : J24 m l b (n, k, i)) (h : l.length ≤ i) : n = rnM m l b ∧ (l.length : Int) = rnN m l b ∧ 0 = rnE m l b := by
  simp only [J24] at hJ
  obtain ⟨i0, i1, k0, k1, hr⟩ := hJ
  rw [List.drop_of_length_le (by omega), run_nil] at hr
  simp only [rnM, rnN, rnE]
  rw [← hr]; exact ⟨rfl, by show (l.length : Int) = i; omega, rfl⟩
theorem t24 (m : Bs) (l : List Bs) (b : Int) (hl : l.length ≤ 1000000) (hc : ∀ c ∈ l, c.length ≤ 1000000) (b0 : -9223372036854775808 ≤ b) (b1 : b < 9223372036854775808) : vc24 m l b := by
  rw [← vc24_eq]
  simp [-List.getD_eq_getElem?_getD, W_def, by_def]
  refine ⟨by simp only [J24]; exact ⟨by omega, by omega, b0, b1, rfl⟩, fun n k i hJ => ⟨fun h => ?_, fun h => run_end hJ h⟩⟩
  obtain ⟨p1, p2, p3, p4⟩ := run_step hl hJ h
  have z := hc _ (mem_getD (show i.toNat < l.length by omega))
  exact ⟨p1, ⟨z, p2⟩, fun q => ⟨z, p3 q⟩, p4⟩
theorem t25 (m : Bs) (l : List Bs) (b : Int) (hl : l.length ≤ 1000000) (hc : ∀ c ∈ l, c.length ≤ 1000000) (b0 : -9223372036854775808 ≤ b) (b1 : b < 9223372036854775808) : vc25 m l b := by
  rw [← vc25_eq]
  simp [-List.getD_eq_getElem?_getD, W_def, by_def]
  refine ⟨by simp only [J24]; exact ⟨by omega, by omega, b0, b1, rfl⟩, fun n k i hJ => ⟨fun h => ?_, fun h => run_end hJ h⟩⟩
  obtain ⟨p1, p2, p3, p4⟩ := run_step hl hJ h
  have z := hc _ (mem_getD (show i.toNat < l.length by omega))
  exact ⟨p1, ⟨z, p2⟩, fun q => (p4 (by omega)).1 q, fun q => ⟨fun q2 => (p4 q2).2 q, fun q2 => ⟨p1, z, p3 q2⟩⟩⟩
theorem k24 : TabOK Try.prog T24 := fn_tabA k17 hm Try.func24 (by kernel_rfl) (by kernel_rfl) sSLI.ok (by kernel_rfl) (fun a => A24 a.1 a.2.1 a.2.2) fun a hp => by
  have h := t24 a.1 a.2.1 a.2.2 hp.1 hp.2.1 hp.2.2.1 hp.2.2.2
  exact h
theorem k25 : TabOK Try.prog T25 := fn_tabA k24 hm Try.func25 (by kernel_rfl) (by kernel_rfl) sSLI.ok (by kernel_rfl) (fun a => A25 a.1 a.2.1 a.2.2) fun a hp => by
  have h := t25 a.1 a.2.1 a.2.2 hp.1 hp.2.1 hp.2.2.1 hp.2.2.2
  exact h
end Go.Proofs.Nv
