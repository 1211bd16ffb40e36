import Derived.Test.YtkpgbnchidjapaaNvH
namespace Go.Proofs.Nv
set_option linter.unusedVariables false
set_option linter.unusedSimpArgs false
open Go Go.Sx Go.Proofs
set_option maxRecDepth 100000
set_option maxHeartbeats 4000000
-- SAME: sm
-- ABBR: IntKind.i64.wrap ==> W
def firstB : Bs := [102, 105, 114, 115, 116]
def madM (l : List Bs) : Bs := l.foldl (fun m c => cmS m c 1048576) (fmtS firstB)
abbrev XI := Bs × Int × Int
def J11 (l : List Bs) (x : XI) : Prop := 0 ≤ x.2.2 ∧ x.2.2 ≤ l.length ∧ x.2.1 = 0 ∧ x.1 = madM (l.take x.2.2.toNat)
attribute [irreducible] madM J11
def cMad : Ctr := ctr sL.dec (fun a => a.length ≤ 1000000 ∧ ∀ c ∈ a, c.length ≤ 1024) (fun a => .tup [.str (madM a), .bool true])
noncomputable def A11 (l : List Bs) : List Ann := [⟨.unit, .list [.str (.tm 4), .int .i64 (.tm 5), .int .i64 (.tm 6)], fun _ (x : XI) => J11 l x, fun _ (x : XI) => ((l.length : Int) - x.2.2).toNat⟩]
noncomputable def T11 : List (Nat × Ctr) := (11, cMad) :: T12
noncomputable def vc11 (l : List Bs) : Prop := cva T12 Try.f11 (A11 l) [encR codS l] (.tup [.str (madM l), .bool true])
noncomputable def T13 : List (Nat × Ctr) := (13, ctr sS.dec (fun _ => True) (fun a => .bool true)) :: T11
noncomputable def vc13 (m : Bs) : Prop := cva T11 Try.f13 [] [.str m] (.bool true)
noncomputable def T15 : List (Nat × Ctr) := (15, ctr Sig.nil.dec (fun _ => True) (fun a => .bool true)) :: T13
noncomputable def vc15 (z : Bs) : Prop := cva T13 Try.f15 [] [] (.bool true)
theorem vc11_eq (l : List Bs) : (True ∧ True ∧ (True ∧ (5 : Nat) ≤ (1000000 : Nat)) ∧ True ∧ True ∧ (J11 l (fmtS #[(102 : UInt8), (105 : UInt8), (114 : UInt8), (115 : UInt8), (116 : UInt8)].toList,
    (0 : Int), (0 : Int)) ∧ ((l.length = l.length ∧ ∀ (i : Nat), i < l.length → sm (l.getD i codS.dft) ∧ True) ∧ True ∧ Eq (α := List UInt8) (Array.toList #[]) (Array.toList
    #[]) ∧ True ∧ sm (fmtS #[(102 : UInt8), (105 : UInt8), (114 : UInt8), (115 : UInt8), (116 : UInt8)].toList) ∧ sm ((0 : Int)) ∧ sm ((0 : Int)) ∧ (sm (fmtS #[(102
    : UInt8), (105 : UInt8), (114 : UInt8), (115 : UInt8), (116 : UInt8)].toList) ∧ sm ((0 : Int)) ∧ True) ∧ (sm (fmtS #[(102 : UInt8), (105 : UInt8), (114 : UInt8),
    (115 : UInt8), (116 : UInt8)].toList) ∧ sm ((0 : Int)) ∧ True) ∧ sm (fmtS #[(102 : UInt8), (105 : UInt8), (114 : UInt8), (115 : UInt8), (116 : UInt8)].toList) ∧
    sm ((0 : Int)) ∧ True ∧ True ∧ True ∧ True ∧ True ∧ True ∧ True ∧ True ∧ True ∧ True ∧ True ∧ True ∧ True ∧ True ∧ True ∧ True ∧ True ∧ True ∧ True ∧ True ∧ True
    ∧ True ∧ True) ∧ True) ∧ ∀ (n : List UInt8) (n_1 n_2 : Int), J11 l (n, n_1, n_2) → (decide (n_2 < ↑l.length) = true → True ∧ ((n_1 == (0 : Int)) = true → ((0 : Int)
    ≤ n_2 ∧ n_2 < ↑l.length) ∧ True ∧ True ∧ True ∧ ((True ∧ True ∧ True) ∧ (l.getD n_2.toNat codS.dft).length ≤ (1000000 : Nat) ∧ (-9223372036854775808 : Int) ≤ (1048576
    : Int) ∧ (1048576 : Int) < (9223372036854775808 : Int)) ∧ True ∧ True ∧ J11 l (cmS n (l.getD n_2.toNat codS.dft) (1048576 : Int), cmE n (l.getD n_2.toNat codS.dft)
    (1048576 : Int), W (n_2 + (1 : Int))) ∧ (↑l.length - W (n_2 + (1 : Int))).toNat < (↑l.length - n_2).toNat ∧ ((l.length = l.length ∧ ∀ (i : Nat), i < l.length → sm
    (l.getD i codS.dft) ∧ True) ∧ True ∧ Eq (α := List UInt8) (Array.toList #[]) (Array.toList #[]) ∧ True ∧ sm (cmS n (l.getD n_2.toNat codS.dft) (1048576 : Int)) ∧
    sm (cmE n (l.getD n_2.toNat codS.dft) (1048576 : Int)) ∧ sm (W (n_2 + (1 : Int))) ∧ (sm (fmtS #[(102 : UInt8), (105 : UInt8), (114 : UInt8), (115 : UInt8), (116
    : UInt8)].toList) ∧ sm ((0 : Int)) ∧ True) ∧ (sm (fmtS #[(102 : UInt8), (105 : UInt8), (114 : UInt8), (115 : UInt8), (116 : UInt8)].toList) ∧ sm ((0 : Int)) ∧ True)
    ∧ sm (fmtS #[(102 : UInt8), (105 : UInt8), (114 : UInt8), (115 : UInt8), (116 : UInt8)].toList) ∧ sm ((0 : Int)) ∧ True ∧ True ∧ True ∧ True ∧ True ∧ True ∧ True
    ∧ True ∧ True ∧ True ∧ True ∧ True ∧ True ∧ True ∧ True ∧ True ∧ True ∧ True ∧ True ∧ True ∧ True ∧ True ∧ True) ∧ True) ∧ ((n_1 == (0 : Int)) = false → True ∧ True
    ∧ True ∧ (n = madM l ∧ (n_1 == (0 : Int)) = true ∧ True) ∧ True)) ∧ (decide (n_2 < ↑l.length) = false → True ∧ True ∧ True ∧ True ∧ (n = madM l ∧ (n_1 == (0 : Int))
    = true ∧ True) ∧ True)) = vc11 l := by kernel_rfl
theorem vc13_eq (m : Bs) : (True ∧ True ∧ (True ∧ True) ∧ True ∧ True ∧ (True ∧ True) ∧ True ∧ True ∧ (True ∧ True) ∧ True ∧ True ∧ (True ∧ True) ∧ True ∧ ((curD m == curD m) = true → ((curE
    m == curE m) = true → ((curI m == curI m) = true → ((curN m == curN m) = true → True ∧ True ∧ (curE m == curE m) = true ∧ True) ∧ ((curN m == curN m) = false → True
    ∧ True ∧ true = false ∧ True)) ∧ ((curI m == curI m) = false → True ∧ True ∧ true = false ∧ True)) ∧ ((curE m == curE m) = false → True ∧ True ∧ true = false ∧ True))
    ∧ ((curD m == curD m) = false → True ∧ True ∧ true = false ∧ True)) = vc13 m := by kernel_rfl
theorem vc15_eq (z : Bs) : (True ∧ True ∧ (True ∧ (3 : Nat) ≤ (1000000 : Nat)) ∧ True ∧ True ∧ True ∧ True ∧ ((True ∧ True ∧ True) ∧ (2 : Nat) ≤ (1000000 : Nat) ∧ (-9223372036854775808 : Int)
    ≤ (9 : Int) ∧ (9 : Int) < (9223372036854775808 : Int)) ∧ True ∧ True ∧ True ∧ True ∧ ((True ∧ True ∧ True) ∧ (2 : Nat) ≤ (1000000 : Nat) ∧ (-9223372036854775808
    : Int) ≤ (10 : Int) ∧ (10 : Int) < (9223372036854775808 : Int)) ∧ True ∧ True ∧ (True ∧ True) ∧ True ∧ True ∧ (True ∧ True) ∧ True ∧ True ∧ (True ∧ True) ∧ True
    ∧ True ∧ (True ∧ True) ∧ True ∧ (((0 : Int) == (0 : Int)) = true → (((61 : Int) == (61 : Int)) = true → (((0 : Int) == (0 : Int)) = true → (((0 : Int) == (0 : Int))
    = true → (((0 : Int) == (0 : Int)) = true → ((curD (cmS (fmtS #[(111 : UInt8), (108 : UInt8), (100 : UInt8)].toList) #[(97 : UInt8), (98 : UInt8)].toList (9 : Int))
    == #[(111 : UInt8), (108 : UInt8), (100 : UInt8)].toList) = true → ((curD (cmS (fmtS #[(111 : UInt8), (108 : UInt8), (100 : UInt8)].toList) #[(97 : UInt8), (98 :
    UInt8)].toList (10 : Int)) == #[(97 : UInt8), (98 : UInt8)].toList) = true → (((1 : Int) == (1 : Int)) = true → (((2 : Int) == (2 : Int)) = true → (((0 : Int) ==
    (0 : Int)) = true → True ∧ True ∧ ((1 : Int) == (1 : Int)) = true ∧ True) ∧ (((0 : Int) == (0 : Int)) = false → True ∧ True ∧ true = false ∧ True)) ∧ (((2 : Int)
    == (2 : Int)) = false → True ∧ True ∧ true = false ∧ True)) ∧ (((1 : Int) == (1 : Int)) = false → True ∧ True ∧ true = false ∧ True)) ∧ ((curD (cmS (fmtS #[(111
    : UInt8), (108 : UInt8), (100 : UInt8)].toList) #[(97 : UInt8), (98 : UInt8)].toList (10 : Int)) == #[(97 : UInt8), (98 : UInt8)].toList) = false → True ∧ True ∧
    true = false ∧ True)) ∧ ((curD (cmS (fmtS #[(111 : UInt8), (108 : UInt8), (100 : UInt8)].toList) #[(97 : UInt8), (98 : UInt8)].toList (9 : Int)) == #[(111 : UInt8),
    (108 : UInt8), (100 : UInt8)].toList) = false → True ∧ True ∧ true = false ∧ True)) ∧ (((0 : Int) == (0 : Int)) = false → True ∧ True ∧ true = false ∧ True)) ∧ (((0
    : Int) == (0 : Int)) = false → True ∧ True ∧ true = false ∧ True)) ∧ (((0 : Int) == (0 : Int)) = false → True ∧ True ∧ true = false ∧ True)) ∧ (((61 : Int) == (61
    : Int)) = false → True ∧ True ∧ true = false ∧ True)) ∧ (((0 : Int) == (0 : Int)) = false → True ∧ True ∧ true = false ∧ True)) = vc15 z := by kernel_rfl
theorem mad_nil : madM [] = fmtS firstB := by simp only [madM]; rfl
theorem mad_push (l : List Bs) (c : Bs) : madM (l ++ [c]) = cmS (madM l) c 1048576 := by simp only [madM, List.foldl_append, List.foldl_cons, List.foldl_nil]
theorem mad_take {l : List Bs} {i : Nat} (h : i < l.length) : madM (l.take (i + 1)) = cmS (madM (l.take i)) (l.getD i []) 1048576 := by
  rw [← take_push h, mad_push]
theorem first_len : firstB.length ≤ 1024 := by decide
/-- A made memory is good. -/
theorem mad_good {l : List Bs} (hc : ∀ c ∈ l, c.length ≤ 1024) : ∀ i : Nat, i ≤ l.length → (madM (l.take i)).length = 2062 ∧ curE (madM (l.take i)) = 0
  | 0, _ => by
    rw [List.take_zero, mad_nil]
    have := fmt_law first_len
    exact ⟨this.2.1, this.2.2.1⟩
  | i + 1, h => by
    have ih := mad_good hc i (by omega)
    rw [mad_take (by omega)]
    have := cm_law (b := 1048576) ih.2 (hc _ (mem_getD (show i < l.length by omega)))
    exact ⟨this.1, this.2.1⟩
theorem t11 (l : List Bs) (hl : l.length ≤ 1000000) (hc : ∀ c ∈ l, c.length ≤ 1024) : vc11 l := by
  rw [← vc11_eq]
  simp [-List.getD_eq_getElem?_getD, W_def, by_def]
  refine ⟨?_, fun m e i hJ => ?_⟩
  · simp only [J11]
    exact ⟨by omega, by omega, trivial, by rw [show (0 : Int).toNat = 0 from rfl, List.take_zero, mad_nil]; rfl⟩
  · simp only [J11] at hJ ⊢
    obtain ⟨i0, i1, e0, hm⟩ := hJ
    have e3 : W (i + 1) = i + 1 := W_id (by omega) (by omega)
    rw [e3]
    refine ⟨fun h => ⟨fun _ => ⟨⟨i0, h⟩, ?_, ⟨by omega, by omega, ?_, ?_⟩, by omega⟩, fun h2 => absurd e0 h2⟩, fun h => ⟨by rw [hm, List.take_of_length_le (by omega)], e0⟩⟩
    · have := hc _ (mem_getD (show i.toNat < l.length by omega)); omega
    · have hg := mad_good hc i.toNat (by omega)
      have hz := hc _ (mem_getD (show i.toNat < l.length by omega))
      rw [hm]
      exact ((cm_law (b := 1048576) hg.2 hz).2.2.1 (by omega)).1
    · rw [show (i + 1).toNat = i.toNat + 1 by omega, mad_take (by omega), hm]
theorem t13 (m : Bs) : vc13 m := by
  rw [← vc13_eq]
  simp [-List.getD_eq_getElem?_getD, W_def, by_def]
theorem t15 (z : Bs) : vc15 z := by
  rw [← vc15_eq]
  simp [-List.getD_eq_getElem?_getD, W_def, by_def]
  have f := fmt_law (d := [111, 108, 100]) (by decide)
  have c1 := cm_law (d := [97, 98]) (b := 9) f.2.2.1 (by decide)
  have c2 := cm_law (d := [97, 98]) (b := 10) f.2.2.1 (by decide)
  have e1 := (c1.2.2.2 (by decide)).2.1
  have e2 := (c2.2.2.1 (by decide)).2.1
  rw [f.2.2.2.2.2] at e1
  exact ⟨fun _ => e2, e1⟩
theorem k11 : TabOK Try.prog T11 := fn_tabA k12 hm Try.func11 (by kernel_rfl) (by kernel_rfl) sL.ok (by kernel_rfl) (fun a => A11 a) fun a hp => by
  have h := t11 a hp.1 hp.2
  exact h
theorem k13 : TabOK Try.prog T13 := fn_tabA k11 hm Try.func13 (by kernel_rfl) (by kernel_rfl) sS.ok (by kernel_rfl) (fun _ => []) fun a hp => by
  have h := t13 a
  exact h
theorem k15 : TabOK Try.prog T15 := fn_tabA k13 hm Try.func15 (by kernel_rfl) (by kernel_rfl) Sig.nil.ok (by kernel_rfl) (fun _ => []) fun a hp => by
  have h := t15 []
  exact h
end Go.Proofs.Nv
