import Derived.Test.YtkpgbnchidjapaaNvE
namespace Go.Proofs.Nv
set_option linter.unusedVariables false
set_option linter.unusedSimpArgs false
open Go Go.Sx Go.Proofs
set_option maxRecDepth 100000
set_option maxHeartbeats 4000000
-- SAME: sm
-- ABBR: IntKind.i64.wrap ==> W
def datR (s : Bs) (k : Int) : Nat → Int → Bs → Bs
  | 0, _, o => o
  | f + 1, i, o => if i ≤ k ∧ o.length + s.length ≤ 1024 then datR s k f (i + 1) (o ++ s) else o
/-- A commit's data. -/
def datF (s : Bs) (n : Int) : Bs := datR s (n % 8) 9 0 []
abbrev XF := Bs × Int
def J21 (s : Bs) (n : Int) (x : XF) : Prop := 0 ≤ x.2 ∧ x.2 ≤ n % 8 + 1 ∧ x.1.length ≤ 1024 ∧ (x.1.length = 0 ∨ s.length ≤ 1024) ∧ datR s (n % 8) (9 - x.2).toNat x.2 x.1 = datF s n
def comF (l : List Bs) : List Bs := (List.range (min 12 l.length)).map fun i => datF (l.getD i []) (i : Int)
abbrev XG := Int × List Bs
def J12 (l : List Bs) (x : XG) : Prop := 0 ≤ x.1 ∧ x.1 ≤ l.length ∧ x.1 ≤ 12 ∧ x.2 = (comF l).take x.1.toNat
attribute [irreducible] datR datF J21 comF J12
def sSU := Sig.cons argS (Sig.one (argI .u8))
def cDat : Ctr := ctr sSU.dec (fun a => a.1.length ≤ 9223372036854775807 ∧ 0 ≤ a.2 ∧ a.2 < 256) (fun a => .str (datF a.1 a.2))
noncomputable def A21 (s : Bs) (n : Int) : List Ann := [⟨.unit, .list [.str (.tm 5), .int .i64 (.tm 6)], fun _ (x : XF) => J21 s n x, fun _ (x : XF) => (8 - x.2).toNat⟩]
noncomputable def T21 : List (Nat × Ctr) := (21, cDat) :: T25
noncomputable def vc21 (s : Bs) (n : Int) : Prop := cva T25 Try.f21 (A21 s n) [.str s, .int .u8 n] (.str (datF s n))
def sL := Sig.one (argR codS)
def cCom : Ctr := ctr sL.dec (fun a => a.length ≤ 9223372036854775807 ∧ ∀ c ∈ a, c.length ≤ 9223372036854775807) (fun a => encR codS (comF a))
noncomputable def A12 (l : List Bs) : List Ann := [⟨.unit, .list [.int .i64 (.tm 4), .rowL codS 0 9 [.tm 3]], fun _ (x : XG) => J12 l x, fun _ (x : XG) => (12 - x.1).toNat⟩]
noncomputable def T12 : List (Nat × Ctr) := (12, cCom) :: T21
noncomputable def vc12 (l : List Bs) : Prop := cva T21 Try.f12 (A12 l) [encR codS l] (encR codS (comF l))
theorem vc21_eq (s : Bs) (n : Int) : (True ∧ True ∧ True ∧ (J21 s n (Array.toList #[], (0 : Int)) ∧ (s = s ∧ n = n ∧ True ∧ True ∧ Eq (α := List UInt8) (Array.toList #[]) (Array.toList #[]) ∧ Eq (α :=
    List UInt8) (Array.toList #[]) (Array.toList #[]) ∧ sm ((0 : Int)) ∧ True ∧ True ∧ True ∧ True ∧ True ∧ True ∧ True ∧ True ∧ True ∧ True ∧ True ∧ True ∧ True ∧ True
    ∧ True ∧ True ∧ True ∧ True ∧ True ∧ True) ∧ True) ∧ ∀ (n_1 : List UInt8) (n_2 : Int), J21 s n (n_1, n_2) → (8 : Int) ≠ (0 : Int) ∧ (decide (n_2 ≤ W (n.tmod (8 :
    Int))) = true → True ∧ (decide (W (HAdd.hAdd (α := Int) ↑n_1.length ↑(List.length s)) ≤ (1024 : Int)) = true → n_1.length + List.length s ≤ (9223372036854775807
    : Nat) ∧ True ∧ True ∧ J21 s n (n_1 ++ s, W (n_2 + (1 : Int))) ∧ ((8 : Int) - W (n_2 + (1 : Int))).toNat < ((8 : Int) - n_2).toNat ∧ (s = s ∧ n = n ∧ True ∧ True
    ∧ Eq (α := List UInt8) (Array.toList #[]) (Array.toList #[]) ∧ n_1 ++ s = n_1 ++ s ∧ sm (W (n_2 + (1 : Int))) ∧ True ∧ True ∧ True ∧ True ∧ True ∧ True ∧ True ∧
    True ∧ True ∧ True ∧ True ∧ True ∧ True ∧ True ∧ True ∧ True ∧ True ∧ True ∧ True ∧ True) ∧ True) ∧ (decide (W (HAdd.hAdd (α := Int) ↑n_1.length ↑(List.length s))
    ≤ (1024 : Int)) = false → True ∧ True ∧ n_1 = datF s n ∧ True)) ∧ (decide (n_2 ≤ W (n.tmod (8 : Int))) = false → True ∧ True ∧ True ∧ n_1 = datF s n ∧ True)) = vc21 s n := by kernel_rfl
theorem vc12_eq (l : List Bs) : (True ∧ True ∧ True ∧ (J12 l ((0 : Int), []) ∧ ((l.length = l.length ∧ ∀ (i : Nat), i < l.length → sm (l.getD i codS.dft) ∧ True) ∧ True ∧ True ∧ (sm ((0 : Nat))
    ∧ sm ((0 : Nat))) ∧ sm ((0 : Int)) ∧ True ∧ True ∧ True ∧ True ∧ True ∧ True ∧ True ∧ True ∧ True ∧ True ∧ True ∧ True ∧ True ∧ True ∧ True ∧ True ∧ True ∧ True
    ∧ True ∧ True ∧ True ∧ True) ∧ sm ((0 : Nat)) ∧ codS.n = (1 : Nat) ∧ True) ∧ ∀ (n : Int) (l_1 : List (List UInt8)), J12 l (n, l_1) → (decide (n < ↑l.length) = true
    → True ∧ (decide (n < (12 : Int)) = true → ((0 : Int) ≤ n ∧ n < ↑l.length) ∧ True ∧ True ∧ ((True ∧ True) ∧ (l.getD n.toNat codS.dft).length ≤ (9223372036854775807
    : Nat) ∧ (0 : Int) ≤ IntKind.u8.wrap n ∧ IntKind.u8.wrap n < (256 : Int)) ∧ (0 : Nat) + (1 : Nat) ≤ (1 : Nat) ∧ (∀ (j : Nat), j < (1 : Nat) → true = true) ∧ (sm
    ((0 : Nat)) ∧ sm (l_1.length) ∧ l_1.length + (1 : Nat) ≤ (140737488355328 : Nat) ∧ (l_1.length + (1 : Nat)) * (16 : Nat) ≤ (140737488355328 : Nat)) ∧ True ∧ True
    ∧ J12 l (W (n + (1 : Int)), rowL codS (l_1.length + (1 : Nat)) fun j => mergeL (decide (j < l_1.length)) (codS.enc (l_1.getD j codS.dft)) ((if (1 : Nat) = (1 : Nat)
    then fun x => [SV.str (datF (l.getD n.toNat codS.dft) (IntKind.u8.wrap n))] else fun i' => mergeL (decide (i' = (0 : Nat))) [SV.str (datF (l.getD n.toNat codS.dft)
    (IntKind.u8.wrap n))] ((fun (x : List SV) => SV.str [] :: x) [])) ((0 : Nat) + (j - l_1.length)))) ∧ ((12 : Int) - W (n + (1 : Int))).toNat < ((12 : Int) - n).toNat
    ∧ ((l.length = l.length ∧ ∀ (i : Nat), i < l.length → sm (l.getD i codS.dft) ∧ True) ∧ True ∧ True ∧ (sm ((0 : Nat)) ∧ l_1.length + (1 : Nat) = (rowL codS (l_1.length
    + (1 : Nat)) fun j => mergeL (decide (j < l_1.length)) (codS.enc (l_1.getD j codS.dft)) ((if (1 : Nat) = (1 : Nat) then fun x => [SV.str (datF (l.getD n.toNat codS.dft)
    (IntKind.u8.wrap n))] else fun i' => mergeL (decide (i' = (0 : Nat))) [SV.str (datF (l.getD n.toNat codS.dft) (IntKind.u8.wrap n))] ((fun (x : List SV) => SV.str
    [] :: x) [])) ((0 : Nat) + (j - l_1.length)))).length) ∧ sm (W (n + (1 : Int))) ∧ True ∧ True ∧ True ∧ True ∧ True ∧ True ∧ True ∧ True ∧ True ∧ True ∧ True ∧ True
    ∧ True ∧ True ∧ True ∧ True ∧ True ∧ True ∧ True ∧ True ∧ True ∧ True) ∧ Eq (α := List (Option (Nat × Nat))) [] [] ∧ ((l_1.length + (1 : Nat) = (rowL codS (l_1.length
    + (1 : Nat)) fun j => mergeL (decide (j < l_1.length)) (codS.enc (l_1.getD j codS.dft)) ((if (1 : Nat) = (1 : Nat) then fun x => [SV.str (datF (l.getD n.toNat codS.dft)
    (IntKind.u8.wrap n))] else fun i' => mergeL (decide (i' = (0 : Nat))) [SV.str (datF (l.getD n.toNat codS.dft) (IntKind.u8.wrap n))] ((fun (x : List SV) => SV.str
    [] :: x) [])) ((0 : Nat) + (j - l_1.length)))).length ∧ (1 : Nat) = codS.n ∧ ∀ (i : Nat), i < l_1.length + (1 : Nat) → (if decide (i < l_1.length) = true then l_1.getD
    i codS.dft else datF (l.getD n.toNat codS.dft) (IntKind.u8.wrap n)) = (rowL codS (l_1.length + (1 : Nat)) fun j => mergeL (decide (j < l_1.length)) (codS.enc (l_1.getD
    j codS.dft)) ((if (1 : Nat) = (1 : Nat) then fun x => [SV.str (datF (l.getD n.toNat codS.dft) (IntKind.u8.wrap n))] else fun i' => mergeL (decide (i' = (0 : Nat)))
    [SV.str (datF (l.getD n.toNat codS.dft) (IntKind.u8.wrap n))] ((fun (x : List SV) => SV.str [] :: x) [])) ((0 : Nat) + (j - l_1.length)))).getD i codS.dft ∧ True)
    ∧ True) ∧ True) ∧ (decide (n < (12 : Int)) = false → True ∧ ((0 : Nat) + l_1.length ≤ l_1.length ∧ ∀ (i : Nat), i < l_1.length → true = true) ∧ (l_1.length = (comF
    l).length ∧ ∀ (i : Nat), i < l_1.length → l_1.getD ((0 : Nat) + i) codS.dft = (comF l).getD i codS.dft ∧ True) ∧ True)) ∧ (decide (n < ↑l.length) = false → True
    ∧ True ∧ ((0 : Nat) + l_1.length ≤ l_1.length ∧ ∀ (i : Nat), i < l_1.length → true = true) ∧ (l_1.length = (comF l).length ∧ ∀ (i : Nat), i < l_1.length → l_1.getD
    ((0 : Nat) + i) codS.dft = (comF l).getD i codS.dft ∧ True) ∧ True)) = vc12 l := by kernel_rfl
theorem datR_0 (s : Bs) (k i : Int) (o : Bs) : datR s k 0 i o = o := by simp only [datR]
theorem datR_S (s : Bs) (k i : Int) (f : Nat) (o : Bs) : datR s k (f + 1) i o = if i ≤ k ∧ o.length + s.length ≤ 1024 then datR s k f (i + 1) (o ++ s) else o := by simp only [datR]
theorem datR_len (s : Bs) (k : Int) : ∀ (f : Nat) (i : Int) (o : Bs), o.length ≤ 1024 → (datR s k f i o).length ≤ 1024
  | 0, i, o, h => by rw [datR_0]; exact h
  | f + 1, i, o, h => by
    rw [datR_S]
    split
    · exact datR_len s k f _ _ (by rw [List.length_append]; omega)
    · exact h
theorem datF_len (s : Bs) (n : Int) : (datF s n).length ≤ 1024 := by
  simp only [datF]
  exact datR_len s _ _ _ _ (by simp)
theorem t21 (s : Bs) (n : Int) (hl : s.length ≤ 9223372036854775807) (b0 : 0 ≤ n) (b1 : n < 256) : vc21 s n := by
  rw [← vc21_eq]
  simp [-List.getD_eq_getElem?_getD, W_def, by_def]
  have e : W (n.tmod 8) = n % 8 := by rw [Int.tmod_eq_emod_of_nonneg (by omega), W_id (by omega) (by omega)]
  rw [e]
  refine ⟨by simp only [J21, datF]; exact ⟨by omega, by omega, by simp, by simp, rfl⟩, fun o i hJ => ?_⟩
  simp only [J21] at hJ
  obtain ⟨i0, i1, ol, oz, hr⟩ := hJ
  have e2 : W ((o.length : Int) + (s.length : Int)) = (o.length : Int) + (s.length : Int) := W_id (by omega) (by omega)
  have e3 : W (i + 1) = i + 1 := W_id (by omega) (by omega)
  rw [show (9 - i).toNat = (9 - (i + 1)).toNat + 1 by omega, datR_S] at hr
  rw [e2, e3]
  refine ⟨fun h1 => ⟨fun h2 => ⟨by omega, ?_, by omega⟩, fun h2 => ?_⟩, fun h1 => ?_⟩
  · rw [if_pos (by omega)] at hr
    simp only [J21]
    exact ⟨by omega, by omega, by rw [List.length_append]; omega, by omega, hr⟩
  · rw [if_neg (by omega)] at hr; exact hr
  · rw [if_neg (by omega)] at hr; exact hr
theorem com_len (l : List Bs) : (comF l).length = min 12 l.length := by simp [comF]
theorem com_at {l : List Bs} {i : Nat} (h : i < 12) (h2 : i < l.length) : (comF l).getD i [] = datF (l.getD i []) (i : Int) := by
  simp only [comF]
  rw [List.getD_eq_getElem?_getD, List.getElem?_map, List.getElem?_range (by omega)]; rfl
theorem com_all {l : List Bs} : ∀ c ∈ comF l, c.length ≤ 1024 := by
  intro c h
  simp only [comF, List.mem_map] at h
  obtain ⟨i, _, rfl⟩ := h
  exact datF_len ..
theorem take_push {l : List Bs} {i : Nat} (h : i < l.length) : l.take i ++ [l.getD i []] = l.take (i + 1) := by
  rw [List.take_succ_eq_append_getElem h]; simp [List.getD_eq_getElem?_getD, h]
theorem pushS {l : List Bs} {v : Bs} : rowL codS (l.length + 1) (fun j => mergeL (decide (j < l.length)) [SV.str (l.getD j [])] [SV.str v]) = l ++ [v] := rowL_pushE (C := codS)
theorem t12 (l : List Bs) (hl : l.length ≤ 9223372036854775807) (hc : ∀ c ∈ l, c.length ≤ 9223372036854775807) : vc12 l := by
  rw [← vc12_eq]
  simp [-List.getD_eq_getElem?_getD, W_def, by_def]
  have cl := com_len l
  refine ⟨by simp only [J12]; exact ⟨by omega, by omega, by omega, by simp⟩, fun n o hJ => ?_⟩
  simp only [J12] at hJ
  obtain ⟨n0, n1, n2, ho⟩ := hJ
  have e3 : W (n + 1) = n + 1 := W_id (by omega) (by omega)
  have ol : o.length = n.toNat := by rw [ho, List.length_take]; omega
  have fin : n = 12 ∨ n = l.length → o = comF l := fun h => by rw [ho]; exact List.take_of_length_le (by omega)
  rw [e3]
  refine ⟨fun h1 => ⟨fun h2 => ?_, fun h2 => by rw [fin (by omega)]; exact ⟨rfl, fun _ _ => rfl⟩⟩, fun h2 => by rw [fin (by omega)]; exact ⟨rfl, fun _ _ => rfl⟩⟩
  have hu : IntKind.u8.wrap n = n := wrap_u8 (by omega) (by omega)
  rw [hu, pushS]
  refine ⟨by omega, ⟨hc _ (mem_getD (by omega)), by omega, by omega⟩, by omega, ?_, by omega, fun i hi => ?_⟩
  · simp only [J12]
    refine ⟨by omega, by omega, by omega, ?_⟩
    rw [show (n + 1).toNat = n.toNat + 1 by omega, ← take_push (by omega), ← ho, com_at (by omega) (by omega), show ((n.toNat : Nat) : Int) = n by omega]
  · simp only [List.getD_eq_getElem?_getD]
    by_cases h : i < o.length
    · rw [if_pos h, List.getElem?_append_left h]
    · rw [if_neg h, List.getElem?_append_right (by omega), show i - o.length = 0 by omega]; rfl
theorem k21 : TabOK Try.prog T21 := fn_tabA k25 hm Try.func21 (by kernel_rfl) (by kernel_rfl) sSU.ok (by kernel_rfl) (fun a => A21 a.1 a.2) fun a hp => by
  have h := t21 a.1 a.2 hp.1 hp.2.1 hp.2.2
  exact h
theorem k12 : TabOK Try.prog T12 := fn_tabA k21 hm Try.func12 (by kernel_rfl) (by kernel_rfl) sL.ok (by kernel_rfl) (fun a => A12 a) fun a hp => by
  have h := t12 a hp.1 hp.2
  exact h
end Go.Proofs.Nv
