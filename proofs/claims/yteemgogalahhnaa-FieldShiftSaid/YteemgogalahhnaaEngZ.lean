/-
  Numbers of 64 bits, bit by bit.
-/
import Derived.Test.YteemgogalahhnaaEngY
namespace Go.Sx
set_option linter.unusedVariables false
set_option linter.unusedSimpArgs false
open Go

/-- Bit j of a number. -/
def bit (n : Int) (j : Nat) : Bool := (BitVec.ofInt 64 n).getLsbD j
abbrev isU (n : Int) : Prop := 0 ≤ n ∧ n < 18446744073709551616
theorem wrap_u64 {n : Int} (h : isU n) : IntKind.u64.wrap n = n := by
  simp [IntKind.wrap, IntKind.bits, IntKind.signed]; omega
theorem wrap_isU (n : Int) : isU (IntKind.u64.wrap n) := by
  simp [isU, IntKind.wrap, IntKind.bits, IntKind.signed]; omega
theorem toNat_ofInt {n : Int} (h : isU n) : ((BitVec.ofInt 64 n).toNat : Int) = n := by
  rw [BitVec.toNat_ofInt]; omega
theorem ofInt_toNat (b : BitVec 64) : BitVec.ofInt 64 (b.toNat : Int) = b := by
  apply BitVec.eq_of_toNat_eq
  rw [BitVec.toNat_ofInt]
  have := b.isLt; omega
theorem nat_isU (b : BitVec 64) : isU (b.toNat : Int) := by have := b.isLt; exact ⟨by omega, by omega⟩
theorem bits_isU (op : BinOp) (x y : Int) : isU (bits op .u64 x y) := by unfold bits; exact wrap_isU _
theorem bit_ext {n m : Int} (hn : isU n) (hm : isU m) (h : ∀ j, j < 64 → bit n j = bit m j) : n = m := by
  have : BitVec.ofInt 64 n = BitVec.ofInt 64 m := BitVec.eq_of_getLsbD_eq fun i hi => h i hi
  rw [← toNat_ofInt hn, ← toNat_ofInt hm, this]
theorem bits_and_eq (x y : Int) : bits .and .u64 x y = IntKind.u64.wrap ((BitVec.ofInt 64 x &&& BitVec.ofInt 64 y).toNat : Int) := rfl
theorem bits_or_eq (x y : Int) : bits .or .u64 x y = IntKind.u64.wrap ((BitVec.ofInt 64 x ||| BitVec.ofInt 64 y).toNat : Int) := rfl
theorem bits_xor_eq (x y : Int) : bits .xor .u64 x y = IntKind.u64.wrap ((BitVec.ofInt 64 x ^^^ BitVec.ofInt 64 y).toNat : Int) := rfl
theorem bits_andNot_eq (x y : Int) : bits .andNot .u64 x y = IntKind.u64.wrap ((BitVec.ofInt 64 x &&& ~~~BitVec.ofInt 64 y).toNat : Int) := rfl
theorem bit_and (x y : Int) (j : Nat) : bit (bits .and .u64 x y) j = (bit x j && bit y j) := by
  rw [bits_and_eq]
  simp only [bit]
  rw [wrap_u64 (nat_isU _), ofInt_toNat, BitVec.getLsbD_and]
theorem bit_or (x y : Int) (j : Nat) : bit (bits .or .u64 x y) j = (bit x j || bit y j) := by
  rw [bits_or_eq]
  simp only [bit]
  rw [wrap_u64 (nat_isU _), ofInt_toNat, BitVec.getLsbD_or]
theorem bit_xor (x y : Int) (j : Nat) : bit (bits .xor .u64 x y) j = (bit x j ^^ bit y j) := by
  rw [bits_xor_eq]
  simp only [bit]
  rw [wrap_u64 (nat_isU _), ofInt_toNat, BitVec.getLsbD_xor]
theorem bit_andNot (x y : Int) {j : Nat} (hj : j < 64) : bit (bits .andNot .u64 x y) j = (bit x j && !bit y j) := by
  rw [bits_andNot_eq]
  simp only [bit]
  rw [wrap_u64 (nat_isU _), ofInt_toNat, BitVec.getLsbD_and, BitVec.getLsbD_not]
  simp [hj]
theorem bit_ge (n : Int) {j : Nat} (hj : 64 ≤ j) : bit n j = false := by simp [bit, hj]
theorem bit_div {n : Int} (hn : isU n) (i j : Nat) : bit (n / 2 ^ i) j = bit n (i + j) := by
  have h1 : n = ((BitVec.ofInt 64 n).toNat : Int) := (toNat_ofInt hn).symm
  simp only [bit]
  generalize BitVec.ofInt 64 n = b at *
  subst h1
  have e : ((b.toNat : Int) / 2 ^ i) = ((b >>> i).toNat : Int) := by
    rw [BitVec.toNat_ushiftRight, Nat.shiftRight_eq_div_pow]; simp
  rw [e, ofInt_toNat, BitVec.getLsbD_ushiftRight]
theorem div_isU {n : Int} (hn : isU n) (i : Nat) : isU (n / 2 ^ i) := by
  have h2 : (0 : Int) < 2 ^ i := Int.pow_pos (by omega)
  refine ⟨Int.ediv_nonneg hn.1 (by omega), ?_⟩
  have := Int.ediv_le_self (2 ^ i) hn.1
  omega
theorem bit_shl {n : Int} (hn : isU n) (i : Nat) {j : Nat} (hj : j < 64) : bit (IntKind.u64.wrap (n * 2 ^ i)) j = (decide (i ≤ j) && bit n (j - i)) := by
  have h1 : n = ((BitVec.ofInt 64 n).toNat : Int) := (toNat_ofInt hn).symm
  simp only [bit]
  generalize BitVec.ofInt 64 n = b at *
  subst h1
  have e : IntKind.u64.wrap ((b.toNat : Int) * 2 ^ i) = ((b <<< i).toNat : Int) := by
    rw [BitVec.toNat_shiftLeft, Nat.shiftLeft_eq]
    simp [IntKind.wrap, IntKind.bits, IntKind.signed]
  rw [e, ofInt_toNat, BitVec.getLsbD_shiftLeft]
  by_cases h : i ≤ j
  · simp [h, hj, show ¬ j < i by omega]
  · simp [h, show j < i by omega]
theorem bit_one (j : Nat) : bit 1 j = decide (j = 0) := by
  simp only [bit]
  have : BitVec.ofInt 64 1 = 1#64 := rfl
  rw [this]
  simp [BitVec.getLsbD_one]
theorem bit_zero (j : Nat) : bit 0 j = false := by
  simp only [bit]
  have : BitVec.ofInt 64 0 = 0#64 := rfl
  rw [this]; simp
theorem bit_not (x : Int) {j : Nat} (hj : j < 64) : bit (bits .xor .u64 18446744073709551615 x) j = !bit x j := by
  rw [bit_xor]
  have : bit 18446744073709551615 j = true := by
    simp only [bit]
    have : BitVec.ofInt 64 18446744073709551615 = BitVec.allOnes 64 := rfl
    rw [this, BitVec.getLsbD_allOnes]; simpa using hj
  rw [this]; simp
/-- One bit, got out. -/
theorem get_bit {n : Int} (hn : isU n) {i : Nat} (hi : i < 64) : bits .and .u64 (n / 2 ^ i) 1 = if bit n i then 1 else 0 := by
  apply bit_ext (bits_isU _ _ _) (by split <;> exact ⟨by omega, by omega⟩)
  intro j hj
  rw [bit_and, bit_div hn, bit_one]
  by_cases h0 : j = 0
  · subst h0
    cases hb : bit n i <;> simp [hb, bit_one, bit_zero]
  · cases hb : bit n i <;> simp [h0, bit_one, bit_zero]
theorem isU_one : isU 1 := ⟨by omega, by omega⟩
theorem isU_zero : isU 0 := ⟨by omega, by omega⟩
/-- A number with the one bit i. -/
theorem bit_unit {i : Nat} {j : Nat} (hj : j < 64) : bit (IntKind.u64.wrap (1 * 2 ^ i)) j = decide (i = j) := by
  rw [bit_shl isU_one i hj, bit_one]
  by_cases h : i = j
  · subst h; simp
  · by_cases h2 : i ≤ j
    · simp [h, h2]; omega
    · simp [h, h2]
end Go.Sx
