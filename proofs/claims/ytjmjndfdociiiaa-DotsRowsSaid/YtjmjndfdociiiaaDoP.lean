import Derived.Test.YtjmjndfdociiiaaDoA
namespace Go.Proofs.Do
set_option linter.unusedVariables false
set_option linter.unusedSimpArgs false
open Go Go.Sx Go.Proofs
/-! Counting the ones of a number of 64 bits by digits in base 2, 4, 16 and 256. -/
def cN (p : Nat → Bool) : Nat → Int
  | 0 => 0
  | n + 1 => cN p n + if p n then 1 else 0
def val (B : Nat) : List Nat → Nat
  | [] => 0
  | d :: r => d + B * val B r
def evens : List Nat → List Nat
  | [] => []
  | [a] => [a]
  | a :: _ :: r => a :: evens r
def pairs : List Nat → List Nat
  | [] => []
  | [a] => [a]
  | a :: b :: r => (a + b) :: pairs r
def addT : List Nat → List Nat
  | [] => []
  | [a] => [a]
  | a :: b :: r => (a + b) :: addT (b :: r)
def msk (w : Nat) : Nat → Nat
  | 0 => 0
  | n + 1 => (2 ^ w - 1) + 2 ^ (2 * w) * msk w n
theorem and_split {k a c r d : Nat} (ha : a < 2 ^ k) (hc : c < 2 ^ k) : (a + 2 ^ k * r) &&& (c + 2 ^ k * d) = (a &&& c) + 2 ^ k * (r &&& d) := by
  apply Nat.eq_of_testBit_eq
  intro j
  have hac : a &&& c < 2 ^ k := Nat.lt_of_le_of_lt Nat.and_le_left ha
  rw [Nat.testBit_and, Nat.add_comm a, Nat.add_comm c, Nat.add_comm (a &&& c), Nat.testBit_two_pow_mul_add _ ha, Nat.testBit_two_pow_mul_add _ hc, Nat.testBit_two_pow_mul_add _ hac]
  split
  · rw [Nat.testBit_and]
  · rw [Nat.testBit_and]
theorem val_mask (w : Nat) : ∀ (n : Nat) (l : List Nat), l.length ≤ 2 * n → (∀ d, d ∈ l → d < 2 ^ w) → val (2 ^ w) l &&& msk w n = val (2 ^ (2 * w)) (evens l)
  | 0, [], _, _ => by simp [val, evens, msk]
  | 0, _ :: _, h, _ => by simp at h
  | n + 1, [], _, _ => by simp [val, evens]
  | n + 1, [a], _, hb => by
    have ha : a < 2 ^ w := hb a (by simp)
    have h2 : (2 : Nat) ^ w ≤ 2 ^ (2 * w) := Nat.pow_le_pow_right (by omega) (by omega)
    have h3 : 0 < 2 ^ w := Nat.two_pow_pos w
    have := and_split (k := 2 * w) (a := a) (c := 2 ^ w - 1) (r := 0) (d := msk w n) (by omega) (by omega)
    simp only [val, evens, msk, Nat.mul_zero, Nat.add_zero] at this ⊢
    rw [this, Nat.and_two_pow_sub_one_eq_mod, Nat.mod_eq_of_lt ha, Nat.zero_and]; simp
  | n + 1, a :: b :: r, hl, hb => by
    have ha : a < 2 ^ w := hb a (by simp)
    have hb' : b < 2 ^ w := hb b (by simp)
    have h3 : 0 < 2 ^ w := Nat.two_pow_pos w
    have e2 : (2 : Nat) ^ (2 * w) = 2 ^ w * 2 ^ w := by rw [Nat.two_mul, Nat.pow_add]
    have h1 : a + 2 ^ w * b < 2 ^ (2 * w) := by
      rw [e2]
      have : 2 ^ w * (b + 1) ≤ 2 ^ w * 2 ^ w := Nat.mul_le_mul_left _ hb'
      rw [Nat.mul_add] at this; omega
    have h4 : 2 ^ w - 1 < 2 ^ (2 * w) := by
      have : (2 : Nat) ^ w ≤ 2 ^ (2 * w) := Nat.pow_le_pow_right (by omega) (by omega)
      omega
    have := and_split (k := 2 * w) (r := val (2 ^ w) r) (d := msk w n) h1 h4
    simp only [val, evens, msk]
    have e : a + 2 ^ w * (b + 2 ^ w * val (2 ^ w) r) = a + 2 ^ w * b + 2 ^ (2 * w) * val (2 ^ w) r := by
      rw [e2, Nat.mul_add, Nat.mul_assoc]; omega
    rw [e, this, val_mask w n r (by simp at hl; omega) (fun d hd => hb d (by simp [hd])), Nat.and_two_pow_sub_one_eq_mod, Nat.add_mul_mod_self_left, Nat.mod_eq_of_lt ha]
theorem val_div {B d : Nat} {r : List Nat} (h : d < B) : val B (d :: r) / B = val B r := by
  simp only [val]
  rw [Nat.add_mul_div_left _ _ (by omega), Nat.div_eq_of_lt h, Nat.zero_add]
theorem val_tail {B : Nat} {l : List Nat} (hB : 0 < B) (h : ∀ d, d ∈ l → d < B) : val B l / B = val B l.tail := by
  cases l with
  | nil => simp [val]
  | cons d r => exact val_div (h d (by simp))
theorem evens_cons (b : Nat) (r : List Nat) : evens (b :: r) = b :: evens r.tail := by cases r <;> rfl
theorem val_pairs (B : Nat) : ∀ l : List Nat, val B (evens l.tail) + val B (evens l) = val B (pairs l)
  | [] => by simp [val, evens, pairs]
  | [a] => by simp [val, evens, pairs]
  | a :: b :: r => by
    have := val_pairs B r
    rw [List.tail_cons, evens_cons b r]
    simp only [val, evens, pairs]
    rw [← this, Nat.mul_add]; omega
theorem val_addT (B : Nat) : ∀ l : List Nat, val B l.tail + val B l = val B (addT l)
  | [] => by simp [val, addT]
  | [a] => by simp [val, addT]
  | a :: b :: r => by
    have := val_addT B (b :: r)
    simp only [List.tail_cons, val, addT] at this ⊢
    rw [← this, Nat.mul_add B (val B r)]; omega
theorem evens_addT : ∀ l : List Nat, evens (addT l) = pairs l
  | [] => rfl
  | [a] => rfl
  | [a, b] => rfl
  | a :: b :: c :: r => by
    simp only [addT, pairs]
    rw [evens_cons]
    have : (addT (c :: r)) = addT (c :: r) := rfl
    simp only [List.tail_cons, evens_addT (c :: r), pairs]
theorem pairs_le {c : Nat} : ∀ l : List Nat, (∀ d, d ∈ l → d ≤ c) → ∀ d, d ∈ pairs l → d ≤ 2 * c
  | [], _, d, h => by simp [pairs] at h
  | [a], hl, d, h => by simp [pairs] at h; have := hl a (by simp); omega
  | a :: b :: r, hl, d, h => by
    simp only [pairs, List.mem_cons] at h
    rcases h with rfl | h
    · have h1 := hl a (by simp); have h2 := hl b (by simp); omega
    · exact pairs_le r (fun d hd => hl d (by simp [hd])) d h
theorem addT_le {c : Nat} : ∀ l : List Nat, (∀ d, d ∈ l → d ≤ c) → ∀ d, d ∈ addT l → d ≤ 2 * c
  | [], _, d, h => by simp [addT] at h
  | [a], hl, d, h => by simp [addT] at h; have := hl a (by simp); omega
  | a :: b :: r, hl, d, h => by
    simp only [addT, List.mem_cons] at h
    rcases h with rfl | h
    · have h1 := hl a (by simp); have h2 := hl b (by simp); omega
    · exact addT_le (b :: r) (fun d hd => hl d (by simp at hd ⊢; exact .inr hd)) d h
theorem pairs_len : ∀ l : List Nat, (pairs l).length = (l.length + 1) / 2
  | [] => by simp [pairs]
  | [a] => by simp [pairs]
  | a :: b :: r => by simp only [pairs, List.length_cons, pairs_len r]; omega
theorem addT_len : ∀ l : List Nat, (addT l).length = l.length
  | [] => rfl
  | [a] => rfl
  | a :: b :: r => by simp only [addT, List.length_cons, addT_len (b :: r)]
theorem pairs_sum : ∀ l : List Nat, (pairs l).sum = l.sum
  | [] => rfl
  | [a] => rfl
  | a :: b :: r => by simp only [pairs, List.sum_cons, pairs_sum r]; omega
/-- The steps of the count. -/
def pop1 (x : Nat) : Nat := (x / 2 &&& 6148914691236517205) + (x &&& 6148914691236517205)
def pop2 (x : Nat) : Nat := (x / 4 &&& 3689348814741910323) + (x &&& 3689348814741910323)
def pop3 (x : Nat) : Nat := (x / 16 + x) &&& 1085102592571150095
theorem pop1_val {l : List Nat} (hl : l.length = 64) (hb : ∀ d, d ∈ l → d ≤ 1) : pop1 (val 2 l) = val 4 (pairs l) := by
  have h1 := val_mask 1 32 l (by omega) (fun d hd => by have := hb d hd; omega)
  have h2 := val_mask 1 32 l.tail (by simp; omega) (fun d hd => by have := hb d (List.mem_of_mem_tail hd); omega)
  have e : msk 1 32 = 6148914691236517205 := by decide +kernel
  simp only [Nat.pow_one, e, Nat.mul_one] at h1 h2
  rw [pop1, val_tail (by omega) (fun d hd => by have := hb d hd; omega), h1, h2]
  exact val_pairs 4 l
theorem pop2_val {l : List Nat} (hl : l.length = 32) (hb : ∀ d, d ∈ l → d ≤ 2) : pop2 (val 4 l) = val 16 (pairs l) := by
  have h1 := val_mask 2 16 l (by omega) (fun d hd => by have := hb d hd; omega)
  have h2 := val_mask 2 16 l.tail (by simp; omega) (fun d hd => by have := hb d (List.mem_of_mem_tail hd); omega)
  have e : msk 2 16 = 3689348814741910323 := by decide +kernel
  simp only [e] at h1 h2
  rw [pop2, val_tail (by omega) (fun d hd => by have := hb d hd; omega)]
  exact (by rw [h2, h1] : _ = val 16 (evens l.tail) + val 16 (evens l)).trans (val_pairs 16 l)
theorem pop3_val {l : List Nat} (hl : l.length = 16) (hb : ∀ d, d ∈ l → d ≤ 4) : pop3 (val 16 l) = val 256 (pairs l) := by
  have h1 := val_mask 4 8 (addT l) (by rw [addT_len]; omega) (fun d hd => by have := addT_le l hb d hd; omega)
  have e : msk 4 8 = 1085102592571150095 := by decide +kernel
  simp only [e] at h1
  rw [pop3, val_tail (by omega) (fun d hd => by have := hb d hd; omega), val_addT, ← evens_addT]
  exact h1
theorem pop4_val {l : List Nat} (hl : l.length = 8) (hb : ∀ d, d ∈ l → d ≤ 8) : ∀ w w1 w2 w3, w = val 256 l → w1 = w + w / 256 → w2 = w1 + w1 / 65536 → w3 = w2 + w2 / 4294967296 → w3 < 18446744073709551616 ∧ w3 % 128 = l.sum := by
  match l, hl with
  | [c0, c1, c2, c3, c4, c5, c6, c7], _ =>
    intro w w1 w2 w3 h0 h1 h2 h3
    simp only [List.mem_cons, List.not_mem_nil, or_false, forall_eq_or_imp, forall_eq] at hb
    obtain ⟨b0, b1, b2, b3, b4, b5, b6, b7⟩ := hb
    simp only [val] at h0
    simp only [List.sum_cons, List.sum_nil]
    have d1 : w / 256 = c1 + 256 * (c2 + 256 * (c3 + 256 * (c4 + 256 * (c5 + 256 * (c6 + 256 * c7))))) := by omega
    rw [d1] at h1
    have e1 : w1 = (c0 + c1) + 256 * (c1 + c2 + 256 * (c2 + c3 + 256 * (c3 + c4 + 256 * (c4 + c5 + 256 * (c5 + c6 + 256 * (c6 + c7 + 256 * c7)))))) := by omega
    clear d1 h1 h0
    have d2 : w1 / 65536 = (c2 + c3 + 256 * (c3 + c4 + 256 * (c4 + c5 + 256 * (c5 + c6 + 256 * (c6 + c7 + 256 * c7))))) := by omega
    rw [d2] at h2
    have e2 : w2 = (c0 + c1 + c2 + c3) + 256 * (c1 + c2 + c3 + c4 + 256 * (c2 + c3 + c4 + c5 + 256 * (c3 + c4 + c5 + c6 + 256 * (c4 + c5 + c6 + c7 + 256 * (c5 + c6 + c7 + 256 * (c6 + c7 + 256 * c7)))))) := by omega
    clear d2 h2 e1
    have d3 : w2 / 4294967296 = (c4 + c5 + c6 + c7 + 256 * (c5 + c6 + c7 + 256 * (c6 + c7 + 256 * c7))) := by omega
    rw [d3] at h3
    clear d3
    constructor
    · omega
    · omega
def bl : Nat → (Nat → Bool) → List Nat
  | 0, _ => []
  | n + 1, p => (if p 0 then 1 else 0) :: bl n fun i => p (i + 1)
theorem bl_len : ∀ n p, (bl n p).length = n
  | 0, _ => rfl
  | n + 1, p => by simp only [bl, List.length_cons, bl_len n]
theorem bl_le : ∀ n p d, d ∈ bl n p → d ≤ 1
  | 0, _, d, h => by simp [bl] at h
  | n + 1, p, d, h => by
    simp only [bl, List.mem_cons] at h
    rcases h with rfl | h
    · split <;> omega
    · exact bl_le n _ d h
theorem bl_val : ∀ n p, val 2 (bl n p) = ofN n p
  | 0, _ => rfl
  | n + 1, p => by simp only [bl, val, ofN, bl_val n]
theorem cN_front (p : Nat → Bool) : ∀ n, cN p (n + 1) = (if p 0 then 1 else 0) + cN (fun i => p (i + 1)) n
  | 0 => by simp [cN]
  | n + 1 => by rw [cN, cN_front p n, cN]; omega
theorem bl_sum : ∀ n p, ((bl n p).sum : Int) = cN p n
  | 0, _ => rfl
  | n + 1, p => by
    rw [cN_front, ← bl_sum n]
    simp only [bl, List.sum_cons]
    split <;> simp
theorem cN_bd (p : Nat → Bool) : ∀ n : Nat, 0 ≤ cN p n ∧ cN p n ≤ n
  | 0 => by simp [cN]
  | n + 1 => by have := cN_bd p n; simp only [cN]; split <;> omega
theorem cN_congr {p q : Nat → Bool} : ∀ {n : Nat}, (∀ j, j < n → p j = q j) → cN p n = cN q n
  | 0, _ => rfl
  | n + 1, h => by simp only [cN]; rw [cN_congr fun j hj => h j (by omega), h n (by omega)]
theorem ofB_bit {x : Int} (h : isU x) : ofB (bit x) = x := bit_ext (ofB_isU _) h fun j hj => bit_ofB _ hj
/-- The whole count, on natural numbers. -/
theorem pop_all (p : Nat → Bool) : ∀ a b c w1 w2 w3 : Nat, a = pop1 (ofN 64 p) → b = pop2 a → c = pop3 b → w1 = c + c / 256 → w2 = w1 + w1 / 65536 → w3 = w2 + w2 / 4294967296 →
    a < 18446744073709551616 ∧ b < 18446744073709551616 ∧ b / 16 + b < 18446744073709551616 ∧ c < 18446744073709551616 ∧ w3 < 18446744073709551616 ∧ ((w3 % 128 : Nat) : Int) = cN p 64 := by
  intro a b c w1 w2 w3 ha hb hc h1 h2 h3
  have m0 := bl_le 64 p
  have m1 := pairs_le _ m0
  have m2 := pairs_le _ m1
  have m3 := pairs_le _ m2
  have n1 : (pairs (bl 64 p)).length = 32 := by rw [pairs_len, bl_len]
  have n2 : (pairs (pairs (bl 64 p))).length = 16 := by rw [pairs_len, n1]
  have n3 : (pairs (pairs (pairs (bl 64 p)))).length = 8 := by rw [pairs_len, n2]
  rw [← bl_val, pop1_val (bl_len 64 p) m0] at ha
  rw [ha, pop2_val n1 m1] at hb
  rw [hb, pop3_val n2 m2] at hc
  have := pop4_val n3 m3 c w1 w2 w3 hc h1 h2 h3
  have vb : ∀ (k : Nat) (l : List Nat) (B : Nat), l.length = k → 0 < B → (∀ d, d ∈ l → d < B) → val B l < B ^ k := by
    intro k
    induction k with
    | zero => intro l B hl hB h; cases l with
      | nil => simp [val]
      | cons => simp at hl
    | succ k ih => intro l B hl hB h; cases l with
      | nil => simp at hl
      | cons d r =>
        have i := ih r B (by simpa using hl) hB fun d hd => h d (by simp [hd])
        have h0 := h d (by simp)
        simp only [val, Nat.pow_succ]
        have : B * (val B r + 1) ≤ B * B ^ k := Nat.mul_le_mul_left _ i
        rw [Nat.mul_add] at this
        rw [Nat.mul_comm (B ^ k)]; omega
  have v1 := vb 32 _ 4 n1 (by omega) fun d hd => by have := m1 d hd; omega
  have v2 := vb 16 _ 16 n2 (by omega) fun d hd => by have := m2 d hd; omega
  have v2' := vb 16 _ 16 (by rw [addT_len]; exact n2) (by omega) fun d hd => by have := addT_le _ m2 d hd; omega
  have v3 := vb 8 _ 256 n3 (by omega) fun d hd => by have := m3 d hd; omega
  rw [← ha] at v1
  rw [← hb] at v2
  rw [← hc] at v3
  have e : b / 16 + b = val 16 (addT (pairs (pairs (bl 64 p)))) := by
    rw [hb, val_tail (by omega) (fun d hd => by have := m2 d hd; omega), val_addT]
  rw [← e] at v2'
  refine ⟨by omega, by omega, by omega, by omega, this.1, ?_⟩
  rw [this.2, pairs_sum, pairs_sum, pairs_sum, bl_sum]
theorem and_nat {a b : Nat} (ha : a < 18446744073709551616) (hb : b < 18446744073709551616) : bits .and .u64 (a : Int) (b : Int) = ((a &&& b : Nat) : Int) := by
  rw [bits_and_eq, BitVec.toNat_and, BitVec.toNat_ofInt, BitVec.toNat_ofInt]
  have e1 : ((a : Int) % (2 ^ 64 : Nat)).toNat = a := by omega
  have e2 : ((b : Int) % (2 ^ 64 : Nat)).toNat = b := by omega
  rw [e1, e2]
  exact wrap_u64 ⟨by omega, by have : a &&& b ≤ a := Nat.and_le_left; omega⟩
end Go.Proofs.Do
