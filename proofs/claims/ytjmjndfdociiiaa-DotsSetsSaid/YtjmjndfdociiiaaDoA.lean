import Derived.Test.YtjmjndfdociiiaaEngZ
import Derived.Test.YtjmjndfdociiiaaProg
namespace Go.Proofs.Do
set_option linter.unusedVariables false
set_option linter.unusedSimpArgs false
open Go Go.Sx Go.Proofs
/-! Numbers out of their bits; frames by levels. -/
def ofN : Nat → (Nat → Bool) → Nat
  | 0, _ => 0
  | n + 1, p => (if p 0 then 1 else 0) + 2 * ofN n fun i => p (i + 1)
theorem ofN_testBit : ∀ (n : Nat) (p : Nat → Bool) (j : Nat), (ofN n p).testBit j = (decide (j < n) && p j)
  | 0, p, j => by simp [ofN]
  | n + 1, p, 0 => by
    simp only [ofN, Nat.testBit_zero]
    cases p 0 <;> simp <;> omega
  | n + 1, p, j + 1 => by
    rw [Nat.testBit_succ]
    have : ofN (n + 1) p / 2 = ofN n fun i => p (i + 1) := by
      simp only [ofN]; split <;> omega
    rw [this, ofN_testBit n]
    simp
theorem ofN_lt : ∀ (n : Nat) (p : Nat → Bool), ofN n p < 2 ^ n
  | 0, p => by simp [ofN]
  | n + 1, p => by
    have := ofN_lt n fun i => p (i + 1)
    simp only [ofN, Nat.pow_succ]; split <;> omega
def ofB (p : Nat → Bool) : Int := (ofN 64 p : Nat)
theorem ofB_isU (p : Nat → Bool) : isU (ofB p) := by
  have := ofN_lt 64 p
  simp only [ofB]; constructor <;> omega
theorem bit_nat (n j : Nat) (hj : j < 64) : bit (n : Int) j = n.testBit j := by
  simp only [bit, BitVec.getLsbD, BitVec.toNat_ofInt]
  have : ((n : Int) % (2 ^ 64 : Nat)).toNat = n % 2 ^ 64 := by omega
  rw [this, Nat.testBit_mod_two_pow]; simp [hj]
theorem bit_ofB (p : Nat → Bool) {j : Nat} (hj : j < 64) : bit (ofB p) j = p j := by
  rw [ofB, bit_nat _ _ hj, ofN_testBit]; simp [hj]
structure Fr where
  low : List Int
  high : List Int
  deriving DecidableEq
def okF (f : Fr) : Prop := f.low.length = 16 ∧ f.high.length = 16 ∧ (∀ y, y < 16 → isU (f.low.getD y 0)) ∧ ∀ y, y < 16 → isU (f.high.getD y 0)
def lb (f : Fr) (y x : Nat) : Bool := bit (f.low.getD y 0) x
def hb (f : Fr) (y x : Nat) : Bool := bit (f.high.getD y 0) x
def mkF (p q : Nat → Nat → Bool) : Fr := ⟨(List.range 16).map fun y => ofB (p y), (List.range 16).map fun y => ofB (q y)⟩
theorem map16 {p : Nat → Int} {y : Nat} (hy : y < 16) : ((List.range 16).map p).getD y 0 = p y := by
  simp [List.getD_eq_getElem?_getD, hy]
theorem mkF_ok (p q : Nat → Nat → Bool) : okF (mkF p q) := ⟨by simp [mkF], by simp [mkF], fun y hy => by simp only [mkF]; rw [map16 hy]; exact ofB_isU _, fun y hy => by simp only [mkF]; rw [map16 hy]; exact ofB_isU _⟩
theorem lb_mkF {p q : Nat → Nat → Bool} {y x : Nat} (hy : y < 16) (hx : x < 64) : lb (mkF p q) y x = p y x := by
  simp only [lb, mkF]; rw [map16 hy, bit_ofB _ hx]
theorem hb_mkF {p q : Nat → Nat → Bool} {y x : Nat} (hy : y < 16) (hx : x < 64) : hb (mkF p q) y x = q y x := by
  simp only [hb, mkF]; rw [map16 hy, bit_ofB _ hx]
theorem list_ext16 {a b : List Int} (h1 : a.length = 16) (h2 : b.length = 16) (h : ∀ j, j < 16 → a.getD j 0 = b.getD j 0) : a = b := by
  refine List.ext_getElem (by omega) fun i hi hj => ?_
  have := h i (by omega)
  simpa [List.getD_eq_getElem?_getD, hi, hj] using this
theorem fr_ext {f g : Fr} (hf : okF f) (hg : okF g) (h : ∀ y x, y < 16 → x < 64 → lb f y x = lb g y x ∧ hb f y x = hb g y x) : f = g := by
  obtain ⟨f1, f2, f3, f4⟩ := hf
  obtain ⟨g1, g2, g3, g4⟩ := hg
  cases f; cases g
  simp only [Fr.mk.injEq]
  exact ⟨list_ext16 f1 g1 fun j hj => bit_ext (f3 j hj) (g3 j hj) fun x hx => (h j x hj hx).1, list_ext16 f2 g2 fun j hj => bit_ext (f4 j hj) (g4 j hj) fun x hx => (h j x hj hx).2⟩
/-- The level of a dot. -/
def lvOf : Bool → Bool → Int
  | false, false => 0
  | true, false => 1
  | false, true => 2
  | true, true => 3
def lv (f : Fr) (y x : Nat) : Int := lvOf (lb f y x) (hb f y x)
theorem lvOf_bd : ∀ a b, 0 ≤ lvOf a b ∧ lvOf a b ≤ 3 := by decide
theorem lvOf_l : ∀ a b, a = decide (lvOf a b = 1 ∨ lvOf a b = 3) := by decide
theorem lvOf_h : ∀ a b, b = decide (2 ≤ lvOf a b) := by decide
theorem lv_bd (f : Fr) (y x : Nat) : 0 ≤ lv f y x ∧ lv f y x ≤ 3 := lvOf_bd _ _
theorem lb_lv (f : Fr) (y x : Nat) : lb f y x = decide (lv f y x = 1 ∨ lv f y x = 3) := lvOf_l _ _
theorem hb_lv (f : Fr) (y x : Nat) : hb f y x = decide (2 ≤ lv f y x) := lvOf_h _ _
/-- The frame with these levels. -/
def mkL (L : Nat → Nat → Int) : Fr := mkF (fun y x => decide (L y x = 1 ∨ L y x = 3)) fun y x => decide (2 ≤ L y x)
theorem mkL_ok (L : Nat → Nat → Int) : okF (mkL L) := mkF_ok _ _
theorem lv_mkL {L : Nat → Nat → Int} {y x : Nat} (hy : y < 16) (hx : x < 64) (h : 0 ≤ L y x ∧ L y x ≤ 3) : lv (mkL L) y x = L y x := by
  have e1 : lb (mkL L) y x = decide (L y x = 1 ∨ L y x = 3) := lb_mkF hy hx
  have e2 : hb (mkL L) y x = decide (2 ≤ L y x) := hb_mkF hy hx
  simp only [lv]
  rw [e1, e2]
  rcases (show L y x = 0 ∨ L y x = 1 ∨ L y x = 2 ∨ L y x = 3 by omega) with e | e | e | e <;> rw [e] <;> rfl
theorem lv_ext {f g : Fr} (hf : okF f) (hg : okF g) (h : ∀ y x, y < 16 → x < 64 → lv f y x = lv g y x) : f = g :=
  fr_ext hf hg fun y x hy hx => by rw [lb_lv, lb_lv, hb_lv, hb_lv, h y x hy hx]; exact ⟨rfl, rfl⟩
theorem mkL_lv {f : Fr} (h : okF f) : mkL (lv f) = f := lv_ext (mkL_ok _) h fun y x hy hx => lv_mkL hy hx (lv_bd f y x)
theorem mkL_congr {L M : Nat → Nat → Int} (h : ∀ y x, y < 16 → x < 64 → L y x = M y x) : mkL L = mkL M :=
  fr_ext (mkL_ok _) (mkL_ok _) fun y x hy hx => by
    simp only [mkL]
    rw [lb_mkF hy hx, lb_mkF hy hx, hb_mkF hy hx, hb_mkF hy hx, h y x hy hx]; exact ⟨rfl, rfl⟩
/-- A thing is itself: a short name in printed conditions. -/
def sm {α : Type} (x : α) : Prop := x = x
@[simp] theorem sm_iff {α : Type} (x : α) : sm x ↔ True := ⟨fun _ => trivial, fun _ => rfl⟩
def t16 : Prop := ∀ i : Nat, i < 16 → true = true
@[simp] theorem t16_iff : t16 ↔ True := ⟨fun _ => trivial, fun _ _ _ => rfl⟩
attribute [irreducible] lb hb lv mkF mkL ofB okF
end Go.Proofs.Do
