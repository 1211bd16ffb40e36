/-
  The operations' soundness, sixth part: binary operators, whole aggregates compared.
-/
import Derived.Test.YteemgogalahhnaaEngH
namespace Go.Sx
set_option linter.unusedVariables false
set_option linter.unusedSimpArgs false
open Go Go.RowKit

def vEq : Value → Value → Bool
  | .int _ x, .int _ y => x == y
  | .bool x, .bool y => x == y
  | .string x, .string y => x == y
  | _, _ => false
def KV : CK → Value → Prop
  | .int k, .int k' _ => k = k'
  | .bool, .bool _ => True
  | .str, .string _ => True
  | _, _ => False
def allEq (xs ys : Array Value) (off n : Nat) : Bool := (List.range n).all fun k => vEq (xs.getD (off + k) undef) (ys.getD (off + k) undef)
theorem allEq_append (xs ys : Array Value) (off m n : Nat) : allEq xs ys off (m + n) = (allEq xs ys off m && allEq xs ys (off + m) n) := by
  simp only [allEq, List.range_add, List.all_append, List.all_map]
  congr 1
  congr 1
  funext k
  simp [Nat.add_assoc]
/-- Cells off, .., off + ks.length - 1 have the kinds ks. -/
def Typed (xs : Array Value) (off : Nat) (ks : List CK) : Prop := off + ks.length ≤ xs.size ∧ ∀ (k : Nat) (c : CK), ks[k]? = some c → KV c (xs.getD (off + k) undef)
theorem Typed.left {xs : Array Value} {off : Nat} {k1 k2 : List CK} (h : Typed xs off (k1 ++ k2)) : Typed xs off k1 :=
  ⟨by have := h.1; simp at this; omega, fun k c hk => h.2 k c (by rw [List.getElem?_append_left (List.getElem?_eq_some_iff.1 hk).1]; exact hk)⟩
theorem Typed.right {xs : Array Value} {off : Nat} {k1 k2 : List CK} (h : Typed xs off (k1 ++ k2)) : Typed xs (off + k1.length) k2 :=
  ⟨by have := h.1; simp at this; omega, fun k c hk => by rw [Nat.add_assoc]; exact h.2 (k1.length + k) c (by rw [List.getElem?_append_right (by omega)]; simpa using hk)⟩
theorem Typed.extract {xs : Array Value} {off n : Nat} {ks : List CK} (h : Typed xs off ks) (hn : n = ks.length) : Typed (xs.extract off (off + n)) 0 ks := by
  subst hn
  refine ⟨by have := h.1; simp; omega, fun k c hk => ?_⟩
  have hlt := (List.getElem?_eq_some_iff.1 hk).1
  have := h.2 k c hk
  have e : (xs.extract off (off + ks.length)).getD (0 + k) undef = xs.getD (off + k) undef := by
    rw [Nat.zero_add, Array.getD_eq_getD_getElem?, Array.getElem?_extract, if_pos (by have := h.1; omega), Array.getD_eq_getD_getElem?]
  rw [e]; exact this
theorem allEq_extract {xs ys : Array Value} {off n : Nat} (hx : off + n ≤ xs.size) (hy : off + n ≤ ys.size) : allEq (xs.extract off (off + n)) (ys.extract off (off + n)) 0 n = allEq xs ys off n := by
  simp only [allEq]
  have : ∀ k ∈ List.range n, vEq ((xs.extract off (off + n)).getD (0 + k) undef) ((ys.extract off (off + n)).getD (0 + k) undef) = vEq (xs.getD (off + k) undef) (ys.getD (off + k) undef) := by
    intro k hk
    have hk := List.mem_range.1 hk
    have e : ∀ zs : Array Value, off + n ≤ zs.size → (zs.extract off (off + n)).getD (0 + k) undef = zs.getD (off + k) undef := by
      intro zs hz
      rw [Nat.zero_add, Array.getD_eq_getD_getElem?, Array.getElem?_extract, if_pos (by omega), Array.getD_eq_getD_getElem?]
    rw [e xs hx, e ys hy]
  rw [Bool.eq_iff_iff, List.all_eq_true, List.all_eq_true]
  exact ⟨fun h k hk => by rw [← this k hk]; exact h k hk, fun h k hk => by rw [this k hk]; exact h k hk⟩

section
variable {P : Program} (w : World)
/-- The value in cells off.. of type T. -/
theorem cmp_part {T : TypeId} {ks : List CK} {n : Nat} {agg : Bool} (hagg : isAggT P T = some agg) (hn : sizeT P T = some n) (hl : ks.length = n) {xs : Array Value} {off : Nat} (hx : Typed xs off ks) (h1 : agg = false → n = 1) :
    (part T xs off).run P w = .ok (if agg then .agg (xs.extract off (off + n)) else xs.getD off undef) w := by
  cases agg with
  | true => simpa using run_part_agg hagg hn xs off
  | false =>
    have := h1 rfl
    simpa using run_part_one hagg xs off (by have := hx.1; omega)
theorem cmp_len : ∀ {d : Nat} {T : TypeId} {ks : List CK}, cmpKinds P d T = some ks → ∃ agg, isAggT P T = some agg ∧ (agg = false → ks.length = 1)
  | 0, _, _, h => by simp [cmpKinds] at h
  | d + 1, T, ks, h => by
    unfold cmpKinds at h
    unfold isAggT
    split at h
    · rename_i hu; simp at h; subst h; exact ⟨false, by simp [hu], by simp⟩
    · rename_i hu; simp at h; subst h; exact ⟨false, by simp [hu], by simp⟩
    · rename_i hu; simp at h; subst h; exact ⟨false, by simp [hu], by simp⟩
    · rename_i hu; exact ⟨true, by simp [hu], by simp⟩
    · rename_i hu; exact ⟨true, by simp [hu], by simp⟩
    · cases h
/-- What '==' says of two values of a comparable type. -/
def eqVal (agg : Bool) (n : Nat) (x y : Value) : Bool := if agg then allEq x.cells y.cells 0 n else vEq x y
theorem run_equalIn : ∀ (d : Nat) (T : TypeId) (ks : List CK) (n : Nat) (agg : Bool), cmpKinds P d T = some ks → isAggT P T = some agg → n = ks.length → ∀ (D : Nat), d ≤ D →
    ∀ (xs ys : Array Value) (off : Nat), Typed xs off ks → Typed ys off ks →
    (Op.equalIn D T (if agg then .agg (xs.extract off (off + n)) else xs.getD off undef) (if agg then .agg (ys.extract off (off + n)) else ys.getD off undef)).run P w = .ok (allEq xs ys off n) w
  | 0, _, _, _, _, h, _, _, _, _, _, _, _, _, _ => by simp [cmpKinds] at h
  | d + 1, T, ks, n, agg, h, hagg, hn, D, hD, xs, ys, off, hx, hy => by
    obtain ⟨D, rfl⟩ : ∃ D', D = D' + 1 := ⟨D - 1, by omega⟩
    have one : ∀ c, ks = [c] → agg = false → KV c (xs.getD off undef) ∧ KV c (ys.getD off undef) ∧ allEq xs ys off n = vEq (xs.getD off undef) (ys.getD off undef) := by
      rintro c rfl _
      refine ⟨by simpa using hx.2 0 c rfl, by simpa using hy.2 0 c rfl, ?_⟩
      subst hn
      simp [allEq, List.range_succ]
    unfold cmpKinds at h
    split at h
    · rename_i k hu
      simp at h
      have ha : agg = false := by simpa [isAggT, hu] using hagg.symm
      obtain ⟨k1, k2, k3⟩ := one _ h.symm ha
      subst ha
      simp only [Bool.false_eq_true, if_false, k3]
      generalize xs.getD off undef = x at k1 ⊢
      generalize ys.getD off undef = y at k2 ⊢
      cases x <;> simp [KV] at k1
      cases y <;> simp [KV] at k2
      subst k1; subst k2
      rw [run_equalIn_int w D T _ _ _ _ hu]; rfl
    · rename_i hu
      simp at h
      have ha : agg = false := by simpa [isAggT, hu] using hagg.symm
      obtain ⟨k1, k2, k3⟩ := one _ h.symm ha
      subst ha
      simp only [Bool.false_eq_true, if_false, k3]
      generalize xs.getD off undef = x at k1 ⊢
      generalize ys.getD off undef = y at k2 ⊢
      cases x <;> simp [KV] at k1
      cases y <;> simp [KV] at k2
      rw [run_equalIn_bool w D T _ _ hu]; rfl
    · rename_i hu
      simp at h
      have ha : agg = false := by simpa [isAggT, hu] using hagg.symm
      obtain ⟨k1, k2, k3⟩ := one _ h.symm ha
      subst ha
      simp only [Bool.false_eq_true, if_false, k3]
      generalize xs.getD off undef = x at k1 ⊢
      generalize ys.getD off undef = y at k2 ⊢
      cases x <;> simp [KV] at k1
      cases y <;> simp [KV] at k2
      simp [Op.equalIn, run_underlying hu, vEq]
    · rename_i fs hu
      have ha : agg = true := by simpa [isAggT, hu] using hagg.symm
      subst ha
      split at h
      · cases h
      rename_i hstood
      simp only [if_true]
      have hfo : P.fieldsOf T = fs := by simp [Program.fieldsOf, hu]
      rw [run_equalIn_struct w D T _ _ (by rw [hfo]; exact hu) (by simpa using hstood), hfo]
      have hx' := hx.extract hn
      have hy' := hy.extract hn
      rw [← allEq_extract (by have := hx.1; omega) (by have := hy.1; omega)]
      generalize xs.extract off (off + n) = X at hx' ⊢
      generalize ys.extract off (off + n) = Y at hy' ⊢
      subst hn
      clear hx hy hfo hu one
      have flds : ∀ (l : List Field) (o : Nat) (kl : List CK), cmpKinds.fields (fun t => cmpKinds P d t) P o l = some kl → Typed X o kl → Typed Y o kl → (Op.eqFields D X Y l).run P w = .ok (allEq X Y o kl.length) w := by
        intro l
        induction l with
        | nil => intro o kl hk _ _; simp [cmpKinds.fields] at hk; subst hk; simp [Op.eqFields, allEq]
        | cons f l ih =>
          intro o kl hk tx ty
          simp only [cmpKinds.fields] at hk
          split at hk
          case h_2 => cases hk
          rename_i fk m hfk hm
          split at hk
          case isFalse => cases hk
          rename_i hc
          obtain ⟨hname, hoff, hlen⟩ := hc
          simp only [Option.map_eq_some_iff] at hk
          obtain ⟨kr, hkr, rfl⟩ := hk
          obtain ⟨fa, hfa, hf1⟩ := cmp_len hfk
          have p1 := cmp_part (P := P) w hfa hm hlen (xs := X) tx.left (fun e => by rw [← hlen]; exact hf1 e)
          have p2 := cmp_part (P := P) w hfa hm hlen (xs := Y) ty.left (fun e => by rw [← hlen]; exact hf1 e)
          have pe := run_equalIn d f.type fk m fa hfk hfa hlen.symm D (by omega) X Y o tx.left ty.left
          simp only [Op.eqFields, hname, ne_eq, not_false_eq_true, if_true, Sem.run_bind, hoff, p1, p2, pe, Result.andThen_ok]
          rw [List.length_append, allEq_append, hlen]
          cases hb : allEq X Y o m with
          | false => simp
          | true =>
            simp only [Bool.not_true, Bool.false_eq_true, if_false, Bool.true_and]
            have := ih (o + m) kr hkr (by rw [← hlen]; exact tx.right) (by rw [← hlen]; exact ty.right)
            exact this
      exact flds fs.toList 0 ks h hx' hy'
    · rename_i len e hu
      have ha : agg = true := by simpa [isAggT, hu] using hagg.symm
      subst ha
      split at h
      case h_2 => cases h
      rename_i ek m hek hm
      split at h
      case isFalse => cases h
      rename_i hlen
      simp only [Option.some.injEq] at h
      simp only [if_true]
      have hx' := hx.extract hn
      have hy' := hy.extract hn
      rw [← allEq_extract (by have := hx.1; omega) (by have := hy.1; omega)]
      generalize xs.extract off (off + n) = X at hx' ⊢
      generalize ys.extract off (off + n) = Y at hy' ⊢
      obtain ⟨ea, hea, he1⟩ := cmp_len hek
      have hkl : ks.length = len * m := by rw [← h]; simp [hlen]
      subst hn
      have loop : ∀ (c i : Nat), i + c = len → (forIn (m := Sem) (List.range' i c) ((none, ()) : Option Bool × Unit) fun j r => do
            let a ← part e X (j * m)
            let b ← part e Y (j * m)
            let r' ← Op.equalIn D e a b
            if (!r') = true then pure (ForInStep.done (some false, ())) else pure (ForInStep.yield (none, ()))).run P w = .ok ((if allEq X Y (i * m) (c * m) then none else some false), ()) w := by
        intro c
        induction c with
        | zero => intro i _; simp [allEq]
        | succ c ih =>
          intro i hi
          have hsub : Typed X (i * m) ek ∧ Typed Y (i * m) ek := by
            have key : ∀ (k : Nat) (c' : CK), ek[k]? = some c' → ks[i * m + k]? = some c' := by
              intro k c' hk
              have hk' := (List.getElem?_eq_some_iff.1 hk).1
              rw [← h]
              have : ∀ (t i : Nat), i < t → ((List.replicate t ek).flatten)[i * m + k]? = some c' := by
                intro t
                induction t with
                | zero => intro i hi; omega
                | succ t iht =>
                  intro i hi
                  rw [List.replicate_succ, List.flatten_cons]
                  cases i with
                  | zero => rw [List.getElem?_append_left (by omega)]; simpa using hk
                  | succ i =>
                    rw [List.getElem?_append_right (by rw [Nat.add_mul]; omega)]
                    rw [show (i + 1) * m + k - ek.length = i * m + k from by rw [Nat.add_mul]; omega]
                    exact iht i (by omega)
              exact this len i (by omega)
            have hb : i * m + m ≤ len * m := by
              have : (i + 1) * m ≤ len * m := Nat.mul_le_mul_right _ (by omega)
              rw [Nat.add_mul] at this; omega
            refine ⟨⟨by have := hx'.1; omega, fun k c' hk => ?_⟩, ⟨by have := hy'.1; omega, fun k c' hk => ?_⟩⟩
            · have := hx'.2 _ c' (key k c' hk); rwa [Nat.zero_add] at this
            · have := hy'.2 _ c' (key k c' hk); rwa [Nat.zero_add] at this
          have p1 := cmp_part (P := P) w hea hm hlen (xs := X) hsub.1 (fun e => by rw [← hlen]; exact he1 e)
          have p2 := cmp_part (P := P) w hea hm hlen (xs := Y) hsub.2 (fun e => by rw [← hlen]; exact he1 e)
          have pe := run_equalIn d e ek m ea hek hea hlen.symm D (by omega) X Y (i * m) hsub.1 hsub.2
          rw [List.range'_succ, List.forIn_cons]
          simp only [Sem.run_bind, p1, p2, pe, Result.andThen_ok]
          have e2 : allEq X Y (i * m) ((c + 1) * m) = (allEq X Y (i * m) m && allEq X Y ((i + 1) * m) (c * m)) := by
            rw [show (c + 1) * m = m + c * m from by rw [Nat.add_mul]; omega, allEq_append, Nat.add_mul, Nat.one_mul]
          rw [e2]
          cases hb : allEq X Y (i * m) m with
          | false => simp
          | true =>
            simp only [Bool.not_true, Bool.false_eq_true, if_false, Sem.run_pure, Result.andThen_ok, Bool.true_and]
            exact ih (i + 1) (by omega)
      simp only [Op.equalIn, Sem.run_bind, run_underlying hu, Result.andThen_ok, run_sizeT hm, Std.Legacy.Range.forIn_eq_forIn_range', Std.Legacy.Range.size, Nat.sub_zero, Nat.add_one_sub_one, Nat.div_one]
      have hl := loop len 0 (by omega)
      rw [hkl]
      simp only [Nat.zero_mul] at hl
      rw [hl]
      simp only [Result.andThen_ok]
      cases allEq X Y 0 (len * m) <;> simp
    · cases h
end
end Go.Sx
