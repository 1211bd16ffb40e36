import Derived.Test.YtkpgbnchidjapaaNvM
namespace Go.Proofs.Nv
set_option linter.unusedVariables false
set_option linter.unusedSimpArgs false
open Go Go.Sx Go.Proofs
set_option maxRecDepth 100000
/-! One byte turned: a slot that still reads reads the same data. -/
theorem by_set (s : Bs) {i j : Nat} (v : UInt8) (h : ¬ i = j) : by' (s.set i v) j = by' s j := by
  simp only [by', List.getD_eq_getElem?_getD, List.getElem?_set, if_neg h]
theorem by_set_self {s : Bs} {i : Nat} (v : UInt8) (h : i < s.length) : by' (s.set i v) i = (v.toNat : Int) := by
  simp [by', List.getD_eq_getElem?_getD, h]
theorem u8_ne {a b : UInt8} (h : ¬ a = b) : ¬ ((a.toNat : Int) = (b.toNat : Int)) := fun e => h (UInt8.toNat_inj.1 (by omega))
theorem by_set_ne {s : Bs} {i : Nat} {v : UInt8} (h : i < s.length) (hv : ¬ v = s.getD i 0) : ¬ by' (s.set i v) i = by' s i := by
  rw [by_set_self v h]
  simp only [by']
  exact u8_ne hv
theorem sum_set_lo {d : Bs} {j : Nat} (v : UInt8) : ∀ n : Nat, n ≤ j → sumTo (d.set j v) n = sumTo d n
  | 0, _ => by simp only [sumTo]
  | n + 1, h => by
    simp only [sumTo]
    rw [sum_set_lo v n (by omega), by_set d v (by omega)]
theorem sum_set_hi {d : Bs} {j : Nat} (v : UInt8) : ∀ n : Nat, j < n → (sumTo (d.set j v) n - sumTo d n - ((j : Int) + 1) * (by' (d.set j v) j - by' d j)) % 65521 = 0
  | 0, h => by omega
  | n + 1, h => by
    by_cases e : n = j
    · subst e
      simp only [sumTo]
      rw [sum_set_lo v n (Nat.le_refl _)]
      have e1 : ((n : Int) + 1) * (by' (d.set n v) n - by' d n) = ((n : Int) + 1) * by' (d.set n v) n - ((n : Int) + 1) * by' d n := Int.mul_sub ..
      rw [e1]
      generalize ((n : Int) + 1) * by' (d.set n v) n = x
      generalize ((n : Int) + 1) * by' d n = y
      omega
    · have ih := sum_set_hi (d := d) (j := j) v n (by omega)
      simp only [sumTo]
      rw [by_set d v (fun q => e q.symm)]
      generalize ((n : Int) + 1) * by' d n = x
      generalize ((j : Int) + 1) * (by' (d.set j v) j - by' d j) = y at *
      omega
theorem prime_tab : ∀ b : Fin 256, ∀ q : Fin 4, 0 < b.val → 0 < q.val → 65521 * q.val % b.val = 0 → 1024 < 65521 * q.val / b.val := by decide +kernel
theorem prime_nat {a b : Nat} (a0 : 0 < a) (a1 : a ≤ 1024) (b0 : 0 < b) (b1 : b < 256) : ¬ (a * b) % 65521 = 0 := by
  intro h
  have hb : a * b ≤ 1024 * 255 := Nat.mul_le_mul a1 (by omega)
  have hp : 0 < a * b := Nat.mul_pos a0 b0
  obtain ⟨q, hq⟩ := Nat.dvd_of_mod_eq_zero h
  have q0 : 0 < q := by
    rcases Nat.eq_zero_or_pos q with z | z
    · subst z; omega
    · exact z
  have t := prime_tab ⟨b, b1⟩ ⟨q, by omega⟩ b0 q0
  simp only [← hq] at t
  have := t (Nat.mul_mod_left a b)
  rw [Nat.mul_div_cancel _ b0] at this
  omega
theorem prime_int {a d : Int} (a0 : 0 < a) (a1 : a ≤ 1024) (d0 : ¬ d = 0) (d1 : -256 < d) (d2 : d < 256) : ¬ (a * d) % 65521 = 0 := by
  intro h
  have h2 : (a * d).natAbs % 65521 = 0 := by omega
  rw [Int.natAbs_mul] at h2
  exact prime_nat (by omega) (by omega) (by omega) (by omega) h2
theorem sum_set {d : Bs} {j : Nat} {v : UInt8} (hd : d.length ≤ 1024) (h : j < d.length) (hv : ¬ v = d.getD j 0) : ¬ sumS (d.set j v) = sumS d := by
  intro e
  simp only [sumS, List.length_set] at e
  have := sum_set_hi (d := d) (j := j) v d.length h
  have n1 := by_set_ne h hv
  have b1 := by_bd (d.set j v) j
  have b2 := by_bd d j
  have p := prime_int (a := (j : Int) + 1) (d := by' (d.set j v) j - by' d j) (by omega) (by omega) (by omega) (by omega) (by omega)
  rw [e] at this
  generalize ((j : Int) + 1) * (by' (d.set j v) j - by' d j) = y at *
  omega
theorem dat_at {s : Bs} {k : Nat} (h : (k : Int) < two s 1) : (datS s).getD k 0 = s.getD (7 + k) 0 := by
  simp only [datS, List.getD_eq_getElem?_getD, List.getElem?_drop, List.getElem?_take]
  rw [if_pos (by omega)]
theorem dat_length {s : Bs} (h : s.length = 1031) (h1 : two s 1 ≤ 1024) : ((datS s).length : Int) = two s 1 := by
  have := two_bd s 1
  simp only [datS, List.length_drop, List.length_take]; omega
theorem two_set (s : Bs) {i j : Nat} (v : UInt8) (h : ¬ i = j) (h2 : ¬ i = j + 1) : two (s.set i v) j = two s j := by
  simp only [two]
  rw [by_set s v h, by_set s v h2]
theorem two_set_ne {s : Bs} {i j : Nat} {v : UInt8} (hi : i < s.length) (hv : ¬ v = s.getD i 0) (h : i = j ∨ i = j + 1) : ¬ two (s.set i v) j = two s j := by
  have n := by_set_ne hi hv
  have b1 := by_bd (s.set i v) j
  have b2 := by_bd s j
  simp only [two]
  rcases h with rfl | rfl
  · rw [by_set s v (show ¬ i = i + 1 by omega)]; omega
  · rw [by_set s v (show ¬ j + 1 = j by omega)]; omega
/-- A slot with one other byte: as far as it reads, it reads the same. -/
theorem det_slot {s : Bs} {i : Nat} {v : UInt8} (hs : s.length = 1031) (hi : i < 1031) (hv : ¬ v = s.getD i 0) (h : rdB s = true) (h' : rdB (s.set i v) = true) : datS (s.set i v) = datS s := by
  simp only [rdB, Bool.and_eq_true, decide_eq_true_eq] at h h'
  obtain ⟨o, hsum⟩ := h
  obtain ⟨o', hsum'⟩ := h'
  have q := hOK_iff.1 o
  have q' := hOK_iff.1 o'
  have hl' : (s.set i v).length = 1031 := by rw [List.length_set, hs]
  by_cases c1 : i = 1 ∨ i = 2
  · have n := two_set_ne (j := 1) (by omega) hv c1
    rw [two_set s v (j := 3) (by omega) (by omega)] at q'
    omega
  by_cases c3 : i = 3 ∨ i = 4
  · have n := two_set_ne (j := 3) (by omega) hv c3
    rw [two_set s v (j := 1) (by omega) (by omega)] at q'
    omega
  have t1 : two (s.set i v) 1 = two s 1 := two_set s v (by omega) (by omega)
  have tb := two_bd s 1
  have dl := dat_length hs q.2.2.2
  have dl' := dat_length hl' q'.2.2.2
  rw [t1] at dl'
  by_cases c7 : 7 ≤ i ∧ (i : Int) < 7 + two s 1
  · exfalso
    have e : datS (s.set i v) = (datS s).set (i - 7) v := by
      refine ext_getD (by rw [List.length_set]; omega) fun k hk => ?_
      rw [dat_at (by omega)]
      simp only [List.getD_eq_getElem?_getD, List.getElem?_set]
      by_cases g : i = 7 + k
      · rw [if_pos g, if_pos (by omega), if_pos (by omega), if_pos (by omega)]
      · rw [if_neg g, if_neg (by omega), ← List.getD_eq_getElem?_getD, ← List.getD_eq_getElem?_getD, dat_at (by omega)]
    have t5 : two (s.set i v) 5 = two s 5 := two_set s v (by omega) (by omega)
    rw [t5, e, hsum] at hsum'
    exact sum_set (v := v) (j := i - 7) (d := datS s) (by omega) (by omega) (by rw [dat_at (by omega), show 7 + (i - 7) = i by omega]; exact hv) hsum'.symm
  · have e : datS (s.set i v) = datS s := by
      refine ext_getD (by omega) fun k hk => ?_
      rw [dat_at (by omega), dat_at (by omega)]
      simp only [List.getD_eq_getElem?_getD, List.getElem?_set]
      rw [if_neg (by omega)]
    exact e
theorem two_0 {s : Bs} (h : ∀ k, s.getD k 0 = 0) (i : Nat) : two s i = 0 := by simp only [two, by', h]; rfl
/-- A slot of zeros with one other byte does not read. -/
theorem det_zero {s : Bs} {i : Nat} {v : UInt8} (h : ∀ k, s.getD k 0 = 0) : rdB (s.set i v) = false := by
  cases hr : rdB (s.set i v)
  · rfl
  exfalso
  simp only [rdB, Bool.and_eq_true, decide_eq_true_eq] at hr
  have q := hOK_iff.1 hr.1
  by_cases e : i = 0
  · subst e
    rw [two_set s v (j := 3) (by omega) (by omega), two_set s v (j := 1) (by omega) (by omega), two_0 h, two_0 h] at q
    omega
  · rw [by_set s v e] at q
    have : by' s 0 = 0 := by simp only [by', h]; rfl
    omega
/-- A slot of a memory with one other byte. -/
theorem sl_set {m : Bs} {k : Nat} {v : UInt8} {i : Int} (hl : m.length = 2062) (i0 : 0 ≤ i) (i1 : i ≤ 1) : (i * 1031 ≤ k → k < (i + 1) * 1031 → slS (m.set k v) i = (slS m i).set (k - (i * 1031).toNat) v) ∧ (¬ (i * 1031 ≤ k ∧ k < (i + 1) * 1031) → slS (m.set k v) i = slS m i) := by
  have l1 := sl_length hl i0 i1
  have l2 := sl_length (m := m.set k v) (by rw [List.length_set, hl]) i0 i1
  refine ⟨fun h1 h2 => ?_, fun h => ?_⟩
  · refine ext_getD (by rw [List.length_set]; omega) fun j hj => ?_
    rw [l2] at hj
    rw [sl_at i0 hj]
    simp only [List.getD_eq_getElem?_getD, List.getElem?_set]
    by_cases g : k = (i * 1031).toNat + j
    · rw [if_pos g, if_pos (by omega), if_pos (by omega), if_pos (by omega)]
    · rw [if_neg g, if_neg (by omega), ← List.getD_eq_getElem?_getD, ← List.getD_eq_getElem?_getD, sl_at i0 hj]
  · refine ext_getD (by omega) fun j hj => ?_
    rw [l2] at hj
    rw [sl_at i0 hj, sl_at i0 hj]
    simp only [List.getD_eq_getElem?_getD, List.getElem?_set]
    rw [if_neg (by omega)]
/-- What opens of a memory, by its two slots. -/
theorem open_two {m : Bs} (h : m.length = 2062) : (rdB (slS m 0) = true ∨ rdB (slS m 1) = true → curE m = 0 ∧ ((rdB (slS m 0) = true ∧ curD m = datS (slS m 0)) ∨ (rdB (slS m 1) = true ∧ curD m = datS (slS m 1)))) ∧ (rdB (slS m 0) = false → rdB (slS m 1) = false → curE m = 62) := by
  obtain ⟨c1, c2, c3⟩ := cur_of h rfl rfl
  refine ⟨fun q => ?_, fun a b => ?_⟩
  · have e : curE m = 0 := by rw [c3]; rcases q with q | q <;> simp [q]
    refine ⟨e, ?_⟩
    have d := curD_of e
    obtain ⟨_, hr⟩ := curE_ok e
    have b := curI_bd m
    rcases (show curI m = 0 ∨ curI m = 1 by omega) with z | z <;> rw [z] at d hr
    · exact .inl ⟨hr, d⟩
    · exact .inr ⟨hr, d⟩
  · rw [c3, a, b]; rfl
/-- One byte of a memory turned: what opens then. -/
theorem det_two {m : Bs} {k : Nat} {v : UInt8} (h : m.length = 2062) (hk : k < 2062) (hv : ¬ v = m.getD k 0) (h0 : rdB (slS m 0) = true) (h1 : rdB (slS m 1) = true ∨ ∀ j, (slS m 1).getD j 0 = 0) :
    (rdB (slS m 1) = true → curE (m.set k v) = 0) ∧ (curE (m.set k v) = 62 ∨ curE (m.set k v) = 0) ∧ (curE (m.set k v) = 0 → curD (m.set k v) = datS (slS m 0) ∨ (rdB (slS m 1) = true ∧ curD (m.set k v) = datS (slS m 1))) := by
  have hl' : (m.set k v).length = 2062 := by rw [List.length_set, h]
  have o := open_two hl'
  have l0 := sl_length h (i := 0) (by omega) (by omega)
  have l1 := sl_length h (i := 1) (by omega) (by omega)
  by_cases c : k < 1031
  · have e0 := (sl_set (v := v) (k := k) (i := 0) h (by omega) (by omega)).1 (by omega) (by omega)
    have e1 := (sl_set (v := v) (k := k) (i := 1) h (by omega) (by omega)).2 (by omega)
    simp only [show k - ((0 : Int) * 1031).toNat = k by omega] at e0
    have hv' : ¬ v = (slS m 0).getD k 0 := by rw [sl_at (by omega) c, show ((0 : Int) * 1031).toNat + k = k by omega]; exact hv
    have d := det_slot (i := k) (v := v) l0 c hv' h0
    rw [e0, e1] at o
    refine ⟨fun g => (o.1 (.inr g)).1, ?_, fun g => ?_⟩
    · cases a : rdB ((slS m 0).set k v) <;> cases b : rdB (slS m 1)
      · exact .inl (o.2 a b)
      · exact .inr (o.1 (.inr b)).1
      · exact .inr (o.1 (.inl a)).1
      · exact .inr (o.1 (.inl a)).1
    · cases a : rdB ((slS m 0).set k v) <;> cases b : rdB (slS m 1)
      · have := o.2 a b; omega
      · rcases (o.1 (.inr b)).2 with ⟨x, y⟩ | ⟨x, y⟩
        · rw [a] at x; cases x
        · exact .inr ⟨rfl, y⟩
      · rcases (o.1 (.inl a)).2 with ⟨x, y⟩ | ⟨x, y⟩
        · exact .inl (by rw [y]; exact d x)
        · rw [b] at x; cases x
      · rcases (o.1 (.inl a)).2 with ⟨x, y⟩ | ⟨x, y⟩
        · exact .inl (by rw [y]; exact d x)
        · exact .inr ⟨rfl, y⟩
  · have e0 := (sl_set (v := v) (k := k) (i := 0) h (by omega) (by omega)).2 (by omega)
    have e1 := (sl_set (v := v) (k := k) (i := 1) h (by omega) (by omega)).1 (by omega) (by omega)
    simp only [show ((1 : Int) * 1031).toNat = 1031 by omega] at e1
    have hv' : ¬ v = (slS m 1).getD (k - 1031) 0 := by rw [sl_at (by omega) (by omega), show ((1 : Int) * 1031).toNat + (k - 1031) = k by omega]; exact hv
    have d := det_slot (i := k - 1031) (v := v) l1 (by omega) hv'
    rw [e0, e1] at o
    obtain ⟨oE, oD⟩ := o.1 (.inl h0)
    refine ⟨fun _ => oE, .inr oE, fun _ => ?_⟩
    rcases oD with ⟨x, y⟩ | ⟨x, y⟩
    · exact .inl y
    · rcases h1 with g | g
      · exact .inr ⟨g, by rw [y]; exact d g x⟩
      · rw [det_zero g] at x; cases x
/-- The byte that is turned is another one unless nothing is turned. -/
theorem xor_facts {x : UInt8} {b : Int} (b0 : 0 ≤ b) (b1 : b < 256) : (b = 0 → UInt8.ofNat (bits .xor .u8 (x.toNat : Int) b).toNat = x) ∧ (¬ b = 0 → ¬ UInt8.ofNat (bits .xor .u8 (x.toNat : Int) b).toNat = x) := by
  have e : bits .xor .u8 (x.toNat : Int) b = IntKind.u8.wrap ((BitVec.ofInt 8 (x.toNat : Int) ^^^ BitVec.ofInt 8 b).toNat : Int) := rfl
  have xb : BitVec.ofInt 8 (x.toNat : Int) = x.toBitVec := by
    apply BitVec.eq_of_toNat_eq
    rw [BitVec.toNat_ofInt]
    have := x.toNat_lt
    have e2 : x.toBitVec.toNat = x.toNat := rfl
    omega
  rw [e, u8_mod, xb]
  have lt := (x.toBitVec ^^^ BitVec.ofInt 8 b).isLt
  have e3 : UInt8.ofNat (((x.toBitVec ^^^ BitVec.ofInt 8 b).toNat : Int) % 256).toNat = ⟨x.toBitVec ^^^ BitVec.ofInt 8 b⟩ := by
    apply UInt8.toNat_inj.1
    rw [UInt8.toNat_ofNat']
    show _ = (x.toBitVec ^^^ BitVec.ofInt 8 b).toNat
    omega
  rw [e3]
  refine ⟨fun h => ?_, fun h g => ?_⟩
  · subst h
    have : x.toBitVec ^^^ BitVec.ofInt 8 0 = x.toBitVec := by
      rw [show BitVec.ofInt 8 0 = 0#8 from rfl]; exact BitVec.xor_zero
    rw [this]
  · have g2 : x.toBitVec ^^^ BitVec.ofInt 8 b = x.toBitVec := congrArg UInt8.toBitVec g
    have g3 : BitVec.ofInt 8 b = 0#8 := by
      have := congrArg (x.toBitVec ^^^ ·) g2
      simpa [← BitVec.xor_assoc] using this
    have g4 := congrArg BitVec.toNat g3
    rw [BitVec.toNat_ofInt] at g4
    have : (0#8).toNat = 0 := rfl
    omega
/-- What a made memory opens as. -/
theorem mad_last {k : List Bs} (hc : ∀ c ∈ k, c.length ≤ 1024) : ∀ i : Nat, i ≤ k.length → curD (madM (k.take i)) = if i = 0 then firstB else k.getD (i - 1) []
  | 0, _ => by
    rw [List.take_zero, mad_nil, if_pos rfl]
    exact (fmt_law first_len).2.2.2.2.2
  | i + 1, h => by
    have ih := mad_good hc i (by omega)
    have hz := hc _ (mem_getD (show i < k.length by omega))
    rw [mad_take (by omega), if_neg (by omega), Nat.add_sub_cancel]
    exact ((cm_law (b := 1048576) ih.2 hz).2.2.1 (by omega)).2.1
theorem fmt_zero {d : Bs} (h : d.length ≤ 1024) : ∀ j, (slS (fmtS d) 1).getD j 0 = 0 := fun j => by
  have l := sl_length (fmt_size h) (i := 1) (by omega) (by omega)
  by_cases hj : j < 1031
  · rw [sl_at (by omega) hj, fmt_at h, if_neg (by omega), if_neg (by omega), if_neg (by omega)]
  · rw [List.getD_eq_getElem?_getD, List.getElem?_eq_none (by omega)]; rfl
/-- The two slots of a made memory. -/
theorem mad_two {k : List Bs} (hc : ∀ c ∈ k, c.length ≤ 1024) : (madM k).length = 2062 ∧ rdB (slS (madM k) 0) = true ∧ (k = [] → datS (slS (madM k) 0) = firstB ∧ ∀ j, (slS (madM k) 1).getD j 0 = 0) ∧
    (¬ k = [] → rdB (slS (madM k) 1) = true ∧ ∀ i : Int, 0 ≤ i → i ≤ 1 → datS (slS (madM k) i) = k.getD (k.length - 1) [] ∨ datS (slS (madM k) i) = if k.length ≤ 1 then firstB else k.getD (k.length - 2) []) := by
  have g := mad_len hc
  by_cases e : k = []
  · subst e
    rw [mad_nil] at g ⊢
    have f := fmt_law first_len
    have r := (curE_ok f.2.2.1).2
    have d := curD_of f.2.2.1
    rw [f.2.2.2.1] at r d
    exact ⟨g.1, r, fun _ => ⟨by rw [← d]; exact f.2.2.2.2.2, fmt_zero first_len⟩, fun h => absurd rfl h⟩
  · have hk : 0 < k.length := List.length_pos_iff.2 e
    have hz := hc _ (mem_getD (show k.length - 1 < k.length by omega))
    have hg := mad_good hc (k.length - 1) (by omega)
    have hb := mad_last hc (k.length - 1) (by omega)
    have em : madM k = cmS (madM (k.take (k.length - 1))) (k.getD (k.length - 1) []) 1048576 := by
      rw [← mad_take (by omega), show k.length - 1 + 1 = k.length by omega, List.take_length]
    have c := (cm_law (b := 1048576) hg.2 hz).2.2.1 (by omega)
    have o := other_good (b := 1048576) hg.2 hz (by omega)
    rw [← em] at c o
    have r := (curE_ok g.2).2
    have d := curD_of g.2
    have bd := curI_bd (madM k)
    rw [c.2.1] at d
    rw [hb] at o
    have o2 : datS (slS (madM k) (1 - curI (madM k))) = if k.length ≤ 1 then firstB else k.getD (k.length - 2) [] := by
      rw [o.2]
      by_cases q : k.length ≤ 1
      · rw [if_pos (by omega), if_pos q]
      · rw [if_neg (by omega), if_neg q]; congr 1
    rcases (show curI (madM k) = 0 ∨ curI (madM k) = 1 by omega) with z | z
    · rw [z] at r d o o2
      refine ⟨g.1, r, fun h => absurd h e, fun _ => ⟨o.1, fun i i0 i1 => ?_⟩⟩
      rcases (show i = 0 ∨ i = 1 by omega) with rfl | rfl
      · exact .inl d.symm
      · exact .inr o2
    · rw [z] at r d o o2
      refine ⟨g.1, o.1, fun h => absurd h e, fun _ => ⟨r, fun i i0 i1 => ?_⟩⟩
      rcases (show i = 0 ∨ i = 1 by omega) with rfl | rfl
      · exact .inr o2
      · exact .inl d.symm
/-- A memory with one byte turned. -/
def flp (m : Bs) (k : Nat) (b : Int) : Bs := m.set k (UInt8.ofNat (bits .xor .u8 (by' m k) b).toNat)
theorem flp_eq {m : Bs} (k : Nat) (b : Int) : (bytesOf m.length fun i => mergeL (decide (i = k)) (setL (byteSV m k) 0 [SV.int IntKind.u8 (bits BinOp.xor IntKind.u8 (by' m k) b)]) (byteSV m i)) = flp m k b := by
  simp only [bytesOf]
  refine list_of (by simp [flp]) fun j hj => ?_
  rw [mrg0]
  simp only [Sx.byteOf, flp]
  by_cases q : j = k
  · subst q
    simp [List.getD_eq_getElem?_getD, hj]
  · rw [decide_eq_false q, if_neg (by decide)]
    simp only [by']
    rw [ofNat_by]
    simp [List.getD_eq_getElem?_getD, List.getElem?_set, Ne.symm q]
theorem isB_mrg (c : Bool) (m : Bs) (k j : Nat) (n : Int) : isByte (mergeL c (setL (byteSV m k) 0 [SV.int IntKind.u8 n]) (byteSV m j)) = true := by rw [mrg0]; rfl
/-- Detection. -/
theorem det_law {k : List Bs} (hc : ∀ c ∈ k, c.length ≤ 1024) {i : Nat} (hi : i < 2062) {b : Int} (b0 : 0 ≤ b) (b1 : b < 256) :
    (curE (flp (madM k) i b) = 62 → ¬ b = 0) ∧ (¬ curE (flp (madM k) i b) = 62 → curE (flp (madM k) i b) = 0) ∧
    (curE (flp (madM k) i b) = 0 → ¬ curD (flp (madM k) i b) = (if k = [] then firstB else k.getD (k.length - 1) []) → ¬ b = 0 ∧ ¬ k = [] ∧ curD (flp (madM k) i b) = if k.length ≤ 1 then firstB else k.getD (k.length - 2) []) := by
  obtain ⟨hl, h0, hn, hs⟩ := mad_two hc
  have x := xor_facts (x := (madM k).getD i 0) b0 b1
  have hx : (((madM k).getD i 0).toNat : Int) = by' (madM k) i := by simp only [by']
  rw [hx] at x
  by_cases e : b = 0
  · have ef : flp (madM k) i b = madM k := by
      simp only [flp]
      rw [x.1 e]
      refine ext_getD (by simp) fun j hj => ?_
      rw [List.length_set] at hj
      simp only [List.getD_eq_getElem?_getD, List.getElem?_set]
      by_cases g : i = j
      · subst g; simp [hj]
      · rw [if_neg g]
    have g := (mad_len hc).2
    have d := mad_last hc k.length (Nat.le_refl _)
    rw [List.take_length] at d
    rw [ef]
    refine ⟨fun q => by omega, fun _ => g, fun _ q => absurd ?_ q⟩
    rw [d]
    by_cases q : k = []
    · subst q; rfl
    · have : 0 < k.length := List.length_pos_iff.2 q
      rw [if_neg (by omega), if_neg q]
  · have hv := x.2 e
    by_cases q : k = []
    · have dt := det_two (k := i) hl hi hv h0 (.inr (hn q).2)
      simp only [flp]
      refine ⟨fun _ => e, fun g => dt.2.1.resolve_left g, fun g q2 => ?_⟩
      rcases dt.2.2 g with z | ⟨z, _⟩
      · rw [if_pos q] at q2
        exact absurd (z.trans (hn q).1) q2
      · exfalso
        have : by' (slS (madM k) 1) 0 = 0 := by simp only [by']; rw [(hn q).2]; rfl
        rw [slot_bad this] at z; cases z
    · have dt := det_two (k := i) hl hi hv h0 (.inl (hs q).1)
      simp only [flp]
      refine ⟨fun _ => e, fun g => dt.2.1.resolve_left g, fun g q2 => ⟨e, q, ?_⟩⟩
      rw [if_neg q] at q2
      rcases dt.2.2 g with z | ⟨_, z⟩
      · rcases (hs q).2 0 (by omega) (by omega) with y | y
        · exact absurd (z.trans y) q2
        · exact z.trans y
      · rcases (hs q).2 1 (by omega) (by omega) with y | y
        · exact absurd (z.trans y) q2
        · exact z.trans y
/-- What the commits of a run have written. -/
def usedR (l : List Bs) : Int := (l.map fun c => (c.length : Int) + 8).sum
def wantR (l : List Bs) (i : Int) : Bs := if i ≤ 0 then firstB else l.getD (i - 1).toNat []
theorem used_nil : usedR [] = 0 := rfl
theorem used_cons (c : Bs) (l : List Bs) : usedR (c :: l) = (c.length : Int) + 8 + usedR l := by simp [usedR]
theorem used_push (c : Bs) (l : List Bs) : usedR (l ++ [c]) = usedR l + ((c.length : Int) + 8) := by simp [usedR]
theorem used_bd : ∀ {l : List Bs}, (∀ c ∈ l, c.length ≤ 1024) → 0 ≤ usedR l ∧ usedR l ≤ 1032 * l.length
  | [], _ => by simp [usedR]
  | c :: l, h => by
    have := used_bd (l := l) fun x hx => h x (by simp [hx])
    have := h c (by simp)
    rw [used_cons, List.length_cons]; omega
theorem run_law : ∀ (l : List Bs) (m : Bs) (b n : Int), curE m = 0 → (∀ c ∈ l, c.length ≤ 1024) → 0 ≤ b → ∃ j : Nat, j ≤ l.length ∧ (runS m l b n).2.1 = n + j ∧ (((runS m l b n).2.2 = 0 ∧ j = l.length) ∨ ((runS m l b n).2.2 = 61 ∧ j < l.length)) ∧ curE (runS m l b n).1 = 0 ∧
      curD (runS m l b n).1 = (if j = 0 then curD m else l.getD (j - 1) []) ∧ usedR (l.take j) ≤ b ∧ (j < l.length → b < usedR (l.take j) + (l.getD j []).length + 8)
  | [], m, b, n, h, _, b0 => ⟨0, by simp, by rw [run_nil]; simp, .inl ⟨by rw [run_nil], rfl⟩, by rw [run_nil]; exact h, by rw [run_nil]; rfl, by simp [used_nil]; exact b0, fun q => by simp at q⟩
  | c :: l, m, b, n, h, hc, b0 => by
    have hz := hc c (by simp)
    have k := cm_law (m := m) (d := c) (b := b) h hz
    rw [run_cons]
    by_cases q : (c.length : Int) + 8 ≤ b
    · have g := k.2.2.1 q
      rw [if_pos g.1]
      obtain ⟨j, j1, j2, j3, j4, j5, j6, j7⟩ := run_law l (cmS m c b) (b - (8 + (c.length : Int))) (n + 1) k.2.1 (fun x hx => hc x (by simp [hx])) (by omega)
      refine ⟨j + 1, by rw [List.length_cons]; omega, by rw [j2]; omega, ?_, j4, ?_, ?_, fun y => ?_⟩
      · rw [List.length_cons]; omega
      · rw [j5, if_neg (show ¬ j + 1 = 0 by omega)]
        by_cases z : j = 0
        · subst z; rw [if_pos rfl, g.2.1]; rfl
        · rw [if_neg z, Nat.add_sub_cancel]
          obtain ⟨i, rfl⟩ : ∃ i, j = i + 1 := ⟨j - 1, by omega⟩
          rw [List.getD_cons_succ, Nat.add_sub_cancel]
      · rw [List.take_succ_cons, used_cons]; omega
      · rw [List.length_cons] at y
        have := j7 (by omega)
        rw [List.take_succ_cons, used_cons, List.getD_cons_succ]; omega
    · have g := k.2.2.2 (by omega)
      rw [if_neg (by omega), if_pos g.1]
      refine ⟨0, by simp, by simp, .inr ⟨rfl, by simp⟩, k.2.1, ?_, by simp [used_nil]; exact b0, fun _ => ?_⟩
      · rw [if_pos rfl]; exact g.2.1
      · simp [used_nil]; omega
/-- What a run of a new memory gives. -/
theorem run_first {l : List Bs} (hc : ∀ c ∈ l, c.length ≤ 1024) {b : Int} (b0 : 0 ≤ b) : 0 ≤ rnN (fmtS firstB) l b ∧ rnN (fmtS firstB) l b ≤ l.length ∧ (rnE (fmtS firstB) l b = 0 ∧ rnN (fmtS firstB) l b = l.length ∨ rnE (fmtS firstB) l b = 61 ∧ rnN (fmtS firstB) l b < l.length) ∧
    curE (rnM (fmtS firstB) l b) = 0 ∧ curD (rnM (fmtS firstB) l b) = wantR l (rnN (fmtS firstB) l b) ∧ usedR (l.take (rnN (fmtS firstB) l b).toNat) ≤ b ∧ (rnN (fmtS firstB) l b < l.length → b < usedR (l.take (rnN (fmtS firstB) l b).toNat) + (l.getD (rnN (fmtS firstB) l b).toNat []).length + 8) := by
  have f := fmt_law first_len
  obtain ⟨j, j1, j2, j3, j4, j5, j6, j7⟩ := run_law l (fmtS firstB) b 0 f.2.2.1 hc b0
  simp only [rnM, rnN, rnE, wantR]
  generalize runS (fmtS firstB) l b 0 = r at *
  rw [j2, show (0 + (j : Int)).toNat = j by omega]
  refine ⟨by omega, by omega, by omega, j4, ?_, j6, fun h => j7 (by omega)⟩
  rw [j5]
  by_cases z : j = 0
  · rw [if_pos z, if_pos (by omega), f.2.2.2.2.2]
  · rw [if_neg z, if_neg (by omega), show (0 + (j : Int) - 1).toNat = j - 1 by omega]
/-- A run with data that are too long. -/
theorem run_long {m c d : Bs} {b : Int} (h : curE m = 0) (hc : c.length ≤ 1024) (hb : (c.length : Int) + 8 ≤ b) (hd : 1024 < d.length) : rnM m [c, d] b = [] ∧ rnN m [c, d] b = 0 ∧ rnE m [c, d] b = 9 := by
  have k := cm_law (m := m) (d := c) (b := b) h hc
  have g := k.2.2.1 hb
  have e : cmE (cmS m c b) d (b - (8 + (c.length : Int))) = 9 := by simp only [cmE]; rw [if_pos k.2.1, if_pos hd]
  simp only [rnM, rnN, rnE]
  rw [run_cons, if_pos g.1, run_cons, e]
  exact ⟨rfl, rfl, rfl⟩
attribute [irreducible] usedR wantR flp
end Go.Proofs.Nv
