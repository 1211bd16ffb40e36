import Derived.Test.YtkpgbnchidjapaaNvF
namespace Go.Proofs.Nv
set_option linter.unusedVariables false
set_option linter.unusedSimpArgs false
open Go Go.Sx Go.Proofs
set_option maxRecDepth 100000
theorem sl_at {m : Bs} {i : Int} (i0 : 0 ≤ i) {k : Nat} (hk : k < 1031) : (slS m i).getD k 0 = m.getD ((i * 1031).toNat + k) 0 := by
  simp only [slS, List.getD_eq_getElem?_getD, List.getElem?_drop, List.getElem?_take]
  rw [if_pos (by omega)]
theorem sl_length {m : Bs} {i : Int} (hl : m.length = 2062) (i0 : 0 ≤ i) (i1 : i ≤ 1) : (slS m i).length = 1031 := by
  simp only [slS, List.length_drop, List.length_take]; omega
theorem getD_lt {l : Bs} {k : Nat} (h : k < l.length) : l[k] = l.getD k 0 := by simp [List.getD_eq_getElem?_getD, h]
theorem ext_getD {l l' : Bs} (hl : l.length = l'.length) (h : ∀ k, k < l.length → l.getD k 0 = l'.getD k 0) : l = l' := by
  refine List.ext_getElem hl fun k h1 h2 => ?_
  rw [getD_lt h1, getD_lt h2]; exact h k h1
theorem sl_ext {m m' : Bs} {i : Int} (hl : m.length = 2062) (hl' : m'.length = 2062) (i0 : 0 ≤ i) (i1 : i ≤ 1) (h : ∀ k, k < 1031 → m'.getD ((i * 1031).toNat + k) 0 = m.getD ((i * 1031).toNat + k) 0) : slS m' i = slS m i := by
  refine ext_getD (by rw [sl_length hl i0 i1, sl_length hl' i0 i1]) fun k hk => ?_
  rw [sl_length hl' i0 i1] at hk
  rw [sl_at i0 hk, sl_at i0 hk]; exact h k hk
/-- What a slot with this head and this data reads as. -/
theorem slot_ok {s c : Bs} (hs : s.length = 1031) (hc : c.length ≤ 1024) (h0 : 1 ≤ by' s 0 ∧ by' s 0 ≤ 3) (h : ∀ k, k < 6 + c.length → s.getD (k + 1) 0 = (cmB c).getD (k + 1) 0) : rdB s = true ∧ datS s = c := by
  have hb : ∀ k, k < 6 + c.length → by' s (k + 1) = if k < 6 then (hdI c).getD k 0 else by' c (k - 6) := fun k hk => by
    rw [← cmB_S hc]
    simp only [by', h k hk]
  have b1 : by' s 1 = (c.length : Int) % 256 := by rw [hb 0 (by omega), if_pos (by omega)]; simp [hdI]
  have b2 : by' s 2 = (c.length : Int) / 256 := by rw [hb 1 (by omega), if_pos (by omega)]; simp [hdI]
  have b3 : by' s 3 = 255 - (c.length : Int) % 256 := by rw [hb 2 (by omega), if_pos (by omega)]; simp [hdI]
  have b4 : by' s 4 = 255 - (c.length : Int) / 256 := by rw [hb 3 (by omega), if_pos (by omega)]; simp [hdI]
  have b5 : by' s 5 = sumS c % 256 := by rw [hb 4 (by omega), if_pos (by omega)]; simp [hdI]
  have b6 : by' s 6 = sumS c / 256 := by rw [hb 5 (by omega), if_pos (by omega)]; simp [hdI]
  have t1 : two s 1 = c.length := by simp only [two, b1, b2]; omega
  have t3 : two s 3 = 65535 - c.length := by simp only [two, b3, b4]; omega
  have t5 : two s 5 = sumS c := by simp only [two, b5, b6]; omega
  have hd : datS s = c := by
    have hlen : (datS s).length = c.length := by simp only [datS, t1, List.length_drop, List.length_take]; omega
    refine ext_getD hlen fun k hk => ?_
    rw [hlen] at hk
    have e : (datS s).getD k 0 = s.getD (7 + k) 0 := by
      simp only [datS, t1, List.getD_eq_getElem?_getD, List.getElem?_drop, List.getElem?_take]
      rw [if_pos (by omega)]
    rw [e, show 7 + k = (6 + k) + 1 by omega, h _ (by omega)]
    have hl := bys_len (hdI c)
    rw [hdI_len] at hl
    simp only [cmB, List.getD_cons_succ]
    rw [getD_appR (by omega), hl, show 6 + k - 6 = k by omega]
  refine ⟨?_, hd⟩
  simp only [rdB, Bool.and_eq_true, decide_eq_true_eq]
  refine ⟨hOK_iff.2 ⟨h0.1, h0.2, by omega, by omega⟩, by rw [hd, t5]⟩
theorem slot_bad {s : Bs} (h : by' s 0 = 0) : rdB s = false := (rd_bad (by omega)).2
theorem cur_of {m : Bs} (h : m.length = 2062) {a b : Bool} (ha : rdB (slS m 0) = a) (hb : rdB (slS m 1) = b) : curI m = (if a then (if b && newer m then 1 else 0) else if b then 1 else 0) ∧ curN m = (if a then (if b then 2 else 1) else if b then 1 else 0) ∧ curE m = (if a || b then 0 else 62) := by
  have := cur_good h
  simp only [v0, v1] at this
  rw [ha, hb] at this
  exact this
theorem newer_iff {m : Bs} : newer m = true ↔ by' (slS m 1) 0 = nxt (by' (slS m 0) 0) := by simp only [newer, decide_eq_true_eq]
theorem curD_of {m : Bs} (h : curE m = 0) : curD m = datS (slS m (curI m)) := by simp only [curD]; rw [if_pos h]
/-- A new memory. -/
theorem fmt_law {d : Bs} (h : d.length ≤ 1024) : fmtE d = 0 ∧ (fmtS d).length = 2062 ∧ curE (fmtS d) = 0 ∧ curI (fmtS d) = 0 ∧ curN (fmtS d) = 1 ∧ curD (fmtS d) = d := by
  have hl := fmt_size h
  have e0 : rdB (slS (fmtS d) 0) = true ∧ datS (slS (fmtS d) 0) = d := by
    refine slot_ok (sl_length hl (by omega) (by omega)) h ?_ fun k hk => ?_
    · simp only [by']
      rw [sl_at (by omega) (by omega), fmt_at h, if_pos (by omega)]; decide
    · rw [sl_at (by omega) (by omega)]
      have e : fmtS d = (1 :: (bys (hdI d) ++ d)) ++ List.replicate (2055 - d.length) 0 := by rw [fmt_len h]; simp
      have hb := bys_len (hdI d)
      rw [hdI_len] at hb
      rw [e, getD_appL (by simp only [List.length_cons, List.length_append, hb]; omega)]
      simp only [cmB, show ((0 : Int) * 1031).toNat + (k + 1) = k + 1 by omega, List.getD_cons_succ]
  have e1 : rdB (slS (fmtS d) 1) = false := by
    refine slot_bad ?_
    simp only [by']
    rw [sl_at (by omega) (by omega), fmt_at h, if_neg (by omega), if_neg (by omega), if_neg (by omega)]; rfl
  obtain ⟨c1, c2, c3⟩ := cur_of hl e0.1 e1
  simp at c1 c2 c3
  refine ⟨by simp only [fmtE]; rw [if_neg (by omega)], hl, c3, c1, c2, ?_⟩
  rw [curD_of c3, c1]; exact e0.2
theorem cm_bytes {m d : Bs} {b : Int} (h : curE m = 0) (hd : d.length ≤ 1024) : (cmS m d b).length = 2062 ∧ ∀ j, j < 2062 → (cmS m d b).getD j 0 = cmAt m d b j := by
  have e : cmE m d b = 0 ∨ cmE m d b = 61 := by simp only [cmE]; rw [if_pos h, if_neg (by omega)]; split <;> simp
  have es : cmS m d b = (List.range 2062).map (cmAt m d b) := by simp only [cmS]; rw [if_pos e]
  rw [es]
  refine ⟨by simp, fun j hj => ?_⟩
  rw [List.getD_eq_getElem?_getD, List.getElem?_map, List.getElem?_range hj]; rfl
theorem cm_same {m d : Bs} {b : Int} (h : curE m = 0) (hd : d.length ≤ 1024) : slS (cmS m d b) (curI m) = slS m (curI m) := by
  have c := curI_bd m
  obtain ⟨hl, _⟩ := curE_ok h
  obtain ⟨l', hb⟩ := cm_bytes (b := b) h hd
  refine sl_ext hl l' c.1 c.2 fun k hk => ?_
  rw [hb _ (by omega)]
  simp only [cmAt]
  rw [if_neg (by omega), if_neg (by omega)]
theorem nxt_bd (c : Int) : 1 ≤ nxt c ∧ nxt c ≤ 3 := by simp only [nxt]; omega
/-- What a commit does to the memory. -/
theorem cm_law {m d : Bs} {b : Int} (h : curE m = 0) (hd : d.length ≤ 1024) : (cmS m d b).length = 2062 ∧ curE (cmS m d b) = 0 ∧
    (d.length + 8 ≤ b → cmE m d b = 0 ∧ curD (cmS m d b) = d ∧ curI (cmS m d b) = 1 - curI m ∧ curN (cmS m d b) = 2) ∧
    (b < d.length + 8 → cmE m d b = 61 ∧ curD (cmS m d b) = curD m ∧ (b ≤ 0 → cmS m d b = m) ∧ (1 ≤ b → curN (cmS m d b) = 1 ∧ curI (cmS m d b) = curI m)) := by
  have c := curI_bd m
  obtain ⟨hl, hr⟩ := curE_ok h
  obtain ⟨l', hb⟩ := cm_bytes (b := b) h hd
  have hs := cm_same (b := b) h hd
  have e : cmE m d b = if b < d.length + 8 then 61 else 0 := by simp only [cmE]; rw [if_pos h, if_neg (by omega)]
  have hr' : rdB (slS (cmS m d b) (curI m)) = true := by rw [hs]; exact hr
  have nb := nxt_bd (by' (slS m (curI m)) 0)
  have mk := rM_bd.2 hr
  by_cases full : (d.length : Int) + 8 ≤ b
  · have k0 : by' (slS (cmS m d b) (1 - curI m)) 0 = nxt (by' (slS m (curI m)) 0) := by
      simp only [by']
      rw [sl_at (by omega) (by omega), hb _ (by omega)]
      simp only [cmAt]
      rw [if_pos (by omega), UInt8.toNat_ofNat', Nat.mod_eq_of_lt (by simp only [by'] at nb ⊢; omega)]
      simp only [by'] at nb ⊢; omega
    have ho : rdB (slS (cmS m d b) (1 - curI m)) = true ∧ datS (slS (cmS m d b) (1 - curI m)) = d := by
      refine slot_ok (sl_length l' (by omega) (by omega)) hd (by rw [k0]; exact nb) fun k hk => ?_
      rw [sl_at (by omega) (by omega), hb _ (by omega)]
      simp only [cmAt]
      rw [if_neg (by omega), if_pos (by omega)]
      congr 1; omega
    have hE : curE (cmS m d b) = 0 ∧ curI (cmS m d b) = 1 - curI m ∧ curN (cmS m d b) = 2 := by
      rcases (show curI m = 0 ∨ curI m = 1 by omega) with q | q
      · rw [q] at hr' k0 ho hs
        obtain ⟨c1, c2, c3⟩ := cur_of l' hr' ho.1
        have : newer (cmS m d b) = true := newer_iff.2 (by rw [hs]; exact k0)
        rw [this] at c1
        rw [c1, c2, c3, q]; decide
      · rw [q] at hr' k0 ho hs mk
        obtain ⟨c1, c2, c3⟩ := cur_of l' ho.1 hr'
        have : newer (cmS m d b) = false := by
          rw [Bool.eq_false_iff]
          intro hn
          have := newer_iff.1 hn
          have k1 : by' (slS (cmS m d b) 0) 0 = nxt (by' (slS m 1) 0) := k0
          rw [hs, k1] at this
          simp only [nxt] at this; omega
        rw [this] at c1
        rw [c1, c2, c3, q]; decide
    refine ⟨l', hE.1, fun _ => ⟨by rw [e, if_neg (by omega)], ?_, hE.2.1, hE.2.2⟩, fun hh => by omega⟩
    rw [curD_of hE.1, hE.2.1]; exact ho.2
  · by_cases b0 : b ≤ 0
    · have em : cmS m d b = m := by
        refine ext_getD (by rw [l', hl]) fun k hk => ?_
        rw [hb _ (by omega)]
        simp only [cmAt]
        rw [if_neg (by omega), if_neg (by omega)]
      rw [em]
      exact ⟨hl, h, fun hh => by omega, fun _ => ⟨by rw [e, if_pos (by omega)], rfl, fun _ => rfl, fun hh => by omega⟩⟩
    · have k0 : by' (slS (cmS m d b) (1 - curI m)) 0 = 0 := by
        simp only [by']
        rw [sl_at (by omega) (by omega), hb _ (by omega)]
        simp only [cmAt]
        rw [if_neg (by omega), if_pos (by omega), show ((((1 - curI m) * 1031).toNat + 0 : Nat) - (1 - curI m) * 1031 : Int).toNat = 0 by omega]
        have := cmB_0 d
        simp only [by'] at this; exact this
      have ho := slot_bad k0
      have hE : curE (cmS m d b) = 0 ∧ curI (cmS m d b) = curI m ∧ curN (cmS m d b) = 1 := by
        rcases (show curI m = 0 ∨ curI m = 1 by omega) with q | q
        · rw [q] at hr' ho
          obtain ⟨c1, c2, c3⟩ := cur_of l' hr' ho
          rw [c1, c2, c3, q]; simp
        · rw [q] at hr' ho
          obtain ⟨c1, c2, c3⟩ := cur_of l' ho hr'
          rw [c1, c2, c3, q]; simp
      refine ⟨l', hE.1, fun hh => by omega, fun _ => ⟨by rw [e, if_pos (by omega)], ?_, fun hh => by omega, fun _ => ⟨hE.2.2, hE.2.1⟩⟩⟩
      rw [curD_of hE.1, hE.2.1, hs, curD_of h]
end Go.Proofs.Nv
