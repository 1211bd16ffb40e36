/-
  The operations' soundness, third part: loads, stores and addresses.
-/
import Derived.Test.YteemgogalahhnaaEngE
namespace Go.Sx
set_option linter.unusedVariables false
set_option linter.unusedSimpArgs false
open Go Go.RowKit

theorem flat_map_s (l : List SV) : ∀ k, flat (l.map .s) k = l[k]? := by
  induction l with
  | nil => intro k; rfl
  | cons v r ih =>
    intro k
    cases k with
    | zero => rfl
    | succ k => rw [List.map_cons, flat_ss, ih]; rfl
theorem segsSize_map_s (l : List SV) : segsSize (l.map .s) = l.length := by
  induction l with
  | nil => rfl
  | cons v r ih => simp only [List.map_cons, segsSize, ih, Seg.size, List.length_cons]; omega
theorem flat_drop (l : List Seg) (q k : Nat) : flat l (segsSize (l.take q) + k) = flat (l.drop q) k := by
  conv => lhs; rw [← List.take_append_drop q l]
  rw [flat_append, List.take_append_drop, if_neg (by omega)]
  congr 1; omega
theorem segsSize_drop (l : List Seg) (q : Nat) : segsSize (l.take q) + segsSize (l.drop q) = segsSize l := by
  rw [← segsSize_append, List.take_append_drop]
theorem takeSegs_spec : ∀ {l : List Seg} {n : Nat} {l' : List Seg}, takeSegs l n = some l' → segsSize l' = n ∧ n ≤ segsSize l ∧ (∀ k, k < n → flat l' k = flat l k)
  | _, 0, l', h => by simp [takeSegs] at h; subst h; exact ⟨rfl, by omega, by intro k hk; omega⟩
  | x :: r, m + 1, l', h => by
    simp only [takeSegs] at h
    split at h
    case isFalse => cases h
    rename_i hc
    simp only [Option.map_eq_some_iff] at h
    obtain ⟨l2, h2, rfl⟩ := h
    obtain ⟨e1, e2, e3⟩ := takeSegs_spec h2
    refine ⟨by simp only [segsSize, e1]; omega, by simp only [segsSize]; omega, fun k hk => ?_⟩
    simp only [flat]
    by_cases hlt : k < x.size
    · simp only [hlt, if_true]
    · simp only [hlt, if_false]
      exact e3 _ (by omega)
  | [], _ + 1, _, h => by simp [takeSegs] at h
theorem dropSegs_spec : ∀ {l : List Seg} {n : Nat} {l' : List Seg}, dropSegs l n = some l' → segsSize l' + n = segsSize l ∧ (∀ k, flat l' k = flat l (n + k))
  | l, 0, l', h => by simp [dropSegs] at h; subst h; exact ⟨by omega, fun k => by simp⟩
  | x :: r, m + 1, l', h => by
    simp only [dropSegs] at h
    split at h
    case isFalse => cases h
    rename_i hc
    obtain ⟨e1, e3⟩ := dropSegs_spec h
    refine ⟨by simp only [segsSize]; omega, fun k => ?_⟩
    rw [e3]
    simp only [flat]
    rw [if_neg (by omega)]
    congr 1; omega
  | [], _ + 1, _, h => by simp [dropSegs] at h
theorem St.segs_drop (s : St) (id n q : Nat) : (List.range' q (n - q)).map (s.seg id) = (s.segs id n).drop q := by
  simp only [St.segs]
  rw [← List.map_drop, List.range_eq_range', List.drop_range']
  congr 2; omega

section
variable {E : Env} {P : Program} {ro : RO} {own : Own} {s : St} {w : World} {a : Act}
theorem run_loadVar_one {T : TypeId} (hT : isAggT P T = some false) {A : Addr} {v : Value} (hc : w.cell? A = some v) : (loadVar T A).run P w = .ok v w := by
  simp [loadVar, run_isAggT hT, hc]
theorem run_loadVar_agg {T : TypeId} {n : Nat} (hT : isAggT P T = some true) (hn : sizeT P T = some n) {b off : Nat} {vs : Nat → Value} (hc : ∀ j, j < n → w.cell? ⟨b, off + j, none⟩ = some (vs j)) :
    (loadVar T ⟨b, off, none⟩).run P w = .ok (.agg (Array.ofFn fun j : Fin n => vs j)) w := by
  simp [loadVar, run_isAggT hT, run_sizeT hn, run_loadCells' hc]
/-- Cells of one element or one segment, read as a value. -/
theorem load_elem {T : TypeId} {n : Nat} {agg : Bool} (hT : isAggT P T = some agg) (hn : sizeT P T = some n) {b off : Nat} {l : List SV} {j : Nat} {x : SV} (hx : elemVal agg n l j = some x)
    (hc : ∀ (k : Nat) (sv : SV), l[k]? = some sv → ∃ v, w.cell? ⟨b, off + k, none⟩ = some v ∧ Rel ro own sv v) : ∃ v, (loadVar T ⟨b, off + j, none⟩).run P w = .ok v w ∧ Rel ro own x v := by
  unfold elemVal at hx
  cases agg with
  | true =>
    simp only [if_true] at hx
    split at hx
    case isFalse => cases hx
    rename_i hle
    simp only [Option.some.injEq] at hx
    subst hx
    have hget : ∀ k, k < n → ∃ sv, l[j + k]? = some sv := fun k hk => ⟨_, List.getElem?_eq_getElem (by omega)⟩
    refine ⟨_, run_loadVar_agg hT hn (vs := fun k => (w.cell? ⟨b, off + j + k, none⟩).getD undef) fun k hk => ?_, ?_⟩
    · obtain ⟨sv, hsv⟩ := hget k hk
      obtain ⟨v, hv, _⟩ := hc (j + k) sv hsv
      rw [show off + j + k = off + (j + k) from by omega, hv]; rfl
    · refine .agg _ _ _ ?_ fun k sv hk => ?_
      · rw [segsSize_map_s]; simp; omega
      · rw [flat_map_s] at hk
        have hkn : k < n := by
          have := (List.getElem?_eq_some_iff.1 hk).1
          simp at this; omega
        have hk' : l[j + k]? = some sv := by
          rw [List.getElem?_take, if_pos hkn, List.getElem?_drop] at hk
          exact hk
        obtain ⟨v, hv, hr⟩ := hc (j + k) sv hk'
        rw [getD_ofFn n (fun k => (w.cell? ⟨b, off + j + k, none⟩).getD undef) k hkn]
        rw [show off + j + k = off + (j + k) from by omega, hv]
        exact hr
  | false =>
    simp only [Bool.false_eq_true, if_false] at hx
    split at hx
    case isFalse => cases hx
    obtain ⟨v, hv, hr⟩ := hc j x hx
    exact ⟨v, run_loadVar_one hT hv, hr⟩
theorem snd_load_of (h : SimG E ro own s w a) {o : Oper} {T : TypeId} {x : Operand} (ho : o.op = .load T x) {A : Addr} {v : Value} {y : SV} (hx : a.eval x = .pointer (some A)) (hrun : (loadVar T A).run P w = .ok v w) (hr : Rel ro own y v)
    {ws} (hk : (setT E.N o.dst y).ok s ws) : Snd E P o s w a ws := by
  refine snd_val h (v := v) ?_ hr hk
  unfold execOp
  simp [ho, hx, Instr.loadAt, Instr.sureAddr, hrun]
theorem snd_load (h : SimG E ro own s w a) {o : Oper} {T : TypeId} {x : Operand} (ho : o.op = .load T x) {ws} (hk : (rdO x (txLoad P E.N o.dst T)).ok s ws) : Snd E P o s w a ws := by
  obtain ⟨x', hx, hk⟩ := rdO_ok h hk
  unfold txLoad at hk
  split at hk
  case h_2 => exact hk.elim
  rename_i agg n hT hn
  split at hk
  · -- the beginning of a segment
    rename_i id q
    obtain ⟨b, hb, hv⟩ := inv_ptr hx
    obtain ⟨m, hm, hk⟩ := rdM_ok hk
    have he := h.ent id m hm
    split at hk
    · exact hk.elim
    rename_i hrow
    have hrow : m.row = false := by simpa using hrow
    obtain ⟨hver, hsh⟩ := he.plain hrow
    have hb' : own.env id m.ver = some (some b) := by rw [hver]; exact hb
    cases agg with
    | true =>
      simp only [if_true] at hk
      split at hk
      case isFalse => exact hk.elim
      rename_i hq
      have hk := rdSegs_ok hk
      rw [St.segs_drop] at hk
      split at hk
      case h_2 => exact hk.elim
      rename_i l' hl'
      obtain ⟨e1, e2, e3⟩ := takeSegs_spec hl'
      have hst := he.st q hq
      have hcell : ∀ k, k < n → ∃ v, w.cell? ⟨b, own.st id q + k, none⟩ = some v ∧ ∀ sv, flat l' k = some sv → Rel ro own sv v := by
        intro k hkn
        obtain ⟨v, hv, hr⟩ := h.cell' hm hb' (k := own.st id q + k) (by have := segsSize_drop (s.segs id m.ns) q; omega)
        exact ⟨v, hv, fun sv hs => hr sv (by rw [hst, flat_drop, ← e3 k hkn]; exact hs)⟩
      refine snd_load_of h ho hv (run_loadVar_agg hT hn (vs := fun k => (w.cell? ⟨b, own.st id q + k, none⟩).getD undef) fun k hkn => ?_) (y := .agg l') ?_ hk
      · obtain ⟨v, hv, _⟩ := hcell k hkn
        rw [hv]; rfl
      · refine .agg _ _ _ (by simp [e1]) fun k sv hs => ?_
        have hkn : k < n := by rw [← e1]; exact flat_lt hs
        obtain ⟨v, hv, hr⟩ := hcell k hkn
        rw [getD_ofFn n (fun k => (w.cell? ⟨b, own.st id q + k, none⟩).getD undef) k hkn]
        simp only [hv]
        exact hr sv hs
    | false =>
      simp only [Bool.false_eq_true, if_false] at hk
      obtain ⟨y, hy, hk⟩ := rdS_ok hk
      split at hk
      case h_2 => exact hk.elim
      rename_i u
      split at hk
      case isFalse => exact hk.elim
      rename_i hq
      have hseg : (s.segs id m.ns)[q]? = some (.s u) := by rw [St.segs_getElem _ _ _ _ hq, hy]
      have hf := flat_at hseg 0 (by simp [Seg.size])
      rw [← he.st q hq] at hf
      obtain ⟨v, hc, hr⟩ := h.cell hm hb' hf
      exact snd_load_of h ho hv (run_loadVar_one hT hc) hr hk
  · -- an element of an own row
    rename_i id ver q i j
    obtain ⟨b, hb, hv⟩ := inv_pel hx
    obtain ⟨m, hm, hk⟩ := rdM_ok hk
    have he := h.ent id m hm
    split at hk
    case isFalse => exact hk.elim
    rename_i hvq
    obtain ⟨hver, hq⟩ := hvq
    rw [← hver] at hb
    obtain ⟨y, hy, hk⟩ := rdS_ok hk
    split at hk
    case h_2 => exact hk.elim
    rename_i k es f
    obtain ⟨hi, hk⟩ := hk
    split at hk
    case isFalse => exact hk.elim
    rename_i hlen
    split at hk
    case h_2 => exact hk.elim
    rename_i z hz
    have hseg : (s.segs id m.ns)[q]? = some (.a k es f) := by rw [St.segs_getElem _ _ _ _ hq, hy]
    have hes : own.es id q = es := by rw [he.es q _ hseg]; rfl
    obtain ⟨v, hrun, hr⟩ := load_elem (ro := ro) (own := own) (w := w) hT hn (b := b) (off := own.st id q + i * es) hz (fun k' sv hsv => by
      have hk' : k' < es := by rw [← hlen]; exact (List.getElem?_eq_some_iff.1 hsv).1
      have hin : i * es + k' < (Seg.a k es f).size := by
        simp only [Seg.size]
        have : (i + 1) * es ≤ k * es := Nat.mul_le_mul_right _ hi
        rw [Nat.add_mul] at this; omega
      have hf := flat_at hseg (i * es + k') hin
      rw [seg_a_at hi hk', hsv, ← he.st q hq] at hf
      obtain ⟨v, hv, hr⟩ := h.cell hm hb hf
      exact ⟨v, by rw [Nat.add_assoc]; exact hv, hr⟩)
    rw [hes] at hv
    exact snd_load_of h ho hv hrun hr hk
  · -- an element of a row that is only read
    rename_i es len f i j
    obtain ⟨b, k0, vs, hv, hi, hl, hm, hh⟩ := inv_rop hx
    split at hk
    case isFalse => exact hk.elim
    rename_i hlen
    split at hk
    case h_2 => exact hk.elim
    rename_i z hz
    obtain ⟨v, hrun, hr⟩ := load_elem (ro := ro) (own := own) (w := w) hT hn (b := b) (off := k0 + i * es) hz (fun k' sv hsv => by
      have hk' : k' < es := by rw [← hlen]; exact (List.getElem?_eq_some_iff.1 hsv).1
      have hin : i * es + k' < len * es := by
        have : (i + 1) * es ≤ len * es := Nat.mul_le_mul_right _ hi
        rw [Nat.add_mul] at this; omega
      exact ⟨vs (i * es + k'), by rw [Nat.add_assoc]; exact h.rook _ _ _ (hm _ hin), (hh i k' sv hi hsv).own (Own.empty_le _)⟩)
    exact snd_load_of h ho hv hrun hr hk
  · exact hk.elim

/-! ### Stores -/
theorem arrsOne_ok : ∀ {l : List Seg} {k : Tx} {ws}, (arrsOne l k).ok s ws → (∀ n es f, Seg.a n es f ∈ l → ∀ i, i < n → rowOne es (f i) = true) ∧ k.ok s ws
  | [], _, _, h => ⟨by simp, h⟩
  | .s v :: r, _, _, h => by
    obtain ⟨h1, h2⟩ := arrsOne_ok (l := r) h
    exact ⟨fun n es f hm => h1 n es f (by simpa using hm), h2⟩
  | .a n es f :: r, _, _, h => by
    obtain ⟨h1, h2⟩ := arrsOne_ok (l := r) h.2
    refine ⟨fun n' es' f' hm => ?_, h2⟩
    simp only [List.mem_cons, Seg.a.injEq] at hm
    rcases hm with ⟨rfl, rfl, rfl⟩ | hm
    · exact h.1
    · exact h1 n' es' f' hm
theorem one_flat : ∀ {l : List Seg}, scalarsOne l = true → (∀ n es f, Seg.a n es f ∈ l → ∀ i, i < n → rowOne es (f i) = true) → ∀ k, k < segsSize l → ∃ sv, flat l k = some sv ∧ oneCell sv = true
  | [], _, _, k, hk => by simp [segsSize] at hk
  | .s v :: r, h1, h2, k, hk => by
    simp only [scalarsOne, Bool.and_eq_true] at h1
    cases k with
    | zero => exact ⟨v, flat_s0 v r, h1.1⟩
    | succ k =>
      obtain ⟨sv, e1, e2⟩ := one_flat (l := r) h1.2 (fun n es f hm => h2 n es f (by simp [hm])) k (by simp only [segsSize, Seg.size] at hk; omega)
      exact ⟨sv, by rw [flat_ss]; exact e1, e2⟩
  | .a n es f :: r, h1, h2, k, hk => by
    by_cases hlt : k < n * es
    · have hes : 0 < es := by
        rcases Nat.eq_zero_or_pos es with h0 | h0
        · subst h0; simp at hlt
        · exact h0
      have hi : k / es < n := by rw [Nat.div_lt_iff_lt_mul hes]; exact hlt
      have hr := h2 n es f (by simp) (k / es) hi
      simp only [rowOne, Bool.and_eq_true, beq_iff_eq, List.all_eq_true] at hr
      have hlt2 : k % es < (f (k / es)).length := by rw [hr.1]; exact Nat.mod_lt _ hes
      exact ⟨_, by rw [flat_al hlt]; exact List.getElem?_eq_getElem hlt2, hr.2 _ (List.getElem_mem hlt2)⟩
    · obtain ⟨sv, e1, e2⟩ := one_flat (l := r) h1 (fun n es f hm => h2 n es f (by simp [hm])) (k - n * es) (by simp only [segsSize, Seg.size] at hk; omega)
      exact ⟨sv, by rw [flat_ag hlt]; exact e1, e2⟩
theorem segs_apply_range (s : St) (id q ns : Nat) (l : List Seg) (hq : q + l.length ≤ ns) : (s.apply (segWrites id q l)).segs id ns = (s.segs id ns).take q ++ l ++ (s.segs id ns).drop (q + l.length) := by
  apply List.ext_getElem?
  intro i
  by_cases hi : i < ns
  · rw [St.segs_getElem _ _ _ _ hi, St.seg_apply_segWrites]
    by_cases h1 : i < q
    · rw [if_neg (by omega), List.append_assoc, List.getElem?_append_left (by simp [St.segs_length]; omega), List.getElem?_take, if_pos h1, St.segs_getElem _ _ _ _ hi]
    · rw [if_pos (by omega)]
      by_cases h2 : i < q + l.length
      · rw [List.append_assoc, List.getElem?_append_right (by simp [St.segs_length]; omega), List.getElem?_append_left (by simp [St.segs_length]; omega)]
        have e : i - ((s.segs id ns).take q).length = i - q := by simp [St.segs_length]; omega
        rw [e, List.getElem?_eq_getElem (by omega)]
        simp
      · rw [List.getElem?_append_right (by simp [St.segs_length]; omega), List.getElem?_drop]
        have e : q + l.length + (i - ((s.segs id ns).take q ++ l).length) = i := by simp [St.segs_length]; omega
        rw [e, St.segs_getElem _ _ _ _ hi, List.getElem?_eq_none (by omega)]
        simp
  · rw [List.getElem?_eq_none (by simp [St.segs_length]; omega), List.getElem?_eq_none (by simp [St.segs_length]; omega)]
/-- A store's run. -/
theorem run_storeVar {T : TypeId} {n : Nat} (hn : sizeT P T = some n) {b off : Nat} {cs : Array Value} {e : TypeId} {lo hi : Nat} (hh : w.heap[b]? = some (.cells cs e (lo, hi))) {v : Value} (hv : v.cells.size = n)
    (h1 : ∀ u ∈ v.cells.toList, u.oneCell' = true) (hle : off + n ≤ cs.size) (hfz : hi ≤ lo ∨ off + n ≤ lo) : (storeVar T ⟨b, off, none⟩ v).run P w = .ok () (putCs w b (setRange cs off v.cells.toList) e lo hi) := by
  simp only [storeVar, Sem.run_bind, run_sizeT hn, Result.andThen_ok, hv]
  simp only [ne_eq, not_true_eq_false, if_false]
  rw [run_storeCells v.cells.toList 0 w cs hh h1 (by simp [hv]; omega) (by simp [hv]; omega)]
  rfl
theorem snd_store_of {o : Oper} {T : TypeId} {x y : Operand} (ho : o.op = .store T x y) (hd : o.dst = none) {A : Addr} {w' : World} (hx : a.eval x = .pointer (some A)) (hrun : (storeVar T A (a.eval y)).run P w = .ok () w')
    {ws} (hs : Sim E (s.apply ws) w' a) : Snd E P o s w a ws := by
  intro Q
  unfold Oper.wp
  have : (execOp a.eval o).run P w = .ok .skip w' := by
    unfold execOp
    simp [ho, hx, Instr.storeAt, Instr.sureAddr, hrun]
  rw [this]
  show Sim E _ w' (a.put o.dst undef)
  rw [hd]; exact hs
end
end Go.Sx
