/-
  The operations' soundness, fourth part: stores, addresses of fields and elements, parts of values.
-/
import Derived.Test.YteemgogalahhnaaEngF
namespace Go.Sx
set_option linter.unusedVariables false
set_option linter.unusedSimpArgs false
open Go Go.RowKit

theorem stepSh_spec : ∀ {l : List Seg} {q off q' : Nat}, stepSh (l.map Seg.shape) q off = some q' → ∃ d, q' = q + d ∧ d ≤ l.length ∧ segsSize (l.take d) = off
  | l, q, 0, q', h => by simp [stepSh] at h; exact ⟨0, by omega, by omega, by simp [segsSize]⟩
  | .s v :: r, q, off + 1, q', h => by
    simp only [List.map_cons, Seg.shape, stepSh] at h
    obtain ⟨d, e1, e2, e3⟩ := stepSh_spec h
    exact ⟨d + 1, by omega, by simp; omega, by simp [segsSize, Seg.size, e3]; omega⟩
  | .a n es f :: r, q, off + 1, q', h => by
    simp only [List.map_cons, Seg.shape, stepSh] at h
    split at h
    case isFalse => cases h
    rename_i hc
    obtain ⟨d, e1, e2, e3⟩ := stepSh_spec h
    exact ⟨d + 1, by omega, by simp; omega, by simp [segsSize, Seg.size, e3]; omega⟩
  | [], _, _ + 1, _, h => by simp [stepSh] at h
theorem run_fieldPlace {P : Program} {w : World} {f : Field} {n : Nat} (hn : sizeT P f.type = some (n + 1)) (b off : Nat) : (fieldPlace ⟨b, off, none⟩ f).run P w = .ok ⟨b, off + f.offset, none⟩ w := by
  simp [fieldPlace, run_sizeT hn, add_none]

section
variable {E : Env} {P : Program} {ro : RO} {own : Own} {s : St} {w : World} {a : Act}
theorem take_append_flat {l1 l2 l3 : List Seg} (k : Nat) (A : Nat) (hA : segsSize l1 = A) : flat (l1 ++ l2 ++ l3) k = if k < A then flat l1 k else if k < A + segsSize l2 then flat l2 (k - A) else flat l3 (k - (A + segsSize l2)) := by
  subst hA
  rw [flat_append, flat_append, segsSize_append]
  by_cases h1 : k < segsSize l1
  · rw [if_pos (by omega), if_pos h1, if_pos h1]
  · by_cases h2 : k < segsSize l1 + segsSize l2
    · rw [if_pos h2, if_neg h1, if_neg h1, if_pos h2]
    · rw [if_neg h2, if_neg h1, if_neg h2]
theorem rel_cells {x : SV} {l : List Seg} {v : Value} (hx : Rel ro own x v) (hl : segsOfSV x = some l) : v.cells.size = segsSize l ∧ ∀ (k : Nat) (sv : SV), flat l k = some sv → Rel ro own sv (v.cells.getD k undef) := by
  unfold segsOfSV at hl
  split at hl
  · simp at hl; subst hl
    obtain ⟨cs, hv, hs, hh⟩ := inv_agg hx
    rw [hv]
    exact ⟨hs, hh⟩
  · split at hl
    · rename_i h1
      simp at hl; subst hl
      rw [cells_one (oneCell_rel hx h1)]
      refine ⟨rfl, fun k sv hk => ?_⟩
      cases k with
      | zero => rw [flat_s0] at hk; simp at hk; subst hk; simpa using hx
      | succ k => rw [flat_ss] at hk; cases hk
    · cases hl
theorem cellsOfSegs_spec : ∀ {l : List Seg} {cs : List SV}, cellsOfSegs l = some cs → l = cs.map .s
  | [], cs, h => by simp [cellsOfSegs] at h; subst h; rfl
  | .s v :: r, cs, h => by
    simp only [cellsOfSegs, Option.map_eq_some_iff] at h
    obtain ⟨c', h', rfl⟩ := h
    rw [cellsOfSegs_spec h']; rfl
  | .a _ _ _ :: r, cs, h => by simp [cellsOfSegs] at h
theorem rel_cellsL {x : SV} {cs : List SV} {v : Value} (hx : Rel ro own x v) (hl : cellsOfSV x = some cs) : v.cells.size = cs.length ∧ ∀ (k : Nat) (sv : SV), cs[k]? = some sv → Rel ro own sv (v.cells.getD k undef) := by
  have key : segsOfSV x = some (cs.map .s) := by
    cases x
    case agg l => exact congrArg some (cellsOfSegs_spec hl)
    all_goals first
      | (simp only [cellsOfSV, oneCell, if_true, Option.some.injEq] at hl; subst hl; rfl)
      | (simp [cellsOfSV, oneCell] at hl)
  obtain ⟨e1, e2⟩ := rel_cells hx key
  exact ⟨by rw [e1, segsSize_map_s], fun k sv hk => e2 k sv (by rw [flat_map_s]; exact hk)⟩
theorem mem_cells_one {v : Value} (h : ∀ k, k < v.cells.size → (v.cells.getD k undef).oneCell' = true) : ∀ u ∈ v.cells.toList, u.oneCell' = true := by
  intro u hu
  obtain ⟨k, hk, rfl⟩ := List.getElem_of_mem hu
  have := h k (by simpa using hk)
  simpa [Array.getD_eq_getD_getElem?, show k < v.cells.size by simpa using hk] using this
theorem getD_toList (cs : Array Value) (k : Nat) : cs.toList.getD k undef = cs.getD k undef := by
  simp [Array.getD_eq_getD_getElem?, List.getD_eq_getElem?_getD]

theorem snd_store (h : SimG E ro own s w a) {o : Oper} {T : TypeId} {x y : Operand} (ho : o.op = .store T x y) (hd : o.dst = none) {ws} (hk : (rdO x fun x => rdO y fun y => txStore P T x y).ok s ws) : Snd E P o s w a ws := by
  obtain ⟨x', hx, hk1⟩ := rdO_ok h hk
  clear hk
  obtain ⟨y', hy, hk⟩ := rdO_ok h hk1
  clear hk1
  unfold txStore at hk
  split at hk
  case h_2 => exact hk.elim
  rename_i n hn
  split at hk
  · rename_i id q
    obtain ⟨b, hb, hv⟩ := inv_ptr hx
    obtain ⟨m, hm, hk⟩ := rdM_ok hk
    have he := h.ent id m hm
    split at hk
    · exact hk.elim
    rename_i hrf
    have hrow : m.row = false := by cases hr : m.row <;> simp [hr] at hrf ⊢
    have hz : m.frz = false := by cases hr : m.frz <;> simp [hr] at hrf ⊢
    obtain ⟨hver, hsh⟩ := he.plain hrow
    have hb' : own.env id m.ver = some (some b) := by rw [hver]; exact hb
    split at hk
    case h_2 => exact hk.elim
    rename_i l hl
    split at hk
    case isFalse => exact hk.elim
    rename_i hc
    obtain ⟨hc1, hc2, hc3, hc4⟩ := hc
    obtain ⟨harr, hk⟩ := arrsOne_ok hk
    have hws : ws = segWrites id q l := hk.symm
    subst hws
    obtain ⟨hsz, hrel⟩ := rel_cells hy hl
    obtain ⟨cs, e, lo, hi, hh, r1, r2, r3, r4, r5, r6⟩ := (he.live b hb' hz).body
    have hlen := St.segs_length s id m.ns
    have hshl : (((s.segs id m.ns).drop q).take l.length).map Seg.shape = l.map Seg.shape := by
      rw [hsh] at hc3
      rw [List.map_take, List.map_drop]; exact hc3
    have hmid : segsSize (((s.segs id m.ns).drop q).take l.length) = segsSize l := shape_size hshl
    have hst : own.st id q = segsSize ((s.segs id m.ns).take q) ∨ l = [] := by
      rcases Nat.lt_or_ge q m.ns with h1 | h1
      · exact .inl (he.st q h1)
      · refine .inr ?_
        match l, hc2 with
        | [], _ => rfl
        | _ :: _, hc2 => simp at hc2; omega
    have hsplit : s.segs id m.ns = (s.segs id m.ns).take q ++ ((s.segs id m.ns).drop q).take l.length ++ (s.segs id m.ns).drop (q + l.length) := by
      conv => lhs; rw [← List.take_append_drop q (s.segs id m.ns), ← List.take_append_drop l.length ((s.segs id m.ns).drop q)]
      rw [List.drop_drop, List.append_assoc]
    have htot : segsSize (s.segs id m.ns) = segsSize ((s.segs id m.ns).take q) + segsSize l + segsSize ((s.segs id m.ns).drop (q + l.length)) := by
      conv => lhs; rw [hsplit]
      rw [segsSize_append, segsSize_append, hmid]
    rcases hst with hst | rfl
    case inr =>
      -- nothing is stored
      have h0 : (a.eval y).cells.size = 0 := by rw [hsz]; rfl
      have hn0 : n = 0 := by rw [← hc1]; rfl
      have hrun : (storeVar T ⟨b, own.st id q, none⟩ (a.eval y)).run P w = .ok () w := by
        simp only [storeVar, Sem.run_bind, run_sizeT hn, Result.andThen_ok, h0, hn0]
        have : (a.eval y).cells.toList = [] := by simpa using h0
        simp [this, storeCells]
      exact snd_store_of ho hd hv hrun ⟨ro, own, h⟩
    have hrun := run_storeVar (w := w) hn (b := b) (off := own.st id q) hh (v := a.eval y) (by rw [hsz, hc1]) (mem_cells_one fun k hk => by
      obtain ⟨sv, e1, e2⟩ := one_flat hc4 harr k (by rw [← hsz]; exact hk)
      exact oneCell_rel (hrel k sv e1) e2) (by rw [hst]; omega) (by rw [hst]; omega)
    refine snd_store_of ho hd hv hrun ⟨ro, own, h.turn hm hz hb' hh (size_setRange _ _ _) (fun loc hloc => apply_segWrites_ne _ _ _ _ _ hloc) ?_ ?_⟩
    · rw [segs_apply_range _ _ _ _ _ hc2]
      conv => rhs; rw [hsplit]
      simp only [List.map_append, hshl]
    · intro k sv hk
      rw [segs_apply_range _ _ _ _ _ hc2, take_append_flat k _ rfl] at hk
      have hflat : flat (s.segs id m.ns) k = if k < segsSize ((s.segs id m.ns).take q) then flat ((s.segs id m.ns).take q) k else if k < segsSize ((s.segs id m.ns).take q) + segsSize l then flat (((s.segs id m.ns).drop q).take l.length) (k - segsSize ((s.segs id m.ns).take q)) else flat ((s.segs id m.ns).drop (q + l.length)) (k - (segsSize ((s.segs id m.ns).take q) + segsSize l)) := by
        conv => lhs; rw [hsplit]
        rw [take_append_flat k _ rfl, hmid]
      have hvl : (a.eval y).cells.toList.length = segsSize l := by simpa using hsz
      rw [getD_setRange _ _ _ _ (by rw [hvl, hst]; omega), hst, hvl, getD_toList]
      by_cases k1 : k < segsSize ((s.segs id m.ns).take q)
      · rw [if_neg (by omega)]
        rw [if_pos k1] at hk hflat
        exact r4 k sv (by rw [hflat]; exact hk)
      · rw [if_neg k1] at hk hflat
        by_cases k2 : k < segsSize ((s.segs id m.ns).take q) + segsSize l
        · rw [if_pos (by omega)]
          rw [if_pos k2] at hk
          exact hrel _ sv hk
        · rw [if_neg (by omega)]
          rw [if_neg k2] at hk hflat
          exact r4 k sv (by rw [hflat]; exact hk)
  · rename_i id ver q i j
    obtain ⟨b, hb, hv⟩ := inv_pel hx
    obtain ⟨m, hm, hk⟩ := rdM_ok hk
    have he := h.ent id m hm
    split at hk
    case isFalse => exact hk.elim
    rename_i hvq
    obtain ⟨hver, hq, hz⟩ := hvq
    rw [← hver] at hb
    obtain ⟨y2, hy2, hk⟩ := rdS_ok hk
    split at hk
    case h_2 => exact hk.elim
    rename_i k es f
    split at hk
    case h_2 => exact hk.elim
    rename_i vs hvs
    obtain ⟨hi, hk⟩ := hk
    split at hk
    case isFalse => exact hk.elim
    rename_i hc
    obtain ⟨hc1, hc2, hc3, hc4⟩ := hc
    have hws : ws = [(.sg id q, .s (.a k es fun i' => mergeL (decide (i' = i)) (setL (f i) j vs) (f i')))] := hk.symm
    subst hws
    obtain ⟨hsz, hrel⟩ := rel_cellsL hy hvs
    obtain ⟨cs, e, lo, hi', hh, r1, r2, r3, r4, r5, r6⟩ := (he.live b hb hz).body
    have hseg : (s.segs id m.ns)[q]? = some (.a k es f) := by rw [St.segs_getElem _ _ _ _ hq, hy2]
    have hes : own.es id q = es := by rw [he.es q _ hseg]; rfl
    have hst := he.st q hq
    have hsle := seg_le hseg
    simp only [Seg.size] at hsle
    have hik : i * es + es ≤ k * es := by
      have : (i + 1) * es ≤ k * es := Nat.mul_le_mul_right _ hi
      rw [Nat.add_mul] at this; omega
    rw [hes] at hv
    have hrun := run_storeVar (w := w) hn (b := b) (off := own.st id q + i * es + j) hh (v := a.eval y) (by rw [hsz, hc3]) (mem_cells_one fun k hk => by
      have hk' : k < vs.length := by rw [← hsz]; exact hk
      simp only [List.all_eq_true] at hc4
      exact oneCell_rel (hrel k _ (List.getElem?_eq_getElem hk')) (hc4 _ (List.getElem_mem hk'))) (by rw [hst]; omega) (by rw [hst]; omega)
    have hset : (s.apply [(.sg id q, .s (.a k es fun i' => mergeL (decide (i' = i)) (setL (f i) j vs) (f i')))]).segs id m.ns = (s.segs id m.ns).set q (.a k es fun i' => mergeL (decide (i' = i)) (setL (f i) j vs) (f i')) := by
      apply List.ext_getElem?
      intro t
      by_cases ht : t < m.ns
      · rw [St.segs_getElem _ _ _ _ ht, List.getElem?_set]
        by_cases htq : q = t
        · subst htq
          simp [St.segs_length, ht, St.seg, St.apply, St.put]
        · rw [if_neg htq, St.segs_getElem _ _ _ _ ht]
          simp [St.seg, St.apply, St.put, Ne.symm htq]
      · rw [List.getElem?_eq_none (by simp [St.segs_length]; omega), List.getElem?_eq_none (by simp [St.segs_length]; omega)]
    have hsl : (setL (f i) j vs).length = es := by simp [setL]; omega
    refine snd_store_of ho hd hv hrun ⟨ro, own, h.turn hm hz hb hh (size_setRange _ _ _) (fun loc hloc => by simp [St.apply, St.put, hloc q]) ?_ ?_⟩
    · rw [hset]
      apply List.ext_getElem?
      intro t
      simp only [List.getElem?_map, List.getElem?_set]
      by_cases htq : q = t
      · subst htq
        rw [if_pos rfl, hseg]
        simp [St.segs_length, hq, Seg.shape]
      · rw [if_neg htq]
    · intro t sv ht
      rw [hset, flat_set (y := .a k es fun i' => mergeL (decide (i' = i)) (setL (f i) j vs) (f i')) hseg rfl] at ht
      have hvl : (a.eval y).cells.toList.length = vs.length := by simpa using hsz
      rw [getD_setRange _ _ _ _ (by rw [hvl, hst]; omega), hvl, getD_toList, hst]
      by_cases h1 : segsSize ((s.segs id m.ns).take q) ≤ t ∧ t < segsSize ((s.segs id m.ns).take q) + (Seg.a k es f).size
      · rw [if_pos h1] at ht
        obtain ⟨h1a, h1b⟩ := h1
        simp only [Seg.size] at h1b
        obtain ⟨u, rfl⟩ : ∃ u, t = segsSize ((s.segs id m.ns).take q) + u := ⟨t - segsSize ((s.segs id m.ns).take q), by omega⟩
        rw [show segsSize ((s.segs id m.ns).take q) + u - segsSize ((s.segs id m.ns).take q) = u from by omega] at ht
        have hu : u < k * es := by omega
        have hes0 : 0 < es := by
          rcases Nat.eq_zero_or_pos es with h0 | h0
          · subst h0; simp at hu
          · exact h0
        have hdm : u / es * es + u % es = u := by rw [Nat.mul_comm]; exact Nat.div_add_mod u es
        have hmod : u % es < es := Nat.mod_lt _ hes0
        simp only [Seg.at, hu, if_true] at ht
        obtain ⟨x1, y1, hx1, hy1, rfl⟩ := mergeL_at ht
        have hold : flat (s.segs id m.ns) (segsSize ((s.segs id m.ns).take q) + u) = (f (u / es))[u % es]? := by
          rw [flat_at hseg u (by simp only [Seg.size]; exact hu)]
          simp only [Seg.at, hu, if_true]
        by_cases hin : u / es = i
        · -- the element itself
          rw [hin] at hdm hy1 hold
          by_cases hj : j ≤ u % es ∧ u % es < j + vs.length
          · rw [if_pos (by omega)]
            refine rel_ite (fun _ => ?_) (fun hf => by simp [hin] at hf)
            have : vs[u % es - j]? = some x1 := by
              simp only [setL] at hx1
              rw [List.append_assoc, List.getElem?_append_right (by simp; omega), List.getElem?_append_left (by simp; omega)] at hx1
              have e1 : u % es - ((f i).take j).length = u % es - j := by simp; omega
              rw [e1] at hx1; exact hx1
            have := hrel _ _ this
            rw [show segsSize ((s.segs id m.ns).take q) + u - (segsSize ((s.segs id m.ns).take q) + i * es + j) = u % es - j from by omega]
            exact this
          · rw [if_neg (by omega)]
            refine rel_ite (fun _ => ?_) (fun hf => by simp [hin] at hf)
            have : (f i)[u % es]? = some x1 := by
              simp only [setL] at hx1
              by_cases hlt : u % es < j
              · rw [List.append_assoc, List.getElem?_append_left (by simp; omega), List.getElem?_take, if_pos hlt] at hx1
                exact hx1
              · rw [List.getElem?_append_right (by simp; omega), List.getElem?_drop] at hx1
                have e1 : j + vs.length + (u % es - ((f i).take j ++ vs).length) = u % es := by simp; omega
                rw [e1] at hx1; exact hx1
            exact r4 _ _ (by rw [hold]; exact this)
        · -- another element
          have hne : ¬ (i * es ≤ u ∧ u < i * es + es) := by
            rintro ⟨g1, g2⟩
            apply hin
            rw [Nat.div_eq_iff hes0]; omega
          have hnr : ¬ (segsSize ((s.segs id m.ns).take q) + i * es + j ≤ segsSize ((s.segs id m.ns).take q) + u ∧ segsSize ((s.segs id m.ns).take q) + u < segsSize ((s.segs id m.ns).take q) + i * es + j + vs.length) := by omega
          rw [if_neg hnr]
          refine rel_ite (fun hf => by simp [hin] at hf) (fun _ => ?_)
          exact r4 _ _ (by rw [hold]; exact hy1)
      · rw [if_neg h1] at ht
        simp only [Seg.size] at h1
        rw [if_neg (by omega)]
        exact r4 t sv ht
  · exact hk.elim
end
end Go.Sx
