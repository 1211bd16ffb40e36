/-
  The operations' soundness, eighth part: aggregates and rows that are made, slices, lengths, the least and the greatest.
-/
import Derived.Test.YteemgogalahhnaaEngJ
namespace Go.Sx
set_option linter.unusedVariables false
set_option linter.unusedSimpArgs false
open Go Go.RowKit

theorem foldl_setRange (off : Nat) : ∀ (vs : List Value) (j : Nat) (cs : Array Value), (vs.zipIdx j).foldl (fun cs (x : Value × Nat) => cs.setIfInBounds (off + x.2) x.1) cs = setRange cs (off + j) vs
  | [], _, _ => rfl
  | v :: r, j, cs => by
    rw [List.zipIdx_cons, List.foldl_cons, foldl_setRange off r (j + 1)]
    rfl
theorem run_mapM_sizes {P : Program} {w : World} : ∀ (fs : List Field), fs.all (fun f => (sizeT P f.type).isSome) = true → ((fs.mapM fun f => do pure (f.offset, ← sizeOf f.type) : Sem (List (Nat × Nat)))).run P w = .ok (fs.map fun f => (f.offset, (sizeT P f.type).getD 0)) w
  | [], _ => by simp
  | f :: r, h => by
    simp only [List.all_cons, Bool.and_eq_true] at h
    obtain ⟨n, hn⟩ := Option.isSome_iff_exists.1 h.1
    simp only [List.mapM_cons, Sem.run_bind, run_sizeT hn, Result.andThen_ok, Sem.run_pure, run_mapM_sizes r h.2, List.map_cons, hn, Option.getD_some]
theorem zip_map_fst {α β : Type} : ∀ (l : List (α × β)), (l.map (·.1)).zip (l.map (·.2)) = l
  | [] => rfl
  | x :: r => by simp [zip_map_fst r]

section
variable {E : Env} {P : Program} {ro : RO} {own : Own} {s : St} {w : World} {a : Act}
/-- One part is filled in. -/
theorem fill_step {place : Nat → Option (Nat × Nat)} {i off n : Nat} {v : Value} {cs : Array Value} {rest : List (Nat × Value)} (hp : place i = some (off, n)) (hv : v.cells.size = n) (hle : off + n ≤ cs.size) :
    Instr.fill place cs ((i, v) :: rest) = Instr.fill place (setRange cs off v.cells.toList) rest := by
  simp only [Instr.fill, hp]
  rw [if_neg (by simp [hv]; omega)]
  congr 1
  have := foldl_setRange off v.cells.toList 0 cs
  rw [Nat.add_zero] at this
  rw [← this, ← Array.foldl_toList]
  simp [Array.toList_zipIdx]
def CellsR (ro : RO) (own : Own) (l : List Seg) (cs : Array Value) : Prop := cs.size = segsSize l ∧ ∀ (k : Nat) (sv : SV), flat l k = some sv → Rel ro own sv (cs.getD k undef)
theorem buildS_spec {T : TypeId} {fs : Array Field} (hT : P.underlying T = some (.struct fs)) : ∀ {parts : List (Nat × SV)} {vals : List (Nat × Value)} {l l' : List Seg} {cs : Array Value}, buildS P T parts l = some l' → CellsR ro own l cs →
    parts.map (·.1) = vals.map (·.1) → RelL ro own (parts.map (·.2)) (vals.map (·.2)) → ∃ cs', Instr.fill (fun i => (fs[i]?).map fun f => (f.offset, (sizeT P f.type).getD 0)) cs vals = some cs' ∧ CellsR ro own l' cs'
  | [], [], l, l', cs, h, hc, _, _ => by simp [buildS] at h; subst h; exact ⟨cs, rfl, hc⟩
  | (i, x) :: r, (i', v) :: vr, l, l', cs, h, hc, hi, hr => by
    simp only [List.map_cons, List.cons.injEq] at hi
    obtain ⟨rfl, hi⟩ := hi
    obtain ⟨hx, hr⟩ := hr
    simp only [buildS] at h
    split at h
    case h_2 => cases h
    rename_i f vs hf hvs
    split at h
    case isFalse => cases h
    rename_i hn
    split at h
    case h_2 => cases h
    rename_i A B hA hB
    obtain ⟨a1, a2, a3⟩ := takeSegs_spec hA
    obtain ⟨b1, b2⟩ := dropSegs_spec hB
    obtain ⟨v1, v2⟩ := rel_cells hx hvs
    have hfs : fs[i]? = some f := by simpa [fieldOf, hT] using hf
    have hc' : CellsR ro own (A ++ vs ++ B) (setRange cs f.offset v.cells.toList) := by
      have hvl : v.cells.toList.length = segsSize vs := by simpa using v1
      refine ⟨by rw [size_setRange, segsSize_append, segsSize_append, hc.1]; omega, fun k sv hk => ?_⟩
      rw [take_append_flat k f.offset a1] at hk
      rw [getD_setRange _ _ _ _ (by rw [hvl, hc.1]; omega), hvl, getD_toList]
      by_cases k1 : k < f.offset
      · rw [if_pos k1, a3 k k1] at hk
        rw [if_neg (by omega)]
        exact hc.2 k sv hk
      · rw [if_neg k1] at hk
        by_cases k2 : k < f.offset + segsSize vs
        · rw [if_pos k2] at hk
          rw [if_pos (by omega)]
          exact v2 _ sv hk
        · rw [if_neg k2, b2, show f.offset + segsSize vs + (k - (f.offset + segsSize vs)) = k from by omega] at hk
          rw [if_neg (by omega)]
          exact hc.2 k sv hk
    obtain ⟨cs', e1, e2⟩ := buildS_spec hT h hc' hi hr
    exact ⟨cs', by rw [fill_step (off := f.offset) (n := segsSize vs) (by simp [hfs, hn]) v1 (by rw [hc.1]; omega)]; exact e1, e2⟩
  | [], _ :: _, _, _, _, _, _, hi, _ => by simp at hi
  | _ :: _, [], _, _, _, _, _, hi, _ => by simp at hi
theorem buildA_spec {n es : Nat} : ∀ {parts : List (Nat × SV)} {vals : List (Nat × Value)} {f f' : Nat → List SV} {cs : Array Value}, buildA n es parts f = some f' → CellsR ro own [.a n es f] cs →
    parts.map (·.1) = vals.map (·.1) → RelL ro own (parts.map (·.2)) (vals.map (·.2)) → ∃ cs', Instr.fill (fun i => some (i * es, es)) cs vals = some cs' ∧ CellsR ro own [.a n es f'] cs'
  | [], [], f, f', cs, h, hc, _, _ => by simp [buildA] at h; subst h; exact ⟨cs, rfl, hc⟩
  | (i, x) :: r, (i', v) :: vr, f, f', cs, h, hc, hi, hr => by
    simp only [List.map_cons, List.cons.injEq] at hi
    obtain ⟨rfl, hi⟩ := hi
    obtain ⟨hx, hr⟩ := hr
    simp only [buildA] at h
    split at h
    case h_2 => cases h
    rename_i vs hvs
    split at h
    case isFalse => cases h
    rename_i hc0
    obtain ⟨hin, hlen⟩ := hc0
    obtain ⟨v1, v2⟩ := rel_cellsL hx hvs
    have hsz : cs.size = n * es := by rw [hc.1]; simp [segsSize, Seg.size]
    have hie : i * es + es ≤ n * es := by
      have : (i + 1) * es ≤ n * es := Nat.mul_le_mul_right _ hin
      rw [Nat.add_mul] at this; omega
    have hvl : v.cells.toList.length = es := by rw [← hlen]; simpa using v1
    have key : ∀ g : Nat → List SV, (∀ (t j : Nat) (sv : SV), t < n → (g t)[j]? = some sv → j < es → (t = i → vs[j]? = some sv ∨ ∃ y, sv = mergeIf true (vs.getD j .any) y ∧ j < vs.length) ∧ (t ≠ i → ∃ y, (f t)[j]? = some y ∧ (sv = y ∨ ∃ x, sv = mergeIf false x y))) →
        CellsR ro own [.a n es g] (setRange cs (i * es) v.cells.toList) := by
      intro g hg
      refine ⟨by rw [size_setRange, hsz]; simp [segsSize, Seg.size], fun k sv hk => ?_⟩
      have hk2 : k < n * es := by have := flat_lt hk; simpa [segsSize, Seg.size] using this
      rw [flat_al hk2] at hk
      have hes0 : 0 < es := by
        rcases Nat.eq_zero_or_pos es with h0 | h0
        · subst h0; simp at hk2
        · exact h0
      have hdm : k / es * es + k % es = k := by rw [Nat.mul_comm]; exact Nat.div_add_mod k es
      have hmod : k % es < es := Nat.mod_lt _ hes0
      have hkn : k / es < n := by rw [Nat.div_lt_iff_lt_mul hes0]; exact hk2
      obtain ⟨g1, g2⟩ := hg (k / es) (k % es) sv hkn hk hmod
      rw [getD_setRange _ _ _ _ (by rw [hvl, hsz]; omega), hvl, getD_toList]
      by_cases hin : k / es = i
      · rw [hin] at hdm
        rw [if_pos (by omega), show k - i * es = k % es from by omega]
        rcases g1 hin with h1 | ⟨y, rfl, hj⟩
        · exact v2 _ _ h1
        · refine rel_ite (fun _ => v2 _ _ ?_) (by simp)
          rw [List.getD_eq_getElem?_getD, List.getElem?_eq_getElem hj]; rfl
      · have hne : ¬ (i * es ≤ k ∧ k < i * es + es) := by
          rintro ⟨q1, q2⟩
          apply hin
          rw [Nat.div_eq_iff hes0]; omega
        rw [if_neg hne]
        obtain ⟨y, hy, hh⟩ := g2 hin
        have hry := hc.2 k y (by rw [flat_al hk2]; exact hy)
        rcases hh with rfl | ⟨x, rfl⟩
        · exact hry
        · exact rel_ite (by simp) (fun _ => hry)
    have hc' : CellsR ro own [.a n es (if n = 1 then (fun _ => vs) else fun i' => mergeL (decide (i' = i)) vs (f i'))] (setRange cs (i * es) v.cells.toList) := by
      by_cases h1 : n = 1
      · rw [if_pos h1]
        refine key _ fun t j sv ht hg hj => ⟨fun _ => .inl hg, fun hne => ?_⟩
        omega
      · rw [if_neg h1]
        refine key _ fun t j sv ht hg hj => ?_
        obtain ⟨x1, y1, hx1, hy1, rfl⟩ := mergeL_at hg
        refine ⟨fun e => .inr ⟨y1, ?_, (List.getElem?_eq_some_iff.1 hx1).1⟩, fun e => ⟨y1, hy1, .inr ⟨x1, by simp [e]⟩⟩⟩
        rw [List.getD_eq_getElem?_getD, hx1]
        simp [e]
    obtain ⟨cs', e1, e2⟩ := buildA_spec h hc' hi hr
    exact ⟨cs', by rw [fill_step (off := i * es) (n := es) rfl (by rw [v1, hlen]) (by rw [hsz]; omega)]; exact e1, e2⟩
  | [], _ :: _, _, _, _, _, _, hi, _ => by simp at hi
  | _ :: _, [], _, _, _, _, _, hi, _ => by simp at hi
theorem parts_rel (h : SimG E ro own s w a) {parts : Array (Nat × Operand)} {k : List SV → Tx} {ws} (hk : (rdOs (parts.toList.map (·.2)) k).ok s ws) :
    ∃ xs, (k xs).ok s ws ∧ ((parts.toList.map (·.1)).zip xs).map (·.1) = ((parts.map fun (i, x) => (i, a.eval x)).toList).map (·.1) ∧ RelL ro own (((parts.toList.map (·.1)).zip xs).map (·.2)) (((parts.map fun (i, x) => (i, a.eval x)).toList).map (·.2)) := by
  obtain ⟨xs, hr, hk⟩ := rdOs_ok h hk
  have hl := hr.length
  simp at hl
  refine ⟨xs, hk, ?_, ?_⟩
  · rw [List.map_fst_zip (by simp [hl])]
    simp [Function.comp_def]
  · rw [List.map_snd_zip (by simp [hl])]
    simpa [Function.comp_def] using hr
theorem snd_build (h : SimG E ro own s w a) {o : Oper} {T : TypeId} {parts : Array (Nat × Operand)} (ho : o.op = .build T parts) {ws}
    (hk : (rdOs (parts.toList.map (·.2)) fun xs => txBuild P E.N o.dst T ((parts.toList.map (·.1)).zip xs)).ok s ws) : Snd E P o s w a ws := by
  obtain ⟨xs, hk, hidx, hrel⟩ := parts_rel h hk
  unfold txBuild at hk
  split at hk
  case h_2 => exact hk.elim
  rename_i l z hz
  obtain ⟨hrun, hs, hh⟩ := zeroOf_rel (ro := ro) (own := own) hz
  split at hk
  · rename_i l0 fs hT
    split at hk
    case isFalse => exact hk.elim
    rename_i hall
    split at hk
    case h_2 => exact hk.elim
    rename_i l' hl'
    obtain ⟨cs', e1, e2⟩ := buildS_spec hT hl' ⟨hs, hh⟩ hidx hrel
    refine snd_val h (v := .agg cs') ?_ (.agg _ _ _ e2.1 e2.2) hk
    unfold execOp
    have hm := run_mapM_sizes (P := P) (w := w) fs.toList hall
    have e3 : (fun i : Nat => (fs[i]?).map fun (f : Field) => (f.offset, (sizeT P f.type).getD 0)) = fun i => (fs.map fun (f : Field) => (f.offset, (sizeT P f.type).getD 0))[i]? := by
      funext i; simp
    rw [e3] at e1
    simp only [ho, Instr.build, Sem.run_bind, hrun, Result.andThen_ok, run_underlying hT, Array.mapM_eq_mapM_toList, Sem.run_map, hm]
    rw [show (List.map (fun f => (f.offset, (sizeT P f.type).getD 0)) fs.toList).toArray = fs.map fun f => (f.offset, (sizeT P f.type).getD 0) from Array.ext' (by simp), e1]
    rfl
  · rename_i n e n' es f hT
    split at hk
    case isFalse => exact hk.elim
    rename_i hc
    obtain ⟨rfl, hes⟩ := hc
    split at hk
    case h_2 => exact hk.elim
    rename_i f' hf'
    obtain ⟨cs', e1, e2⟩ := buildA_spec hf' ⟨hs, hh⟩ hidx hrel
    refine snd_val h (v := .agg cs') ?_ (.agg _ _ _ e2.1 e2.2) hk
    unfold execOp
    simp only [ho, Instr.build, Sem.run_bind, hrun, Result.andThen_ok, run_underlying hT, run_sizeT hes, e1, Sem.run_pure]
  · exact hk.elim
theorem zeroCells_spec {e : TypeId} {z : List SV} (h : zeroCellsOf P e = some z) : ∃ zv, (∀ w : World, (zeroValue e).run P w = .ok zv w) ∧ zv.cells.size = z.length ∧ ∀ (k : Nat) (sv : SV), z[k]? = some sv → Rel ro own sv (zv.cells.getD k undef) := by
  unfold zeroCellsOf at h
  split at h
  case h_2 => cases h
  rename_i l zv hz
  have hl := cellsOfSegs_spec h
  obtain ⟨h1, h2, h3⟩ := zeroOf_rel (ro := ro) (own := own) hz
  subst hl
  exact ⟨zv, h1, by rw [h2, segsSize_map_s], fun k sv hk => h3 k sv (by rw [flat_map_s]; exact hk)⟩
/-- A row of zero values. -/
theorem zeroRow {z : List SV} {zv : Array Value} {n es : Nat} (hz : zv.size = z.length) (hes : z.length = es) (h : ∀ (k : Nat) (sv : SV), z[k]? = some sv → Rel ro own sv (zv.getD k undef)) :
    CellsR ro own [.a n es fun _ => z] ((Array.range (n * es)).map (zv[· % zv.size]!)) := by
  refine ⟨by simp [segsSize, Seg.size], fun k sv hk => ?_⟩
  have hk2 : k < n * es := by have := flat_lt hk; simpa [segsSize, Seg.size] using this
  rw [flat_al hk2] at hk
  have hes0 : 0 < es := by
    rcases Nat.eq_zero_or_pos es with h0 | h0
    · subst h0; simp at hk2
    · exact h0
  have := h _ sv hk
  have hm : k % es < zv.size := by rw [hz, hes]; exact Nat.mod_lt _ hes0
  have e : ((Array.range (n * es)).map (zv[· % zv.size]!)).getD k undef = zv.getD (k % es) undef := by
    have hm' : k % zv.size < zv.size := by rw [hz, hes]; exact Nat.mod_lt _ hes0
    simp only [Array.getD_eq_getD_getElem?, Array.getElem?_map, Array.getElem?_range, hk2, if_true, Option.map_some, Option.getD_some]
    rw [getElem!_pos zv _ hm', getElem?_pos zv _ hm]
    simp only [Option.getD_some]
    congr 1
    rw [hz, hes]
  rw [e]; exact this
theorem snd_buildSlice (h : SimG E ro own s w a) {o : Oper} {nid : Nat} {T : TypeId} {len : Nat} {parts : Array (Nat × Operand)} (ho : o.op = .buildSlice T len parts) {ws}
    (hk : (rdOs (parts.toList.map (·.2)) fun xs => txBuildSlice P E.N nid o.dst T len ((parts.toList.map (·.1)).zip xs)).ok s ws) : Snd E P o s w a ws := by
  obtain ⟨xs, hk, hidx, hrel⟩ := parts_rel h hk
  unfold txBuildSlice at hk
  split at hk
  case h_2 => exact hk.elim
  rename_i e hT
  split at hk
  case h_2 => exact hk.elim
  rename_i z es hz hes
  split at hk
  case isFalse => exact hk.elim
  rename_i hc
  obtain ⟨hc1, hc2, hc3⟩ := hc
  split at hk
  case h_2 => exact hk.elim
  rename_i f hf
  obtain ⟨zv, z1, z2, z3⟩ := zeroCells_spec (ro := ro) (own := own) hz
  have hzr : CellsR ro own [.a len es fun _ => z] ((Array.range (len * es)).map ((if len * es = 0 then #[] else zv.cells)[· % (if len * es = 0 then #[] else zv.cells).size]!)) := by
    by_cases h0 : len * es = 0
    · refine ⟨by simp [segsSize, Seg.size], fun k sv hk => ?_⟩
      have := flat_lt hk
      simp [segsSize, Seg.size] at this
      omega
    · simp only [h0, if_false]
      exact zeroRow z2 hc1 z3
  obtain ⟨cs', e1, e2⟩ := buildA_spec hf hzr hidx hrel
  have hcs : cs'.size = len * es := by rw [e2.1]; simp [segsSize, Seg.size]
  refine snd_new h (cap := len) (v := .slice (some ⟨w.heap.size, 0, none⟩) len len) (w' := w.alloc (.cells cs' e)) (lo := 0) (hi := 0) rfl rfl rfl rfl ?_ (fun _ => ⟨len, f, rfl, Nat.le_refl _, hcs⟩) (by simp) (by rw [e2.1]; exact Nat.le_refl _) (.inl (Nat.le_refl _)) ?_ e2.2 ?_ hk
  · unfold execOp
    simp only [ho, Instr.buildSlice, Sem.run_bind, run_underlying hT, Result.andThen_ok, run_sizeT hes]
    rw [if_neg (by omega)]
    by_cases h0 : len * es = 0
    · simp only [h0, if_true] at e1
      simp only [h0, if_true, Sem.run_pure, Result.andThen_ok, e1, newRow, Sem.run_bind, run_newObj]
      rfl
    · simp only [h0, if_false] at e1
      simp only [h0, if_false, Sem.run_bind, z1, Result.andThen_ok, Sem.run_pure, e1, newRow, run_newObj]
      rfl
  · rintro t ht
    simp at ht
    refine ⟨rfl, rfl, ht, ?_⟩
    have : len ≤ len * es := Nat.le_mul_of_pos_right _ hc2
    unfold maxLen; omega
  · intro own' k1 k2 k3 k4
    have := Rel.sl (ro := ro) own' nid 0 0 len w.heap.size k1 (by rw [k2]; omega)
    rw [k2] at this
    simpa using this
theorem snd_makeSlice (h : SimG E ro own s w a) {o : Oper} {nid : Nat} {T : TypeId} {x y : Operand} (ho : o.op = .makeSlice T x y) {ws} (hk : (rdO x fun x => rdO y fun y => txMakeSlice P E.N nid o.dst T x y).ok s ws) : Snd E P o s w a ws := by
  obtain ⟨x', hx, hk1⟩ := rdO_ok h hk
  clear hk
  obtain ⟨y', hy, hk⟩ := rdO_ok h hk1
  clear hk1
  unfold txMakeSlice at hk
  split at hk
  case h_2 => exact hk.elim
  rename_i e n n' hT
  split at hk
  case h_2 => exact hk.elim
  rename_i z i hz hi
  split at hk
  case isFalse => exact hk.elim
  rename_i hc
  obtain ⟨hc1, hc2⟩ := hc
  obtain ⟨⟨rfl, hn0, hn1, hn2⟩, hk⟩ := hk
  obtain ⟨zv, z1, z2, z3⟩ := zeroCells_spec (ro := ro) (own := own) hz
  obtain ⟨m, rfl⟩ := Int.eq_ofNat_of_zero_le hn0
  have hm : (m : Int).toNat = m := by simp
  simp only [Int.ofNat_eq_natCast, hm] at hk
  have hzr := zeroRow (ro := ro) (own := own) (n := m) z2 hc1 z3
  have hzi : i.zero = some zv := by
    have := z1 w
    simp only [zeroValue, Sem.run_bind, run_info hi, Result.andThen_ok] at this
    cases hq : i.zero with
    | none => rw [hq] at this; simp at this
    | some q => rw [hq] at this; simp at this; rw [this]
  have hrun := run_make (P := P) w T e i zv hT hi hzi .i64 .i64 m m (by omega) (by omega) (by simpa using hn2) (by omega)
  have hmc : madeCells zv.cells (m * i.size) = (Array.range (m * i.size)).map (zv.cells[· % zv.cells.size]!) := rfl
  refine snd_new h (cap := m) (v := .slice (some ⟨w.heap.size, 0, none⟩) m m) (w' := w.alloc (.cells (madeCells zv.cells (m * i.size)) e)) (lo := 0) (hi := 0) rfl rfl rfl rfl ?_ (fun _ => ⟨m, _, rfl, Nat.le_refl _, by simp [madeCells]⟩) (by simp) (by simp [madeCells, segsSize, Seg.size]) (.inl (Nat.le_refl _)) ?_ (by rw [hmc]; exact hzr.2) ?_ hk
  · unfold execOp
    rw [ho]
    simp only [inv_int hx, inv_int hy, Sem.run_bind]
    simp only [Int.toNat_natCast] at hrun
    rw [hrun]
    rfl
  · rintro t ht
    simp at ht
    exact ⟨rfl, rfl, ht, by unfold maxLen; omega⟩
  · intro own' k1 k2 k3 k4
    have := Rel.sl (ro := ro) own' nid 0 0 m w.heap.size k1 (by rw [k2]; omega)
    rw [k2] at this
    simpa using this
end
end Go.Sx
