/-
  The operations' soundness: copy onto an own row of cells.
-/
import Derived.Test.YteemgogalahhnaaEngN
import Derived.Laws.CopyRow
namespace Go.Sx
set_option linter.unusedVariables false
set_option linter.unusedSimpArgs false
open Go Go.RowKit

section
variable {E : Env} {P : Program} {ro : RO} {own : Own} {s : St} {w : World} {a : Act}
theorem setRow_putCs {g : Nat} {cur cs : Array Value} {t : TypeId} {lo hi : Nat} (hg : w.heap[g]? = some (.cells cur t (lo, hi))) : w.setRow g cs = putCs w g cs t lo hi := by
  obtain ⟨hlt, hv⟩ := Array.getElem?_eq_some_iff.1 hg
  unfold World.setRow putCs
  congr 1
  apply Array.ext_getElem?
  intro i
  rw [Array.getElem?_modify, Array.getElem?_setIfInBounds]
  by_cases e : g = i
  · subst e; rw [if_pos rfl, if_pos rfl, hg, if_pos hlt]; rfl
  · rw [if_neg e, if_neg e]
/-- copy's run, whatever the source. -/
theorem run_copy_gen (dT sT ty elem : TypeId) (g o dLen dCap k : Nat) (src : Value) (cur : Array Value) (t : TypeId) (cs : List Value)
    (hu : P.underlying dT = some (.slice elem)) {i : TypeInfo} (hq : P.info? elem = some i) (hi : i.size = 1)
    (hg : w.heap[g]? = some (.cells cur t (0, 0))) (hlen : (Builtin.lenOf src).run P w = .ok k w) (hn : cs.length = Nat.min k dLen)
    (hfc : (Builtin.firstCells 1 (Nat.min k dLen) src).run P w = .ok cs.toArray w) (hfit : o + cs.length ≤ cur.size) (h1 : ∀ v ∈ cs, v.oneCell' = true) :
    (Builtin.copy_ #[dT, sT] ty #[.slice (some ⟨g, o, none⟩) dLen dCap, src]).run P w =
      .ok (goInt cs.length) (w.setRow g (cur.toList.take o ++ cs ++ cur.toList.drop (o + cs.length)).toArray) := by
  have hst := run_storeCells_at P g o t cs 0 cur w hg (by simpa using hfit) h1
  simp [Builtin.copy_, run_underlying hu, sizeOf, typeInfo, hq, hi, hlen, hn ▸ hfc, ← hn, hst]
theorem goInt_eq (n : Nat) : goInt n = .int .i64 n := rfl
theorem snd_copyTo (h : SimG E ro own s w a) {o : Oper} {c : Call} {T U e : TypeId} {i : TypeInfo} {x : SV} {vx vy : Value} {k : Nat} {g : Nat → List SV} (ho : o.op = .call c) (hc : c.callee = .builtin .copy) (hT : c.argTypes = #[T, U]) (hargs : c.args.map a.eval = #[vx, vy])
    (hu : P.underlying T = some (.slice e)) (hi : P.info? e = some i) (hs1 : i.size = 1) (hx : Rel ro own x vx) (hlen : (Builtin.lenOf vy).run P w = .ok k w)
    (hsrc : ∀ n, n ≤ k → ∃ cs : List Value, cs.length = n ∧ (Builtin.firstCells 1 n vy).run P w = .ok cs.toArray w ∧ (∀ v ∈ cs, v.oneCell' = true) ∧ ∀ j sv, j < n → g j = [sv] → Rel ro own sv (cs.getD j undef))
    (hone : ∀ j, j < k → ∃ sv, g j = [sv]) {ws} (hk : (txCopyTo E.N o.dst x k g).ok s ws) : Snd E P o s w a ws := by
  unfold txCopyTo at hk
  split at hk
  case h_2 => exact hk.elim
  rename_i id ver off len
  obtain ⟨m, hm, hk⟩ := rdM_ok hk
  have he := h.ent id m hm
  split at hk
  case isFalse => exact hk.elim
  rename_i hcm
  obtain ⟨hrow, hver, hmes, hz0, happ⟩ := hcm
  obtain ⟨y2, hy2, hk⟩ := rdS_ok hk
  split at hk
  case h_2 => exact hk.elim
  rename_i n es f
  split at hk
  case h_2 => exact hk.elim
  rename_i d hd
  split at hk
  case isFalse => exact hk.elim
  rename_i hes
  obtain ⟨hes, hdN⟩ := hes
  subst hes
  obtain ⟨⟨hfit, hpos⟩, hk⟩ := hk
  have hws := hk.symm
  change ws = _ at hws
  subst hws
  subst hver
  obtain ⟨n0, f0, hseg0, hn0⟩ := he.row hrow
  have hns : m.ns = 1 := by
    have := St.segs_length s id m.ns
    rw [hseg0] at this; simpa using this.symm
  have hseg : s.segs id m.ns = [.a n 1 f] := by
    rw [hns]; simp [St.segs, List.range_succ, hy2]
  have hes0 : own.es id 0 = 1 := by rw [he.es 0 (.a n 1 f) (by rw [hseg]; rfl)]; rfl
  rcases inv_sl hx with ⟨b, hb, hcap, hv⟩ | ⟨hb, hl, _, hv⟩
  case inr => omega
  obtain ⟨cs, e', lo, hi', hh, r1, r2, r3, r4, r5, r6⟩ := (he.live b hb hz0).body
  obtain ⟨e2, hap⟩ := Option.isSome_iff_exists.1 happ
  obtain ⟨rfl, rfl, rfl, q4⟩ := r2 e2 hap
  rw [hseg] at r3 r4
  simp only [segsSize, Seg.size, Nat.add_zero, Nat.mul_one] at r3
  rw [hes0, Nat.mul_one] at hv
  obtain ⟨news, n1, n2, n3, n4⟩ := hsrc (Nat.min k len) (Nat.min_le_left _ _)
  have hmin : Nat.min k len ≤ len := Nat.min_le_right _ _
  have hmk : Nat.min k len ≤ k := Nat.min_le_left _ _
  have hrun := run_copy_gen (P := P) (w := w) T U o.type e b off len (own.cap id m.ver - off) k vy cs e' news hu hi hs1 hh hlen n1 n2 (by rw [n1]; omega) n3
  rw [n1] at hrun
  intro Q
  unfold Oper.wp
  rw [run_call_builtin ho hc, hT, hargs, hv]
  simp only [builtin, Sem.run_bind, hrun, Result.andThen_ok, Sem.run_pure]
  show Sim E _ _ (a.put o.dst _)
  rw [hd, setRow_putCs hh]
  have hnat : (min k len : Nat) = Nat.min k len := rfl
  let cs' : Array Value := (cs.toList.take off ++ news ++ cs.toList.drop (off + Nat.min k len)).toArray
  have hsz : cs'.size = cs.size := by
    simp only [cs', List.size_toArray, List.length_append, List.length_take, List.length_drop, Array.length_toList, n1]; omega
  let s1 : St := s.put (.sg id 0) (.s (.a n 1 fun j => mergeL (decide (off ≤ j ∧ j < off + min k len)) (g (j - off)) (f j)))
  have hs1' : s1.segs id m.ns = [.a n 1 fun j => mergeL (decide (off ≤ j ∧ j < off + min k len)) (g (j - off)) (f j)] := by
    rw [hns]; simp [St.segs, List.range_succ, St.seg, s1, St.put]
  have ht : SimG E ro own s1 (putCs w b cs' e' 0 0) a := by
    refine h.turn hm hz0 hb hh hsz (fun l hl => ?_) ?_ fun t sv hsv => ?_
    · exact St.put_ne _ _ (hl 0)
    · rw [hs1', hseg]; rfl
    · rw [hs1'] at hsv
      have hlt : t < n * 1 := by have := flat_lt hsv; simpa [segsSize, Seg.size] using this
      rw [flat_al hlt] at hsv
      simp only [Nat.div_one, Nat.mod_one] at hsv
      obtain ⟨x1, y1, hx1, hy1, rfl⟩ := mergeL_at hsv
      have hold : flat [.a n 1 f] t = some y1 := by rw [flat_al hlt]; simp only [Nat.div_one, Nat.mod_one]; exact hy1
      have hcs' : ∀ t, cs'.getD t undef = if t < off then cs.getD t undef else if t < off + Nat.min k len then news.getD (t - off) undef else cs.getD t undef := fun t => by
        simp only [cs', Array.getD_eq_getD_getElem?, List.getElem?_toArray, List.getD_eq_getElem?_getD]
        by_cases h1 : t < off
        · rw [if_pos h1, List.append_assoc, List.getElem?_append_left (by simp; omega), List.getElem?_take, if_pos h1, Array.getElem?_toList]
        · rw [if_neg h1]
          by_cases h2 : t < off + Nat.min k len
          · rw [if_pos h2, List.append_assoc, List.getElem?_append_right (by simp; omega), List.getElem?_append_left (by simp; omega)]
            congr 2; simp; omega
          · rw [if_neg h2, List.getElem?_append_right (by simp; omega), List.getElem?_drop, Array.getElem?_toList]
            congr 2; simp; omega
      rw [hcs']
      by_cases hq : off ≤ t ∧ t < off + min k len
      · refine rel_ite (fun _ => ?_) (fun hf => by simp [hq] at hf)
        rw [if_neg (by omega), if_pos (by omega)]
        obtain ⟨sv0, hsv0⟩ := hone (t - off) (by omega)
        rw [hsv0] at hx1
        simp at hx1; subst hx1
        exact n4 (t - off) sv0 (by omega) hsv0
      · refine rel_ite (fun hf => by simp [hq] at hf) (fun _ => ?_)
        have := r4 t y1 hold
        by_cases h1 : t < off
        · rw [if_pos h1]; exact this
        · rw [if_neg h1, if_neg (by omega)]; exact this
  refine ⟨ro, own, ?_⟩
  show SimG E ro own (s1.put (.tm d) (.v (.int .i64 ((min k len : Nat) : Int)))) _ _
  refine ht.put hdN ?_
  rw [goInt_eq]; exact .int _ _ _
theorem snd_copy (h : SimG E ro own s w a) {o : Oper} {c : Call} {T U : TypeId} {x y : SV} {vx vy : Value} (ho : o.op = .call c) (hc : c.callee = .builtin .copy) (hT : c.argTypes = #[T, U]) (hargs : c.args.map a.eval = #[vx, vy])
    (hx : Rel ro own x vx) (hy : Rel ro own y vy) {ws} (hk : (txCopy P E.N o.dst T x y).ok s ws) : Snd E P o s w a ws := by
  unfold txCopy at hk
  split at hk
  case h_2 => exact hk.elim
  rename_i e hu
  split at hk
  case h_2 => exact hk.elim
  rename_i i hi
  split at hk
  case isFalse => exact hk.elim
  rename_i hs1
  split at hk
  · rename_i l
    have hv := inv_str hy
    refine snd_copyTo h ho hc hT hargs hu hi hs1 hx (k := l.length) (g := byteSV l) (by rw [hv]; simp [Builtin.lenOf, ByteArray.size, Sem.run_pure]) (fun n hn => ?_) (fun j _ => ⟨_, rfl⟩) hk
    refine ⟨(l.take n).map fun b => Value.int .u8 b.toNat, by simp; omega, ?_, fun v hv => ?_, fun j sv hj hg => ?_⟩
    · rw [hv]
      simp [Builtin.firstCells, Sem.run_pure]
    · simp only [List.mem_map] at hv
      obtain ⟨b, _, rfl⟩ := hv
      rfl
    · simp only [byteSV, List.cons.injEq, and_true] at hg
      subst hg
      simp [List.getD_eq_getElem?_getD, List.getElem?_take, hj, show j < l.length by omega]
      exact .int _ _ _
  · obtain ⟨k, g, hk2, hsrc⟩ := rdRow_ok h hy hk
    obtain ⟨hone, hk⟩ := hk2
    have one : ∀ j, j < k → ∃ sv, g j = [sv] ∧ oneCell sv = true := fun j hj => by
      have ho := hone j hj
      simp only [rowOne, Bool.and_eq_true, beq_iff_eq, List.all_eq_true] at ho
      match hl : g j, ho with
      | [sv], ho => exact ⟨sv, rfl, ho.2 sv (by simp)⟩
    refine snd_copyTo h ho hc hT hargs hu hi hs1 hx (k := k) (g := g) ?_ (fun n hn => ?_) (fun j hj => let ⟨sv, h1, _⟩ := one j hj; ⟨sv, h1⟩) hk
    · rcases hsrc with ⟨rfl, A, c', rfl⟩ | ⟨b, off, c', rfl, _⟩ <;> simp [Builtin.lenOf, Sem.run_pure]
    · rcases hsrc with ⟨rfl, A, c', rfl⟩ | ⟨b, off, c', rfl, hcell⟩
      · have : n = 0 := by omega
        subst this
        refine ⟨[], rfl, ?_, by simp, fun j sv hj => by omega⟩
        cases A with
        | none => simp [Builtin.firstCells, Sem.run_pure]
        | some A =>
          have := run_loadCells_list (P := P) w A [] (by simp)
          simpa [Builtin.firstCells] using this
      · have hc' : ∀ j, j < k → ∃ u, w.cell? ⟨b, off + j, none⟩ = some u ∧ ∀ sv, g j = [sv] → Rel ro own sv u := fun j hj => by
          obtain ⟨u, h1, h2⟩ := hcell j 0 hj (by omega)
          exact ⟨u, by simpa using h1, fun sv hg => h2 sv (by rw [hg]; rfl)⟩
        let cs : List Value := (List.range n).map fun j => (w.cell? ⟨b, off + j, none⟩).getD undef
        have hat : ∀ j u, cs[j]? = some u → j < n ∧ w.cell? ⟨b, off + j, none⟩ = some u := fun j u hj => by
          have hlt := (List.getElem?_eq_some_iff.1 hj).1
          simp only [cs, List.length_map, List.length_range] at hlt
          obtain ⟨u', h1, _⟩ := hc' j (by omega)
          simp only [cs, List.getElem?_map, List.getElem?_range, hlt, if_true, Option.map_some, Option.some.injEq] at hj
          rw [h1] at hj
          simp at hj; subst hj
          exact ⟨hlt, h1⟩
        refine ⟨cs, by simp [cs], ?_, fun v hv => ?_, fun j sv hj hg => ?_⟩
        · have := run_loadCells_list (P := P) w ⟨b, off, none⟩ cs (fun j v hj => by rw [add_none]; exact (hat j v hj).2)
          have hl : cs.length = n := by simp [cs]
          rw [hl] at this
          simpa [Builtin.firstCells] using this
        · obtain ⟨j, hj⟩ := List.getElem?_of_mem hv
          obtain ⟨h1, h2⟩ := hat j v hj
          obtain ⟨sv, h3, h4⟩ := one j (by omega)
          obtain ⟨u, h5, h6⟩ := hc' j (by omega)
          rw [h2] at h5
          simp at h5; subst h5
          exact oneCell_rel (h6 sv h3) h4
        · obtain ⟨u, h5, h6⟩ := hc' j (by omega)
          have : cs.getD j undef = u := by simp [cs, List.getD_eq_getElem?_getD, hj, h5]
          rw [this]; exact h6 sv hg
end
end Go.Sx
