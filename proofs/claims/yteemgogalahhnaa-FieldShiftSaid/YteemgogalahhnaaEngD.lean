/-
  The operations' soundness, first part: values, new blocks, loads, stores, addresses.
-/
import Derived.Test.YteemgogalahhnaaEngC
namespace Go.Sx
set_option linter.unusedVariables false
set_option linter.unusedSimpArgs false
open Go Go.RowKit

/-! ### Stores -/
def setRange (cs : Array Value) (k : Nat) : List Value → Array Value
  | [] => cs
  | v :: r => setRange (cs.setIfInBounds k v) (k + 1) r
theorem size_setRange (vs : List Value) : ∀ (cs : Array Value) (k : Nat), (setRange cs k vs).size = cs.size := by
  induction vs with
  | nil => intros; rfl
  | cons v r ih => intro cs k; simp only [setRange]; rw [ih, Array.size_setIfInBounds]
theorem getD_setRange (vs : List Value) : ∀ (cs : Array Value) (k j : Nat), k + vs.length ≤ cs.size → (setRange cs k vs).getD j undef = if k ≤ j ∧ j < k + vs.length then vs.getD (j - k) undef else cs.getD j undef := by
  induction vs with
  | nil => intro cs k j _; simp [setRange]; intro h1 h2; omega
  | cons v r ih =>
    intro cs k j hle
    simp only [List.length_cons] at hle
    simp only [setRange, List.length_cons]
    rw [ih _ _ _ (by rw [Array.size_setIfInBounds]; omega)]
    by_cases h1 : j = k
    · subst h1
      rw [if_neg (by omega), if_pos (by omega), Array.getD_eq_getD_getElem?, Array.getElem?_setIfInBounds_self_of_lt (by omega)]
      simp
    · by_cases h2 : k ≤ j ∧ j < k + (r.length + 1)
      · rw [if_pos (by omega), if_pos h2, show j - k = (j - (k + 1)) + 1 from by omega, List.getD_cons_succ]
      · rw [if_neg (by omega), if_neg h2, Array.getD_eq_getD_getElem?, Array.getElem?_setIfInBounds_ne (by omega), ← Array.getD_eq_getD_getElem?]
def putCs (w : World) (b : Nat) (cs : Array Value) (e : TypeId) (lo hi : Nat) : World := { w with heap := w.heap.setIfInBounds b (.cells cs e (lo, hi)) }
theorem putCs_self {w : World} {b : Nat} {cs : Array Value} {e : TypeId} {lo hi : Nat} (h : w.heap[b]? = some (.cells cs e (lo, hi))) : putCs w b cs e lo hi = w := by
  have : w.heap.setIfInBounds b (.cells cs e (lo, hi)) = w.heap := by
    apply Array.ext_getElem?
    intro i
    rw [Array.getElem?_setIfInBounds]
    split
    · rename_i hi; subst hi
      obtain ⟨hb, he⟩ := Array.getElem?_eq_some_iff.1 h
      simp [hb, he]
    · rfl
  simp [putCs, this]
theorem putCs_get {w : World} {b : Nat} {cs cs' : Array Value} {e : TypeId} {lo hi : Nat} (h : w.heap[b]? = some (.cells cs e (lo, hi))) : (putCs w b cs' e lo hi).heap[b]? = some (.cells cs' e (lo, hi)) := by
  have hb := (Array.getElem?_eq_some_iff.1 h).1
  simp [putCs, hb]
theorem putCs_ne {w : World} {b k : Nat} {cs' : Array Value} {e : TypeId} {lo hi : Nat} (h : k ≠ b) : (putCs w b cs' e lo hi).heap[k]? = w.heap[k]? := by
  simp [putCs, Array.getElem?_setIfInBounds_ne (Ne.symm h)]
theorem putCs_size {w : World} {b : Nat} {cs' : Array Value} {e : TypeId} {lo hi : Nat} : (putCs w b cs' e lo hi).heap.size = w.heap.size := by simp [putCs]
theorem putCs_putCs {w : World} {b : Nat} {cs cs' : Array Value} {e : TypeId} {lo hi : Nat} : putCs (putCs w b cs e lo hi) b cs' e lo hi = putCs w b cs' e lo hi := by
  simp only [putCs]
  congr 1
  apply Array.ext_getElem?
  intro i
  simp only [Array.getElem?_setIfInBounds, Array.size_setIfInBounds]
  split <;> rfl
theorem setCell_putCs {w : World} {b k : Nat} {cs : Array Value} {e : TypeId} {lo hi : Nat} (v : Value) (h : w.heap[b]? = some (.cells cs e (lo, hi))) : w.setCell ⟨b, k, none⟩ v = putCs w b (cs.setIfInBounds k v) e lo hi := by
  simp only [World.setCell, putCs]
  congr 1
  apply Array.ext_getElem?
  intro i
  rw [Array.getElem?_modify, Array.getElem?_setIfInBounds]
  split
  · rename_i hi; subst hi
    obtain ⟨hb, he⟩ := Array.getElem?_eq_some_iff.1 h
    simp [hb, he]
  · rfl
theorem run_storeCells {P : Program} {b off : Nat} {e : TypeId} {lo hi : Nat} : ∀ (vs : List Value) (i : Nat) (w : World) (cs : Array Value), w.heap[b]? = some (.cells cs e (lo, hi)) → (∀ v ∈ vs, v.oneCell' = true) → off + i + vs.length ≤ cs.size →
    (hi ≤ lo ∨ off + i + vs.length ≤ lo) → (storeCells ⟨b, off, none⟩ vs i).run P w = .ok () (putCs w b (setRange cs (off + i) vs) e lo hi)
  | [], i, w, cs, h, _, _, _ => by simp [storeCells, setRange, putCs_self h]
  | v :: r, i, w, cs, h, h1, h2, h3 => by
    simp only [List.length_cons] at h2 h3
    have hadd : (⟨b, off, none⟩ : Addr).add i = ⟨b, off + i, none⟩ := by
      unfold Addr.add; split
      · rename_i hz; simp [hz]
      · rfl
    have hc : w.cell? ⟨b, off + i, none⟩ = some cs[off + i] := by
      simp [World.cell?, h, show off + i < cs.size by omega]
    have hf : w.frozen? ⟨b, off + i, none⟩ = false := by
      simp only [World.frozen?, h]
      rcases h3 with h3 | h3
      · simp; omega
      · simp; omega
    have hst : (store ⟨b, off + i, none⟩ v).run P w = .ok () (putCs w b (cs.setIfInBounds (off + i) v) e lo hi) := by
      rw [run_store P w _ v _ (h1 v (by simp))]
      simp [stored, hc, hf, setCell_putCs v h]
    simp only [storeCells, hadd, Sem.run_bind, hst, Result.andThen_ok, setRange]
    rw [run_storeCells r (i + 1) _ _ (putCs_get h) (fun u hu => h1 u (by simp [hu])) (by rw [Array.size_setIfInBounds]; omega) (by omega), putCs_putCs]
    rfl
theorem run_loadCells' {P : Program} {w : World} {b off n : Nat} {vs : Nat → Value} (h : ∀ j, j < n → w.cell? ⟨b, off + j, none⟩ = some (vs j)) : (loadCells ⟨b, off, none⟩ n).run P w = .ok (Array.ofFn fun j : Fin n => vs j) w := by
  have hadd : ∀ i, (⟨b, off, none⟩ : Addr).add i = ⟨b, off + i, none⟩ := by
    intro i; unfold Addr.add; split
    · rename_i hz; simp [hz]
    · rfl
  have gen : ∀ (m i : Nat) (acc : Array Value), i + m = n → acc = Array.ofFn (fun j : Fin i => vs j) → (loadCellsFrom ⟨b, off, none⟩ i m acc).run P w = .ok (Array.ofFn fun j : Fin n => vs j) w := by
    intro m
    induction m with
    | zero => intro i acc hi ha; have : i = n := by omega
              subst this; simp [loadCellsFrom, ha]
    | succ m ih =>
      intro i acc hi ha
      simp only [loadCellsFrom, hadd, Sem.run_bind, run_load, h i (by omega), Result.andThen_ok]
      refine ih (i + 1) _ (by omega) ?_
      rw [ha]
      apply Array.ext
      · simp
      · intro j h1 h2
        simp only [Array.size_push, Array.size_ofFn] at h1
        simp only [Array.getElem_push, Array.size_ofFn, Array.getElem_ofFn]
        split
        · rfl
        · have : j = i := by omega
          simp [this]
  exact gen n 0 #[] (by omega) (by simp)

theorem oneCell_rel {ro : RO} {own : Own} {x : SV} {v : Value} (h : Rel ro own x v) (h1 : oneCell x = true) : v.oneCell' = true := by
  cases h <;> first | assumption | rfl | cases h1
theorem cells_one {v : Value} (h : v.oneCell' = true) : v.cells = #[v] := by
  cases v <;> first | rfl | cases h

section
variable {E : Env} {P : Program} {ro : RO} {own : Own} {s : St} {w : World} {a : Act}
theorem shape_size {l l' : List Seg} (h : l.map Seg.shape = l'.map Seg.shape) : segsSize l = segsSize l' := by
  induction l generalizing l' with
  | nil => cases l' with
    | nil => rfl
    | cons _ _ => simp at h
  | cons x r ih =>
    cases l' with
    | nil => simp at h
    | cons y r' =>
      simp only [List.map_cons, List.cons.injEq] at h
      simp only [segsSize, ih h.2]
      have : x.size = y.size := by
        have e := h.1
        cases x <;> cases y <;> simp [Seg.shape, Seg.size] at e ⊢
        rw [e.1, e.2]
      omega
theorem shape_take {l l' : List Seg} (h : l.map Seg.shape = l'.map Seg.shape) (q : Nat) : (l.take q).map Seg.shape = (l'.take q).map Seg.shape := by
  rw [List.map_take, List.map_take, h]
theorem shape_es {l l' : List Seg} (h : l.map Seg.shape = l'.map Seg.shape) {q : Nat} {x x' : Seg} (hx : l[q]? = some x) (hx' : l'[q]? = some x') : x.es = x'.es := by
  have e : (l.map Seg.shape)[q]? = (l'.map Seg.shape)[q]? := by rw [h]
  simp only [List.getElem?_map, hx, hx', Option.map_some, Option.some.injEq] at e
  cases x <;> cases x' <;> simp [Seg.shape, Seg.es] at e ⊢
  exact e.2
/-- The contents of a block of the call's own turn. -/
theorem SimG.turn (h : SimG E ro own s w a) {id b : Nat} {m : Mta} {cs : Array Value} {e : TypeId} {lo hi : Nat} (hm : s (.mt id) = .m (some m)) (hz : m.frz = false) (hb : own.env id m.ver = some (some b)) (hh : w.heap[b]? = some (.cells cs e (lo, hi)))
    {cs' : Array Value} (hsz : cs'.size = cs.size) {s' : St} (hother : ∀ l, (∀ q, l ≠ .sg id q) → s' l = s l) (hshape : (s'.segs id m.ns).map Seg.shape = (s.segs id m.ns).map Seg.shape)
    (hrel : ∀ k sv, flat (s'.segs id m.ns) k = some sv → Rel ro own sv (cs'.getD k undef)) : SimG E ro own s' (putCs w b cs' e lo hi) a := by
  have he := h.ent id m hm
  have hl := he.live b hb hz
  have hmt : ∀ i, s' (.mt i) = s (.mt i) := fun i => hother _ (by simp)
  have hseg : ∀ i n, i ≠ id → s'.segs i n = s.segs i n := fun i n hi => St.segs_congr fun q _ => hother _ (by simp [hi])
  refine { below := ?_, base := by rw [putCs_size]; exact h.base, defs := h.defs, size := h.size, tm := ?_, rook := ?_, rold := h.rold, ent := ?_, fr := ?_, frv := ?_, inj := ?_, kk := h.kk }
  · exact h.below.trans ⟨rfl, rfl, rfl, by rw [putCs_size]; exact Nat.le_refl _, fun k hk => putCs_ne (by have := hl.low; omega)⟩
  · intro t sv ht
    rw [hother _ (by simp)] at ht
    exact h.tm t sv ht
  · intro b' o v hv
    have hne : b' ≠ b := by
      rintro rfl
      rw [hl.apart o] at hv; cases hv
    have := h.rook b' o v hv
    simpa [World.cell?, putCs_ne hne] using this
  · intro i m' hm'
    rw [hmt] at hm'
    have he' := h.ent i m' hm'
    by_cases hid : i = id
    · subst hid
      rw [hm] at hm'
      simp only [Item.m.injEq, Option.some.injEq] at hm'
      subst hm'
      have hss := shape_size hshape
      refine { st := fun q hq => by rw [he'.st q hq]; exact (shape_size (shape_take hshape q)).symm, es := ?_, row := ?_, plain := fun hr => ⟨(he'.plain hr).1, by rw [hshape]; exact (he'.plain hr).2⟩, there := he'.there, nil := (fun hn => by rw [hb] at hn; cases hn), live := ?_, froze := (fun b' _ hz' => by rw [hz] at hz'; cases hz') }
      · intro q x hx
        have hlen : (s'.segs i m.ns).length = (s.segs i m.ns).length := by simp [St.segs_length]
        have hq : q < (s.segs i m.ns).length := by rw [← hlen]; exact (List.getElem?_eq_some_iff.1 hx).1
        rw [he'.es q _ (List.getElem?_eq_getElem hq)]
        exact (shape_es hshape hx (List.getElem?_eq_getElem hq)).symm
      · intro hr
        obtain ⟨n, f, hl', hn⟩ := he'.row hr
        rw [hl'] at hshape
        obtain ⟨n', f', hx, hn'⟩ : ∃ n' f', s'.segs i m.ns = [.a n' m.es f'] ∧ n' = n := by
          generalize s'.segs i m.ns = l1 at hshape
          match l1, hshape with
          | [.a n' es' f'], hsh =>
            simp [Seg.shape] at hsh
            exact ⟨n', f', by rw [hsh.2], hsh.1⟩
        exact ⟨n', f', hx, fun b' hb' => by rw [hn']; exact hn b' hb'⟩
      · intro b' hb' _
        rw [hb] at hb'
        simp only [Option.some.injEq] at hb'
        subst hb'
        obtain ⟨cs0, e0, lo0, hi0, hh0, r1, r2, r3, r4, r5, r6⟩ := hl.body
        rw [hh] at hh0
        simp only [Option.some.injEq, Obj.cells.injEq, Prod.mk.injEq] at hh0
        obtain ⟨rfl, rfl, rfl, rfl⟩ := hh0
        exact ⟨hl.low, hl.apart, cs', e, lo, hi, putCs_get hh, by rw [hss]; exact r1, r2, by rw [hss, hsz]; exact r3, hrel, fun hr => by rw [hss, hsz]; exact r5 hr, fun hr => by rw [hsz]; exact r6 hr⟩
    · rw [hseg i _ hid]
      refine { st := he'.st, es := he'.es, row := he'.row, plain := he'.plain, there := he'.there, nil := he'.nil, live := ?_, froze := he'.froze }
      intro b' hb' hz'
      have hl' := he'.live b' hb' hz'
      have hne : b' ≠ b := by
        rintro rfl
        exact hid (h.inj i id m' m b' hm' hm hz' hz hb' hb)
      exact ⟨hl'.low, hl'.apart, by rw [putCs_ne hne]; exact hl'.body⟩
  · intro i hi; rw [hmt] at hi; exact h.fr i hi
  · intro i m' hi; rw [hmt] at hi; exact h.frv i m' hi
  · intro i i' m1 m2 b' h1 h2; rw [hmt] at h1 h2; exact h.inj i i' m1 m2 b' h1 h2
end
end Go.Sx
