/-
  What holds of the real world when a symbolic operation's writes have been done: the parts that all operations share.
-/
import Derived.Test.YteemgogalahhnaaEngB
namespace Go.Sx
set_option linter.unusedVariables false
set_option linter.unusedSimpArgs false
open Go Go.RowKit

/-- An operation does what its symbolic action says. -/
def Snd (E : Env) (P : Program) (o : Oper) (s : St) (w : World) (a : Act) (ws : List (Loc × Item)) : Prop :=
  ∀ Q, o.wp P a w (fun a' w' => Sim E (s.apply ws) w' a') Q

theorem apply_append (s : St) (ws ws' : List (Loc × Item)) : s.apply (ws ++ ws') = (s.apply ws).apply ws' := by
  induction ws generalizing s with
  | nil => rfl
  | cons x r ih => obtain ⟨l, i⟩ := x; exact ih _
theorem apply_one (s : St) (l : Loc) (x : Item) : s.apply [(l, x)] = s.put l x := rfl
theorem apply_segWrites_ne (id : Nat) (l : List Seg) : ∀ (s : St) (q : Nat) (loc : Loc), (∀ q', loc ≠ .sg id q') → (s.apply (segWrites id q l)) loc = s loc := by
  induction l with
  | nil => intros; rfl
  | cons x r ih =>
    intro s q loc h
    simp only [segWrites, St.apply]
    rw [ih _ _ _ h, St.put_ne _ _ (h q)]
theorem apply_segWrites_sg (id : Nat) (l : List Seg) : ∀ (s : St) (q q' : Nat), (s.apply (segWrites id q l)) (.sg id q') = match l[q' - q]? with
    | some x => if q ≤ q' then .s x else s (.sg id q')
    | none => s (.sg id q') := by
  induction l with
  | nil => intros; rfl
  | cons x r ih =>
    intro s q q'
    simp only [segWrites, St.apply]
    rw [ih]
    by_cases h1 : q' = q
    · subst h1
      rw [show q' - (q' + 1) = 0 from by omega, show q' - q' = 0 from by omega]
      simp only [List.getElem?_cons_zero, Nat.le_refl, if_true, St.put_self, show ¬ (q' + 1 ≤ q') from by omega, if_false]
      cases r[0]? <;> rfl
    · by_cases h2 : q < q'
      · have e : q' - q = (q' - (q + 1)) + 1 := by omega
        rw [e, List.getElem?_cons_succ]
        rw [St.put_ne _ _ (by simpa using h1)]
        simp only [show q + 1 ≤ q' from by omega, show q ≤ q' from by omega, if_true]
      · have e1 : q' - q = 0 := by omega
        have e2 : q' - (q + 1) = 0 := by omega
        rw [e1, e2, St.put_ne _ _ (by simpa using h1)]
        simp only [List.getElem?_cons_zero, show ¬ (q + 1 ≤ q') from by omega, show ¬ (q ≤ q') from by omega, if_false]
        cases r[0]? <;> rfl
theorem St.seg_apply_segWrites (s : St) (id q : Nat) (l : List Seg) (q' : Nat) : (s.apply (segWrites id q l)).seg id q' = if q ≤ q' then (l[q' - q]?).getD (s.seg id q') else s.seg id q' := by
  simp only [St.seg, apply_segWrites_sg]
  cases h : l[q' - q]? with
  | none => simp
  | some x => by_cases h2 : q ≤ q' <;> simp [h2]
theorem segs_apply_all (s : St) (id : Nat) (l : List Seg) : (s.apply (segWrites id 0 l)).segs id l.length = l := by
  apply List.ext_getElem?
  intro i
  by_cases h : i < l.length
  · rw [St.segs_getElem _ _ _ _ h, St.seg_apply_segWrites]
    simp [h]
  · rw [List.getElem?_eq_none (by simpa [St.segs] using h), List.getElem?_eq_none (by omega)]
theorem St.segs_congr {s s' : St} {id n : Nat} (h : ∀ q, q < n → s' (.sg id q) = s (.sg id q)) : s'.segs id n = s.segs id n := by
  simp only [St.segs]
  refine List.map_congr_left fun q hq => ?_
  simp only [St.seg, h q (List.mem_range.1 hq)]

/-! ### What the readers give -/
theorem rdT_ok {s : St} {t : Nat} {k : SV → Tx} {ws} (h : (rdT t k).ok s ws) : ∃ x, s (.tm t) = .v x ∧ (k x).ok s ws := by
  simp only [rdT, Tx.ok] at h
  split at h
  · exact ⟨_, by assumption, h⟩
  · exact h.elim
theorem rdM_ok {s : St} {id : Nat} {k : Mta → Tx} {ws} (h : (rdM id k).ok s ws) : ∃ m, s (.mt id) = .m (some m) ∧ (k m).ok s ws := by
  simp only [rdM, Tx.ok] at h
  split at h
  · exact ⟨_, by assumption, h⟩
  · exact h.elim
theorem rdFree_ok {s : St} {id : Nat} {k : Tx} {ws} (h : (rdFree id k).ok s ws) : s (.mt id) = .m none ∧ k.ok s ws := by
  simp only [rdFree, Tx.ok] at h
  split at h
  · exact ⟨by assumption, h⟩
  · exact h.elim
theorem rdS_ok {s : St} {id q : Nat} {k : Seg → Tx} {ws} (h : (rdS id q k).ok s ws) : ∃ x, s.seg id q = x ∧ (k x).ok s ws := by
  simp only [rdS, Tx.ok] at h
  split at h
  · rename_i x hx
    exact ⟨x, by simp [St.seg, hx], h⟩
  · exact h.elim
theorem rdSegs_ok {s : St} {id : Nat} : ∀ {n q : Nat} {k : List Seg → Tx} {ws}, (rdSegs id q n k).ok s ws → (k ((List.range' q n).map (s.seg id))).ok s ws
  | 0, _, _, _, h => h
  | n + 1, q, k, ws, h => by
    obtain ⟨x, hx, h⟩ := rdS_ok h
    have := rdSegs_ok h
    rw [List.range'_succ, List.map_cons, hx]
    exact this
theorem constSV_rel {ro : RO} {own : Own} {v : Value} {x : SV} (h : constSV v = some x) : Rel ro own x v := by
  unfold constSV at h
  split at h <;> first
    | (obtain rfl := Option.some.inj h; constructor)
    | cases h
def RelL (ro : RO) (own : Own) : List SV → List Value → Prop
  | [], [] => True
  | x :: r, v :: vs => Rel ro own x v ∧ RelL ro own r vs
  | _, _ => False
theorem RelL.length {ro : RO} {own : Own} : ∀ {xs : List SV} {vs : List Value}, RelL ro own xs vs → xs.length = vs.length
  | [], [], _ => rfl
  | _ :: r, _ :: vs, h => by simp [RelL.length (xs := r) (vs := vs) h.2]
  | [], _ :: _, h => h.elim
  | _ :: _, [], h => h.elim
theorem RelL.at {ro : RO} {own : Own} : ∀ {xs : List SV} {vs : List Value}, RelL ro own xs vs → ∀ (i : Nat) (x : SV), xs[i]? = some x → ∃ v, vs[i]? = some v ∧ Rel ro own x v
  | [], [], _, i, x, hx => by simp at hx
  | y :: r, v :: vs, h, 0, x, hx => by simp at hx; subst hx; exact ⟨v, rfl, h.1⟩
  | y :: r, v :: vs, h, i + 1, x, hx => by simp at hx; obtain ⟨u, hu, hr⟩ := RelL.at h.2 i x hx; exact ⟨u, by simpa using hu, hr⟩
  | [], _ :: _, h, _, _, _ => h.elim
  | _ :: _, [], h, _, _, _ => h.elim
theorem RelL.append {ro : RO} {own : Own} : ∀ {xs : List SV} {vs : List Value} {ys us}, RelL ro own xs vs → RelL ro own ys us → RelL ro own (xs ++ ys) (vs ++ us)
  | [], [], _, _, _, h => h
  | _ :: _, _ :: _, _, _, h, k => ⟨h.1, RelL.append h.2 k⟩
  | [], _ :: _, _, _, h, _ => h.elim
  | _ :: _, [], _, _, h, _ => h.elim
theorem RelL.mono {ro ro' : RO} {own own' : Own} (hr : ROle ro ro') (ho : own.le own') : ∀ {xs : List SV} {vs : List Value}, RelL ro own xs vs → RelL ro' own' xs vs
  | [], [], _ => trivial
  | _ :: _, _ :: _, h => ⟨h.1.mono hr ho, RelL.mono hr ho h.2⟩
  | [], _ :: _, h => h.elim
  | _ :: _, [], h => h.elim
theorem RelL.of_at {ro : RO} {own : Own} : ∀ {xs : List SV} {vs : List Value}, vs.length = xs.length → (∀ (i : Nat) (x : SV), xs[i]? = some x → Rel ro own x (vs.getD i undef)) → RelL ro own xs vs
  | [], [], _, _ => trivial
  | x :: r, v :: vs, hl, h => ⟨by simpa using h 0 x rfl, RelL.of_at (by simpa using hl) fun i y hy => by simpa using h (i + 1) y (by simpa using hy)⟩
  | [], _ :: _, hl, _ => by simp at hl
  | _ :: _, [], hl, _ => by simp at hl
section
variable {E : Env} {P : Program} {ro : RO} {own : Own} {s : St} {w : World} {a : Act}
theorem rdO_ok (h : SimG E ro own s w a) {o : Operand} {k : SV → Tx} {ws} (hk : (rdO o k).ok s ws) : ∃ x, Rel ro own x (a.eval o) ∧ (k x).ok s ws := by
  cases o with
  | tmp t =>
    obtain ⟨x, hx, hk⟩ := rdT_ok hk
    exact ⟨x, h.tm t x hx, hk⟩
  | const v =>
    simp only [rdO] at hk
    split at hk
    · exact ⟨_, constSV_rel (by assumption), hk⟩
    · exact hk.elim
  | global g => exact hk.elim
  | func f => exact ⟨.fn f [] [], .fn _ _ _ _ _ _ rfl rfl (by simp) (by simp), hk⟩
theorem rdOs_ok (h : SimG E ro own s w a) : ∀ {os : List Operand} {k : List SV → Tx} {ws}, (rdOs os k).ok s ws → ∃ xs, RelL ro own xs (os.map a.eval) ∧ (k xs).ok s ws
  | [], _, _, hk => ⟨[], trivial, hk⟩
  | o :: r, k, ws, hk => by
    obtain ⟨x, hx, hk⟩ := rdO_ok h hk
    obtain ⟨xs, hxs, hk⟩ := rdOs_ok h hk
    exact ⟨x :: xs, ⟨hx, hxs⟩, hk⟩
theorem setT_ok {dst : Option Tmp} {x : SV} {ws} (hk : (setT E.N dst x).ok s ws) : (dst = none ∧ ws = []) ∨ ∃ d, dst = some d ∧ d < E.N ∧ ws = [(.tm d, .v x)] := by
  cases dst with
  | none => exact .inl ⟨rfl, hk.symm⟩
  | some d =>
    simp only [setT] at hk
    split at hk
    · exact .inr ⟨d, rfl, by assumption, hk.symm⟩
    · exact hk.elim
theorem sim_setT (h : SimG E ro own s w a) {dst : Option Tmp} {x : SV} {v : Value} {ws} (hk : (setT E.N dst x).ok s ws) (hr : Rel ro own x v) : SimG E ro own (s.apply ws) w (a.put dst v) := by
  rcases setT_ok hk with ⟨rfl, rfl⟩ | ⟨d, rfl, hd, rfl⟩
  · exact h
  · exact h.put hd hr
/-- An operation that only computes a value. -/
theorem snd_val (h : SimG E ro own s w a) {o : Oper} {x : SV} {v : Value} {ws} (hrun : (execOp a.eval o).run P w = .ok (.value v) w) (hr : Rel ro own x v) (hk : (setT E.N o.dst x).ok s ws) : Snd E P o s w a ws := by
  intro Q
  unfold Oper.wp
  rw [hrun]
  exact ⟨ro, own, sim_setT h hk hr⟩

/-! ### A new block -/
theorem SimG.push (h : SimG E ro own s w a) {nid : Nat} (hf : s (.mt nid) = .m none) {row : Bool} {es : Nat} {l : List Seg} {cs : Array Value} {e lo hi cap : Nat} {w' : World}
    (hw : w'.heap = w.heap.push (.cells cs e (lo, hi))) (h1 : w'.os = w.os) (h2 : w'.tape = w.tape) (h3 : w'.output = w.output)
    (app : Option TypeId) (hrow : row = true → ∃ n f, l = [.a n es f] ∧ n ≤ cap ∧ cs.size = cap * es) (hpl : row = false → cs.size = segsSize l) (hsz : segsSize l ≤ cs.size)
    (hfz : hi ≤ lo ∨ segsSize l ≤ lo) (happ : ∀ t, app = some t → lo = 0 ∧ hi = 0 ∧ e = t ∧ cap ≤ maxLen) (hrel : ∀ k sv, flat l k = some sv → Rel ro own sv (cs.getD k undef)) :
    ∃ own', own.le own' ∧ own'.env nid 0 = some (some w.heap.size) ∧ own'.cap nid 0 = cap ∧ own'.st nid 0 = 0 ∧ own'.es nid 0 = (match l[0]? with | some x => x.es | none => 0) ∧
      SimG E ro own' (s.apply ((.mt nid, .m (some ⟨0, false, row, app, l.length, es, if row then [] else l.map Seg.shape⟩)) :: segWrites nid 0 l)) w' a := by
  have hsize : w'.heap.size = w.heap.size + 1 := by rw [hw, Array.size_push]
  have hnew : w'.heap[w.heap.size]? = some (.cells cs e (lo, hi)) := by rw [hw, Array.getElem?_push, if_pos rfl]
  have hold : ∀ k, k ≠ w.heap.size → w'.heap[k]? = w.heap[k]? := fun k hk => by rw [hw, Array.getElem?_push, if_neg hk]
  let own' : Own := { env := fun id ver => if id = nid then (if ver = 0 then some (some w.heap.size) else none) else own.env id ver,
                      cap := fun id ver => if id = nid then cap else own.cap id ver,
                      st := fun id q => if id = nid then segsSize (l.take q) else own.st id q,
                      es := fun id q => if id = nid then (match l[q]? with | some x => x.es | none => 0) else own.es id q }
  have hne : ∀ id ver x, own.env id ver = some x → id ≠ nid := by
    rintro id ver x hx rfl
    rw [h.fr id hf ver] at hx; cases hx
  have hle : own.le own' := by
    refine ⟨fun id ver x hx => ?_, fun id ver x hx => ?_, fun id ver x q hx => ?_, fun id ver x q hx => ?_⟩ <;> simp [own', hne id ver x hx, hx]
  have hcell : ∀ b o v, w.cell? ⟨b, o, none⟩ = some v → w'.cell? ⟨b, o, none⟩ = some v := by
    intro b o v hv
    have hb := block_lt_of_cell hv
    simp only at hb
    simpa [World.cell?, hold b (by omega)] using hv
  have hsegs : ∀ id n, id ≠ nid → (s.apply ((.mt nid, .m (some ⟨0, false, row, app, l.length, es, if row then [] else l.map Seg.shape⟩)) :: segWrites nid 0 l)).segs id n = s.segs id n := by
    intro id n hid
    refine St.segs_congr fun q _ => ?_
    simp only [St.apply]
    rw [apply_segWrites_ne _ _ _ _ _ (by intro q'; simp [hid]), St.put_ne _ _ (by simp)]
  have hmt : ∀ id, id ≠ nid → (s.apply ((.mt nid, .m (some ⟨0, false, row, app, l.length, es, if row then [] else l.map Seg.shape⟩)) :: segWrites nid 0 l)) (.mt id) = s (.mt id) := by
    intro id hid
    simp only [St.apply]
    rw [apply_segWrites_ne _ _ _ _ _ (by simp), St.put_ne _ _ (by simpa using hid)]
  have hmn : (s.apply ((.mt nid, .m (some ⟨0, false, row, app, l.length, es, if row then [] else l.map Seg.shape⟩)) :: segWrites nid 0 l)) (.mt nid) = .m (some ⟨0, false, row, app, l.length, es, if row then [] else l.map Seg.shape⟩) := by
    simp only [St.apply]
    rw [apply_segWrites_ne _ _ _ _ _ (by simp), St.put_self]
  have hsn : (s.apply ((.mt nid, .m (some ⟨0, false, row, app, l.length, es, if row then [] else l.map Seg.shape⟩)) :: segWrites nid 0 l)).segs nid l.length = l := by
    simp only [St.apply]
    exact segs_apply_all _ _ _
  have hlt : ∀ id m b, s (.mt id) = .m (some m) → m.frz = false → own.env id m.ver = some (some b) → b < w.heap.size := by
    intro id m b hm hfz' hb
    obtain ⟨cs', e', lo', hi', hh, _⟩ := ((h.ent id m hm).live b hb hfz').body
    exact (Array.getElem?_eq_some_iff.1 hh).1
  refine ⟨own', hle, by simp [own'], by simp [own'], by simp [own', segsSize], by simp [own'], ?_⟩
  refine { below := ?_, base := by rw [hsize]; exact Nat.le_trans h.base (Nat.le_succ _), defs := h.defs, size := h.size, tm := ?_, rook := fun b o v hv => hcell b o v (h.rook b o v hv), rold := h.rold, ent := ?_, fr := ?_, frv := ?_, inj := ?_, kk := E.mono _ _ _ _ hle (.refl _) h.kk }
  · exact h.below.trans ⟨h1, h2, h3, by rw [hsize]; omega, fun k hk => hold k (by have := h.base; omega)⟩
  · intro t sv ht
    have e1 : (s.apply ((.mt nid, .m (some ⟨0, false, row, app, l.length, es, if row then [] else l.map Seg.shape⟩)) :: segWrites nid 0 l)) (.tm t) = s (.tm t) := by
      simp only [St.apply]
      rw [apply_segWrites_ne _ _ _ _ _ (by simp), St.put_ne _ _ (by simp)]
    rw [e1] at ht
    exact (h.tm t sv ht).own hle
  · intro id m hm
    by_cases hid : id = nid
    · subst hid
      rw [hmn] at hm
      simp only [Item.m.injEq, Option.some.injEq] at hm
      subst hm
      rw [hsn]
      refine { st := fun q _ => by simp [own'], es := fun q x hx => by simp [own', hx], row := ?_, plain := ?_, there := ⟨some w.heap.size, by simp [own']⟩, nil := fun hn => by simp [own'] at hn, live := ?_, froze := fun b _ hz => by cases hz }
      · intro hr
        obtain ⟨n, f, hl, hn, _⟩ := hrow hr
        exact ⟨n, f, hl, fun b _ => by simpa [own'] using hn⟩
      · intro hr
        simp only at hr
        exact ⟨rfl, by simp [hr]⟩
      · intro b hb _
        simp only [own', if_true, Option.some.injEq] at hb
        subst hb
        refine ⟨h.base, fun o => ?_, cs, e, lo, hi, hnew, hfz, (fun t ht => by obtain ⟨p1, p2, p3, p4⟩ := happ t ht; exact ⟨p1, p2, p3, by simpa [own'] using p4⟩), hsz, fun k sv hk => (hrel k sv hk).own hle, fun hr => hpl hr, fun hr => ?_⟩
        · cases hro : ro w.heap.size o with
          | none => rfl
          | some v =>
            have := block_lt_of_cell (h.rook _ _ _ hro)
            simp at this
        · obtain ⟨n, f, hl, hn, hc⟩ := hrow hr
          rw [hc, hl]
          simp [own', hl, Seg.es]
    · rw [hmt id hid] at hm
      rw [hsegs id m.ns hid]
      have he := h.ent id m hm
      obtain ⟨x0, hx0⟩ := he.there
      have e0 : ∀ ver, own'.env id ver = own.env id ver := fun ver => by simp [own', hid]
      have e1 : ∀ q, own'.st id q = own.st id q := fun q => by simp [own', hid]
      have e2 : ∀ q, own'.es id q = own.es id q := fun q => by simp [own', hid]
      have e3 : ∀ ver, own'.cap id ver = own.cap id ver := fun ver => by simp [own', hid]
      refine { st := fun q hq => by rw [e1]; exact he.st q hq, es := fun q x hx => by rw [e2]; exact he.es q x hx, row := fun hr => ?_, plain := he.plain, there := ⟨x0, by rw [e0]; exact hx0⟩, nil := fun hn => he.nil (by rw [← e0]; exact hn), live := fun b hb hz => ?_, froze := fun b hb hz => he.froze b (by rw [← e0]; exact hb) hz }
      · obtain ⟨n, f, hl, hn⟩ := he.row hr
        exact ⟨n, f, hl, fun b hb => by rw [e3]; exact hn b (by rw [← e0]; exact hb)⟩
      · rw [e0] at hb
        have hl := he.live b hb hz
        have hb' := hlt id m b hm hz hb
        obtain ⟨cs', e', lo', hi', hh, r1, r2, r3, r4, r5, r6⟩ := hl.body
        exact ⟨hl.low, hl.apart, cs', e', lo', hi', by rw [hold b (by omega)]; exact hh, r1, (fun t ht => by rw [e3]; exact r2 t ht), r3, fun k sv hk => (r4 k sv hk).own hle, r5, fun hr => by rw [e3, e2]; exact r6 hr⟩
  · intro id hm ver
    by_cases hid : id = nid
    · subst hid; rw [hmn] at hm; cases hm
    · rw [hmt id hid] at hm
      simp only [own', hid, if_false]
      exact h.fr id hm ver
  · intro id m hm ver hv
    by_cases hid : id = nid
    · subst hid
      rw [hmn] at hm
      simp only [Item.m.injEq, Option.some.injEq] at hm
      subst hm
      simp only at hv
      simp [own', show ver ≠ 0 by omega]
    · rw [hmt id hid] at hm
      simp only [own', hid, if_false]
      exact h.frv id m hm ver hv
  · intro id id' m m' b hm hm' hz hz' hb hb'
    by_cases hid : id = nid
    · by_cases hid' : id' = nid
      · rw [hid, hid']
      · rw [hmt id' hid'] at hm'
        subst hid
        rw [hmn] at hm
        simp only [Item.m.injEq, Option.some.injEq] at hm
        subst hm
        simp only [own', if_true, Option.some.injEq] at hb
        simp only [own', hid', if_false] at hb'
        have := hlt id' m' b hm' hz' hb'
        omega
    · rw [hmt id hid] at hm
      simp only [own', hid, if_false] at hb
      by_cases hid' : id' = nid
      · subst hid'
        rw [hmn] at hm'
        simp only [Item.m.injEq, Option.some.injEq] at hm'
        subst hm'
        simp only [own', if_true, Option.some.injEq] at hb'
        have := hlt id m b hm hz hb
        omega
      · rw [hmt id' hid'] at hm'
        simp only [own', hid', if_false] at hb'
        exact h.inj id id' m m' b hm hm' hz hz' hb hb'
end
end Go.Sx
