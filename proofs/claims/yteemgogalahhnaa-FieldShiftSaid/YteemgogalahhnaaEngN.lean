/-
  The operations' soundness, eleventh part: append; calls by contract; all operations together.
-/
import Derived.Test.YteemgogalahhnaaEngM
import Derived.Lib.AppendStr
namespace Go.Sx
set_option linter.unusedVariables false
set_option linter.unusedSimpArgs false
open Go Go.RowKit

/-- A function answers as its contract says. -/
structure FnOK (P : Program) (f : Nat) (c : Ctr) : Prop where
  fn : ∃ fn, P.funcs[f]? = some fn ∧ fn.body.isSome = true ∧ (fn.name == "runtime.NumGoroutine") = false
  calls : ∀ args p r, c args = some (p, r) → p → ∀ (R : RO) (w : World) (vals : Array Value), (∀ b o v, R b o = some v → w.cell? ⟨b, o, none⟩ = some v) → RelL R Own.empty args vals.toList →
    Calls P f vals w fun e w' => ∃ v R', e = .returned v ∧ Rel R' Own.empty r v ∧ ROle R R' ∧ (∀ b o v, R' b o = some v → w'.cell? ⟨b, o, none⟩ = some v) ∧ (∀ b o, b < w.heap.size → R' b o = R b o) ∧ Below w.heap.size w w'

section
variable {E : Env} {P : Program} {ro : RO} {own : Own} {s : St} {w : World} {a : Act}
theorem run_append_nil (base : Nat) (t ty e : TypeId) (i : TypeInfo) (size : Nat) (ht : P.underlying t = some (.slice e)) (hi : P.info? e = some i)
    (v : Value) (n : Nat) (xs : List Value) (hown : w.ownsRow base e size v n xs) (c : Nat) : (Builtin.append_ #[t, t] ty #[v, .slice none 0 c]).run P w = .ok v w := by
  rcases hown.2 with ⟨rfl, rfl⟩ | ⟨g, cap, cur, rfl, _, _, hnc, _⟩
  · simp [Builtin.append_, run_underlying ht, sizeOf, typeInfo, hi, Builtin.lenOf, Builtin.firstCells]
  · simp [Builtin.append_, run_underlying ht, sizeOf, typeInfo, hi, Builtin.lenOf, Builtin.firstCells, hnc, storeCells]
/-- append's run, whatever the source. -/
theorem run_append_src (base : Nat) (t ty e : TypeId) (i : TypeInfo) (z : Value) (ht : P.underlying t = some (.slice e)) (hi : P.info? e = some i) (hz : i.zero = some z) (hzs : z.cells.size = i.size) (hsz : 0 < i.size)
    (v : Value) (n : Nat) (xs : List Value) (hown : w.ownsRow base e i.size v n xs) {u : Value} {k : Nat} {g : Nat → List SV}
    (hu : (k = 0 ∧ ∃ A c, u = .slice A 0 c) ∨ ∃ b off c, u = .slice (some ⟨b, off, none⟩) k c ∧ ∀ q j, q < k → j < i.size → ∃ x, w.cell? ⟨b, off + (q * i.size + j), none⟩ = some x ∧ ∀ sv, (g q)[j]? = some sv → Rel ro own sv x)
    (hone : ∀ j, j < k → rowOne i.size (g j) = true) (h63 : n + k ≤ 140737488355328) (hbytes : (n + k) * i.bytes ≤ 140737488355328) (hbase : base ≤ w.heap.size) :
    ∃ v' w' news, (Builtin.append_ #[t, t] ty #[v, u]).run P w = .ok v' w' ∧ w'.ownsRow base e i.size v' (n + k) (xs ++ news) ∧ w.grownBy w' v.ownBlock ∧ (v'.ownBlock = v.ownBlock ∨ v'.ownBlock = some w.heap.size) ∧
      news.length = k * i.size ∧ ∀ q j sv, q < k → (g q)[j]? = some sv → Rel ro own sv (news.getD (q * i.size + j) undef) := by
  rcases hu with ⟨rfl, A, c, rfl⟩ | ⟨b, off, c, rfl, hc⟩
  · cases A with
    | none => exact ⟨v, w, [], run_append_nil base t ty e i i.size ht hi v n xs hown c, by simpa using hown, World.grownBy.refl w _, .inl rfl, by simp, by intro q j sv hq; omega⟩
    | some ad =>
      obtain ⟨v', w', hr, h2, h3, _, h5⟩ := run_append_own_at (P := P) w base t ty e i z i.size i.bytes ht hi hz rfl rfl hzs hsz v n xs hown ad 0 c [] (by simp) (by simp) (by simp) (by unfold maxLen; omega) (by simpa using hbytes) hbase
      exact ⟨v', w', [], hr, by simpa using h2, h3, h5, by simp, by intro q j sv hq; omega⟩
  · let news : List Value := (List.range (k * i.size)).map fun t => (w.cell? ⟨b, off + t, none⟩).getD undef
    have hsplit : ∀ t, t < k * i.size → t / i.size < k ∧ t % i.size < i.size ∧ t / i.size * i.size + t % i.size = t := fun t ht =>
      ⟨by rw [Nat.div_lt_iff_lt_mul hsz]; exact ht, Nat.mod_lt _ hsz, by rw [Nat.mul_comm]; exact Nat.div_add_mod t i.size⟩
    have hget : ∀ t u, news[t]? = some u → t < k * i.size ∧ w.cell? ⟨b, off + t, none⟩ = some u := by
      intro t u h
      have hlt := (List.getElem?_eq_some_iff.1 h).1
      simp only [news, List.length_map, List.length_range] at hlt
      obtain ⟨q1, q2, q3⟩ := hsplit t hlt
      obtain ⟨x, hx, _⟩ := hc _ _ q1 q2
      rw [q3] at hx
      simp only [news, List.getElem?_map, List.getElem?_range, hlt, if_true, Option.map_some, Option.some.injEq] at h
      rw [hx] at h
      simp at h
      subst h
      exact ⟨hlt, hx⟩
    obtain ⟨v', w', hr, h2, h3, _, h5⟩ := run_append_own_at (P := P) w base t ty e i z i.size i.bytes ht hi hz rfl rfl hzs hsz v n xs hown ⟨b, off, none⟩ k c news (by simp [news]) (fun j u hu => by rw [add_none]; exact (hget j u hu).2) (fun u hu => by
        obtain ⟨t, ht⟩ := List.getElem?_of_mem hu
        obtain ⟨hlt, hx⟩ := hget t u ht
        obtain ⟨q1, q2, q3⟩ := hsplit t hlt
        obtain ⟨x, hx2, hr⟩ := hc _ _ q1 q2
        rw [q3, hx] at hx2
        simp at hx2; subst hx2
        have ho := hone _ q1
        simp only [rowOne, Bool.and_eq_true, beq_iff_eq, List.all_eq_true] at ho
        have hl : t % i.size < (g (t / i.size)).length := by rw [ho.1]; exact q2
        exact oneCell_rel (hr _ (List.getElem?_eq_getElem hl)) (ho.2 _ (List.getElem_mem hl))) (by unfold maxLen; omega) hbytes hbase
    refine ⟨v', w', news, hr, h2, h3, h5, by simp [news], fun q j sv hq hs => ?_⟩
    have ho := hone _ hq
    simp only [rowOne, Bool.and_eq_true, beq_iff_eq] at ho
    have hj : j < i.size := by rw [← ho.1]; exact (List.getElem?_eq_some_iff.1 hs).1
    obtain ⟨x, hx, hr⟩ := hc q j hq hj
    have hin : q * i.size + j < k * i.size := by
      have : (q + 1) * i.size ≤ k * i.size := Nat.mul_le_mul_right _ hq
      rw [Nat.add_mul] at this; omega
    have : news.getD (q * i.size + j) undef = x := by
      simp only [news, List.getD_eq_getElem?_getD, List.getElem?_map, List.getElem?_range, hin, if_true, Option.map_some, Option.getD_some, hx]
    rw [this]; exact hr sv hs
theorem run_call_builtin {o : Oper} {c : Call} {b : Builtin} (ho : o.op = .call c) (hc : c.callee = .builtin b) : (execOp a.eval o).run P w = (builtin b c.argTypes o.type (c.args.map fun | .const _ => true | _ => false) (c.args.map a.eval)).run P w := by
  unfold execOp
  simp only [ho, resolve, hc, Sem.run_bind, Sem.run_pure, Result.andThen_ok, invoke]
  rfl
/-- What an owned row's cells are. -/
theorem ownsRow_cells {base : Nat} {e : TypeId} {size n : Nat} {v : Value} {xs : List Value} (h : w.ownsRow base e size v n xs) :
    (v = .slice none 0 0 ∧ n = 0) ∨ ∃ g cap cur, v = .slice (some ⟨g, 0, none⟩) n cap ∧ base ≤ g ∧ n ≤ cap ∧ cap ≤ maxLen ∧ w.heap[g]? = some (.cells cur e (0, 0)) ∧ cur.size = cap * size ∧ ∀ k, k < n * size → cur.getD k undef = xs.getD k undef := by
  rcases h.2 with h0 | ⟨g, cap, cur, hv, hb, hh, hn, hc, hs, ht⟩
  · exact .inl h0
  · refine .inr ⟨g, cap, cur, hv, hb, hn, hc, hh, hs, fun k hk => ?_⟩
    rw [← ht]
    simp [List.getD_eq_getElem?_getD, List.getElem?_take, hk, Array.getD_eq_getD_getElem?]
/-- What append does, whatever is appended. -/
def AppRun (P : Program) (E : Env) (ro : RO) (own : Own) (w : World) (ats : Array TypeId) (ty e : TypeId) (es bytes : Nat) (vy : Value) (k : Nat) (g : Nat → List SV) : Prop :=
  ∀ (v : Value) (n : Nat) (xs : List Value), w.ownsRow E.B e es v n xs → n + k ≤ 140737488355328 → (n + k) * bytes ≤ 140737488355328 →
    ∃ v' w' news, (Builtin.append_ ats ty #[v, vy]).run P w = .ok v' w' ∧ w'.ownsRow E.B e es v' (n + k) (xs ++ news) ∧ w.grownBy w' v.ownBlock ∧ (v'.ownBlock = v.ownBlock ∨ v'.ownBlock = some w.heap.size) ∧
      news.length = k * es ∧ ∀ q j sv, q < k → (g q)[j]? = some sv → Rel ro own sv (news.getD (q * es + j) undef)
theorem snd_appTo (h : SimG E ro own s w a) {o : Oper} {c : Call} {nid d : Nat} {e : TypeId} {es bytes : Nat} {x : SV} {vx vy : Value} {k : Nat} {g : Nat → List SV} (ho : o.op = .call c) (hc : c.callee = .builtin .append) (hargs : c.args.map a.eval = #[vx, vy])
    (hx : Rel ro own x vx) (hd : o.dst = some d) (hdN : d < E.N) (hc2 : 0 < es) (hsrc : AppRun P E ro own w c.argTypes o.type e es bytes vy k g) {ws} (hk : (txAppTo nid d e es bytes x k g).ok s ws) : Snd E P o s w a ws := by
  unfold txAppTo at hk
  split at hk
  · -- onto nil
    obtain ⟨⟨hb1, hb2⟩, hk⟩ := hk
    obtain ⟨hf, hk⟩ := rdFree_ok hk
    have hws : ws = newEnt nid true (some e) es [.a k es g] ++ [(.tm d, .v (.sl nid 0 0 k))] := hk.symm
    subst hws
    have hvx := inv_nils hx
    have hown : w.ownsRow E.B e es vx 0 [] := ⟨by simp, .inl ⟨hvx, rfl⟩⟩
    obtain ⟨v', w', news, hrun, h2, h3, h4, h5, h6⟩ := hsrc vx 0 [] hown (by omega) (by simpa using hb2)
    have hvo : vx.ownBlock = none := by rw [hvx]; rfl
    rw [Nat.zero_add, List.nil_append] at h2
    rw [hvo] at h3 h4
    have hwr : newEnt nid true (some e) es [.a k es g] = [(.mt nid, .m (some ⟨0, false, true, some e, 1, es, []⟩)), (.sg nid 0, .s (.a k es g))] := rfl
    have cont : ∀ own' : Own, own.le own' → ∀ t sv, flat [.a k es g] t = some sv → Rel ro own' sv (news.getD t undef) := by
      intro own' hle t sv ht
      have hlt : t < k * es := by have := flat_lt ht; simpa [segsSize, Seg.size] using this
      rw [flat_al hlt] at ht
      have hq : t / es < k := by rw [Nat.div_lt_iff_lt_mul hc2]; exact hlt
      have := h6 _ _ sv hq ht
      rw [show t / es * es + t % es = t from by rw [Nat.mul_comm]; exact Nat.div_add_mod t es] at this
      exact this.own hle
    intro Q
    unfold Oper.wp
    rw [run_call_builtin ho hc, hargs]
    simp only [builtin, Sem.run_bind, hrun, Result.andThen_ok, Sem.run_pure]
    show Sim E _ w' (a.put o.dst v')
    rw [hd, apply_append, hwr, apply_one]
    rcases ownsRow_cells h2 with ⟨hv', hn⟩ | ⟨gb, cap, cur, hv', g1, g2, g3, g4, g5, g6⟩
    · obtain ⟨own', hle, e1, e2, e3, hs⟩ := h.grow (w' := w') (ob := none) h3 (id := nid) (n := k) (es := es) (cap := 0) (f := g) (e := e) 0 1 rfl (by simp) (fun v _ => h.fr nid hf v) (fun _ => 0) (fun _ => es) (fun v x q hx => by rw [h.fr nid hf v] at hx; cases hx) rfl rfl (sh := []) (blk := none) (fun _ => hn) (by simp)
      exact ⟨ro, own', hs.put hdN (by rw [hv']; exact .sln _ _ _ _ _ e1 hn rfl)⟩
    · have hgb : gb = w.heap.size := by
        rcases h4 with h4 | h4 <;> rw [hv'] at h4 <;> simp [Value.ownBlock] at h4
        exact h4
      obtain ⟨own', hle, e1, e2, e3, hs⟩ := h.grow (w' := w') (ob := none) h3 (id := nid) (n := k) (es := es) (cap := cap) (f := g) (e := e) 0 1 rfl (by simp) (fun v _ => h.fr nid hf v) (fun _ => 0) (fun _ => es) (fun v x q hx => by rw [h.fr nid hf v] at hx; cases hx) rfl rfl (sh := []) (blk := some gb) (by simp) (fun b hb => by
        simp at hb; subst hb
        refine ⟨g1, .inr hgb, g2, g3, cur, g4, g5, fun own' hle t sv ht => ?_⟩
        have hlt : t < k * es := by have := flat_lt ht; simpa [segsSize, Seg.size] using this
        rw [g6 t hlt]
        exact cont own' hle t sv ht)
      refine ⟨ro, own', hs.put hdN ?_⟩
      have := Rel.sl (ro := ro) own' nid 0 0 k gb e1 (by rw [e2]; omega)
      rw [e2, Nat.zero_mul, Nat.sub_zero] at this
      rw [hv']; exact this
  · -- onto an own row
    rename_i id ver off len
    obtain ⟨m, hm, hk⟩ := rdM_ok hk
    have he := h.ent id m hm
    split at hk
    case isFalse => exact hk.elim
    rename_i hcm
    obtain ⟨hrow, hver, hmes, hz0, happ⟩ := hcm
    obtain ⟨y2, hy2, hk⟩ := rdS_ok hk
    split at hk
    case h_2 => exact hk.elim
    rename_i n es' f
    split at hk
    case isFalse => exact hk.elim
    rename_i hes
    have hes := hes.symm
    subst hes
    obtain ⟨⟨hoff, hlen, hb1, hb2⟩, hk⟩ := hk
    subst hoff; subst hlen; subst hver
    have hws := hk.symm
    change ws = _ at hws
    subst hws
    obtain ⟨n0, f0, hseg0, hn0⟩ := he.row hrow
    have hns : m.ns = 1 := by
      have := St.segs_length s id m.ns
      rw [hseg0] at this; simpa using this.symm
    have hseg : s.segs id m.ns = [.a len es f] := by
      rw [hns]; simp [St.segs, List.range_succ, hy2]
    have hst0 : own.st id 0 = 0 := by rw [he.st 0 (by omega)]; rfl
    have hes0 : own.es id 0 = es := by rw [he.es 0 (.a len es f) (by rw [hseg]; rfl)]; rfl
    have key : ∃ xs : List Value, w.ownsRow E.B e es vx len xs ∧ (∀ t sv, flat [.a len es f] t = some sv → Rel ro own sv (xs.getD t undef)) ∧ (∀ b, vx.ownBlock = some b → own.env id m.ver = some (some b)) := by
      rcases inv_sl hx with ⟨b, hb, hcap, hv⟩ | ⟨hb, hl, _, hv⟩
      · obtain ⟨cs, e', lo, hi', hh, r1, r2, r3, r4, r5, r6⟩ := (he.live b hb hz0).body
        obtain ⟨rfl, rfl, rfl, q4⟩ := r2 e happ
        rw [hseg] at r3 r4
        simp only [segsSize, Seg.size, Nat.add_zero] at r3
        have hcs := r6 hrow
        rw [hes0] at hcs
        rw [hes0, Nat.zero_mul, Nat.sub_zero] at hv
        have hcl : len ≤ own.cap id m.ver := by
          rw [hseg0] at hseg
          simp at hseg
          rw [← hseg.1]; exact hn0 b hb
        refine ⟨cs.toList.take (len * es), ⟨by simp; omega, .inr ⟨b, _, cs, hv, (he.live b hb hz0).low, hh, hcl, q4, hcs, rfl⟩⟩, fun t sv ht => ?_, fun b' hb' => ?_⟩
        · have hlt : t < len * es := by have := flat_lt ht; simpa [segsSize, Seg.size] using this
          have := r4 t sv ht
          simpa [List.getD_eq_getElem?_getD, List.getElem?_take, hlt, Array.getD_eq_getD_getElem?] using this
        · rw [hv] at hb'; simp [Value.ownBlock] at hb'; subst hb'; exact hb
      · refine ⟨[], ⟨by simp [hl], .inl ⟨hv, hl⟩⟩, fun t sv ht => ?_, fun b' hb' => ?_⟩
        · have := flat_lt ht; simp [segsSize, Seg.size, hl] at this
        · rw [hv] at hb'; simp [Value.ownBlock] at hb'
    obtain ⟨xs, hown, hxs, hvb⟩ := key
    obtain ⟨v', w', news, hrun, h2, h3, h4, h5, h6⟩ := hsrc vx len xs hown hb1 hb2
    have cont : ∀ own' : Own, own.le own' → ∀ t sv, flat [.a (len + k) es fun j => mergeL (decide (j < len)) (f j) (g (j - len))] t = some sv → Rel ro own' sv ((xs ++ news).getD t undef) := by
      intro own' hle t sv ht
      have hlt : t < (len + k) * es := by have := flat_lt ht; simpa [segsSize, Seg.size] using this
      rw [flat_al hlt] at ht
      obtain ⟨x1, y1, hx1, hy1, rfl⟩ := mergeL_at ht
      have hdm : t / es * es + t % es = t := by rw [Nat.mul_comm]; exact Nat.div_add_mod t es
      have hmod : t % es < es := Nat.mod_lt _ hc2
      have hxl : xs.length = len * es := hown.1
      by_cases hq : t / es < len
      · have htl : t < len * es := by rwa [← Nat.div_lt_iff_lt_mul hc2]
        refine rel_ite (fun _ => ?_) (fun hf => by simp [hq] at hf)
        rw [List.getD_eq_getElem?_getD, List.getElem?_append_left (by omega), ← List.getD_eq_getElem?_getD]
        exact (hxs t x1 (by rw [flat_al htl]; exact hx1)).own hle
      · have htl : len * es ≤ t := by
          have := Nat.mul_le_mul_right es (Nat.le_of_not_lt hq)
          omega
        refine rel_ite (fun hf => by simp [hq] at hf) (fun _ => ?_)
        rw [List.getD_eq_getElem?_getD, List.getElem?_append_right (by omega), ← List.getD_eq_getElem?_getD, hxl]
        have hqk : t / es - len < k := by
          have : t / es < len + k := by rw [Nat.div_lt_iff_lt_mul hc2]; exact hlt
          omega
        have := h6 _ _ y1 hqk hy1
        have e1 : (t / es - len) * es + t % es = t - len * es := by
          have h8 : len * es ≤ t / es * es := Nat.mul_le_mul_right _ (Nat.le_of_not_lt hq)
          rw [Nat.sub_mul]; generalize t / es * es = A at *; omega
        rw [e1] at this
        exact this.own hle
    intro Q
    unfold Oper.wp
    rw [run_call_builtin ho hc, hargs]
    simp only [builtin, Sem.run_bind, hrun, Result.andThen_ok, Sem.run_pure]
    show Sim E _ w' (a.put o.dst v')
    rw [hd]
    have hmm : ({ m with ver := m.ver + 1 } : Mta) = ⟨m.ver + 1, false, true, some e, m.ns, es, m.sh⟩ := by
      cases m; simp only at *; subst_vars; rfl
    rw [hmm]
    show Sim E ((s.apply [(.mt id, .m (some ⟨m.ver + 1, false, true, some e, m.ns, es, m.sh⟩)), (.sg id 0, .s (.a (len + k) es fun j => mergeL (decide (j < len)) (f j) (g (j - len))))]).put (.tm d) (.v (.sl id (m.ver + 1) 0 (len + k)))) w' (a.put (some d) v')
    have hst : ∀ ver' x q, own.env id ver' = some x → own.st id q = own.st id q ∧ own.es id q = own.es id q := fun _ _ _ _ => ⟨rfl, rfl⟩
    rcases ownsRow_cells h2 with ⟨hv', hn⟩ | ⟨gb, cap, cur, hv', g1, g2, g3, g4, g5, g6⟩
    · obtain ⟨own', hle, e1, e2, e3, hs⟩ := h.grow (w' := w') (ob := vx.ownBlock) h3 (id := id) (n := len + k) (es := es) (cap := 0) (f := fun j => mergeL (decide (j < len)) (f j) (g (j - len))) (e := e) (m.ver + 1) m.ns hns (fun b hb => ⟨m, hm, hz0, hvb b hb⟩) (fun v hv => h.frv id m hm v (by omega)) (own.st id) (own.es id) hst hst0 hes0 (sh := m.sh) (blk := none) (fun _ => hn) (by simp)
      exact ⟨ro, own', hs.put hdN (by rw [hv']; exact .sln _ _ _ _ _ e1 hn rfl)⟩
    · obtain ⟨own', hle, e1, e2, e3, hs⟩ := h.grow (w' := w') (ob := vx.ownBlock) h3 (id := id) (n := len + k) (es := es) (cap := cap) (f := fun j => mergeL (decide (j < len)) (f j) (g (j - len))) (e := e) (m.ver + 1) m.ns hns (fun b hb => ⟨m, hm, hz0, hvb b hb⟩) (fun v hv => h.frv id m hm v (by omega)) (own.st id) (own.es id) hst hst0 hes0 (sh := m.sh) (blk := some gb) (by simp) (fun b hb => by
        simp at hb; subst hb
        refine ⟨g1, ?_, g2, g3, cur, g4, g5, fun own' hle t sv ht => ?_⟩
        · rcases h4 with h4 | h4
          · left; rw [← h4, hv']; rfl
          · right; rw [hv'] at h4; simpa [Value.ownBlock] using h4
        · have hlt : t < (len + k) * es := by have := flat_lt ht; simpa [segsSize, Seg.size] using this
          rw [g6 t hlt]
          exact cont own' hle t sv ht)
      refine ⟨ro, own', hs.put hdN ?_⟩
      have := Rel.sl (ro := ro) own' id (m.ver + 1) 0 (len + k) gb e1 (by rw [e2]; omega)
      rw [e2, Nat.zero_mul, Nat.sub_zero] at this
      rw [hv']; exact this
  · exact hk.elim
theorem snd_append (h : SimG E ro own s w a) {o : Oper} {c : Call} {nid : Nat} {T : TypeId} {x y : SV} {vx vy : Value} (ho : o.op = .call c) (hc : c.callee = .builtin .append) (hT : c.argTypes = #[T, T]) (hargs : c.args.map a.eval = #[vx, vy])
    (hx : Rel ro own x vx) (hy : Rel ro own y vy) {ws} (hk : (txAppend P E.N nid o.dst T x y).ok s ws) : Snd E P o s w a ws := by
  unfold txAppend at hk
  split at hk
  case h_2 => exact hk.elim
  rename_i e hu
  split at hk
  case h_2 => exact hk.elim
  rename_i z i d hz hi hd
  split at hk
  case isFalse => exact hk.elim
  rename_i hc0
  obtain ⟨hc1, hc2, hdN⟩ := hc0
  obtain ⟨k, g, hk2, hsrc⟩ := rdRow_ok h hy hk
  clear hk
  obtain ⟨hone, hk⟩ := hk2
  obtain ⟨zv, z1, z2, z3⟩ := zeroCells_spec (ro := ro) (own := own) hz
  have hzi : i.zero = some zv := by
    have := z1 w
    simp only [zeroValue, Sem.run_bind, run_info hi, Result.andThen_ok] at this
    cases hq : i.zero with
    | none => rw [hq] at this; simp at this
    | some q => rw [hq] at this; simp at this; rw [this]
  have hzs : zv.cells.size = i.size := by rw [z2, hc1]
  refine snd_appTo h ho hc hargs hx hd hdN hc2 (fun v n xs hown h1 h2 => ?_) hk
  rw [hT]
  exact run_append_src (ro := ro) (own := own) E.B T o.type e i zv hu hi hzi hzs hc2 v n xs hown hsrc hone h1 h2 h.base
theorem isZeroByte_ok {x : Option Value} (h : isZeroByte x = true) : x = some (.int .u8 0) := by
  unfold isZeroByte at h; split at h
  · rfl
  · cases h
theorem str_bytes (l : List UInt8) : Lib.strCells ⟨l.toArray⟩ = l.map fun b => Value.int .u8 b.toNat := by simp [Lib.strCells]
theorem byte_cell {l : List UInt8} {q j : Nat} {sv : SV} (hq : q < l.length) (h : (byteSV l q)[j]? = some sv) : Rel ro own sv ((l.map fun b => Value.int .u8 b.toNat).getD (q * 1 + j) undef) := by
  cases j with
  | zero =>
    simp [byteSV, List.getD_eq_getElem?_getD, hq] at h
    subst h
    simp [List.getD_eq_getElem?_getD, hq]
    exact .int _ _ _
  | succ j => simp [byteSV] at h
theorem snd_appendS (h : SimG E ro own s w a) {o : Oper} {c : Call} {nid : Nat} {T U : TypeId} {x y : SV} {vx vy : Value} (ho : o.op = .call c) (hc : c.callee = .builtin .append) (hT : c.argTypes = #[T, U]) (hargs : c.args.map a.eval = #[vx, vy])
    (hx : Rel ro own x vx) (hy : Rel ro own y vy) {ws} (hk : (txAppendS P E.N nid o.dst T U x y).ok s ws) : Snd E P o s w a ws := by
  unfold txAppendS at hk
  split at hk
  case h_2 => exact hk.elim
  rename_i e l hu hU
  split at hk
  case h_2 => exact hk.elim
  rename_i i d hi hd
  split at hk
  case isFalse => exact hk.elim
  rename_i hc0
  obtain ⟨hz, h1, h2, hdN⟩ := hc0
  have hz := isZeroByte_ok hz
  refine snd_appTo h ho hc hargs hx hd hdN (by omega) (fun v n xs hown q1 q2 => ?_) hk
  rw [hT, inv_str hy]
  have hs : (⟨l.toArray⟩ : ByteArray).size = l.length := by simp [ByteArray.size]
  obtain ⟨v', w', r1, r2, r3, r4⟩ := Lib.run_append_own_string (P := P) w E.B T U o.type e i hu hU hi hz h1 h2 v n xs hown ⟨l.toArray⟩ (by rw [hs]; unfold maxLen; omega) (by rw [hs]; omega) h.base
  rw [hs, str_bytes] at r2
  refine ⟨v', w', _, r1, r2, r3, ?_, by simp, fun q j sv hq hj => byte_cell hq hj⟩
  rcases hown.2 with ⟨rfl, rfl⟩ | ⟨gb, cap, cur, rfl, hbg, hg, hnc, hcm, hcs, htake⟩
  · by_cases hm : l.length = 0
    · left
      rw [r4.2 ⟨rfl, by rw [hs]; exact hm⟩]
    · have hr := run_append_nil_string (P := P) w T U o.type e i (.int .u8 0) hu hU hi hz ⟨l.toArray⟩ (by rw [hs]; omega) (by rw [hs]; omega) (by rw [hs, h2]; omega)
      rw [r1] at hr
      simp only [Result.ok.injEq] at hr
      right; rw [hr.1]; rfl
  · by_cases hroom : n + l.length ≤ cap
    · have hcs' : cur.size = cap := by simpa using hcs
      have hr := Lib.run_append_room_string (P := P) w T U o.type e i hu hU hi h1 gb n cap cur hg ⟨l.toArray⟩ (by rw [hs]; exact hroom) (by rw [hs]; omega)
      rw [r1] at hr
      simp only [Result.ok.injEq] at hr
      left; rw [hr.1]; rfl
    · have hxl : xs.length = n := by simpa using hown.1
      have holds : ∀ j u, xs[j]? = some u → w.cell? ((⟨gb, 0, none⟩ : Addr).add j) = some u := hown.cells (g := gb) rfl
      have hr := Lib.run_append_grow_string (P := P) w T U o.type e i (.int .u8 0) hu hU hi hz ⟨gb, 0, none⟩ n cap xs (by rw [h1]; simpa using hxl) holds ⟨l.toArray⟩ (by rw [hs]; omega) (by rw [hs]; omega) (by rw [hs, h2]; exact growslice_fits (by omega) (by omega))
      rw [r1] at hr
      simp only [Result.ok.injEq] at hr
      right; rw [hr.1]; rfl
end
end Go.Sx
