/-
  The operations' soundness, tenth part: append; calls by contract; all operations together.
-/
import Derived.Test.YteemgogalahhnaaEngL
namespace Go.Sx
set_option linter.unusedVariables false
set_option linter.unusedSimpArgs false
open Go Go.RowKit

section
variable {E : Env} {P : Program} {ro : RO} {own : Own} {s : St} {w : World} {a : Act}
/-- A row of the call's own, behind an append: its block may be another one. -/
theorem SimG.grow (h : SimG E ro own s w a) {w' : World} {ob : Option Nat} (hg : w.grownBy w' ob) {id n es cap : Nat} {f : Nat → List SV} {e : TypeId} (ver ns : Nat) (hns : ns = 1)
    (hob : ∀ b, ob = some b → ∃ m, s (.mt id) = .m (some m) ∧ m.frz = false ∧ own.env id m.ver = some (some b))
    (hnew : ∀ ver', ver ≤ ver' → own.env id ver' = none)
    (st es' : Nat → Nat) (hst : ∀ ver' x q, own.env id ver' = some x → st q = own.st id q ∧ es' q = own.es id q) (hst0 : st 0 = 0) (hes0 : es' 0 = es)
    {sh : List (Option (Nat × Nat))} {blk : Option Nat} (hnil : blk = none → n = 0)
    (hblk : ∀ b, blk = some b → E.B ≤ b ∧ (some b = ob ∨ b = w.heap.size) ∧ n ≤ cap ∧ cap ≤ maxLen ∧ ∃ cs, w'.heap[b]? = some (.cells cs e (0, 0)) ∧ cs.size = cap * es ∧ (∀ own' : Own, own.le own' → ∀ k sv, flat [.a n es f] k = some sv → Rel ro own' sv (cs.getD k undef))) :
    ∃ own', own.le own' ∧ own'.env id ver = some blk ∧ own'.cap id ver = cap ∧ own'.es id 0 = es ∧
      SimG E ro own' (s.apply [(.mt id, .m (some ⟨ver, false, true, some e, ns, es, sh⟩)), (.sg id 0, .s (.a n es f))]) w' a := by
  subst hns
  let own' : Own := { env := fun i v => if i = id ∧ v = ver then some blk else own.env i v,
                      cap := fun i v => if i = id ∧ v = ver then cap else own.cap i v,
                      st := fun i q => if i = id then st q else own.st i q,
                      es := fun i q => if i = id then es' q else own.es i q }
  have hne : ∀ i v x, own.env i v = some x → ¬ (i = id ∧ v = ver) := by
    rintro i v x hx ⟨rfl, rfl⟩
    rw [hnew v (Nat.le_refl _)] at hx; cases hx
  have hle : own.le own' := by
    refine ⟨fun i v x hx => ?_, fun i v x hx => ?_, fun i v x q hx => ?_, fun i v x q hx => ?_⟩
    · simp only [own', hne i v x hx, if_false, hx]
    · simp only [own', hne i v x hx, if_false]
    · by_cases hi : i = id
      · subst hi; simp only [own', if_true]; exact (hst v x q hx).1
      · simp only [own', hi, if_false]
    · by_cases hi : i = id
      · subst hi; simp only [own', if_true]; exact (hst v x q hx).2
      · simp only [own', hi, if_false]
  have hlt : ∀ i m b, s (.mt i) = .m (some m) → m.frz = false → own.env i m.ver = some (some b) → b < w.heap.size := by
    intro i m b hm hfz' hb
    obtain ⟨cs', e', lo', hi', hh, _⟩ := ((h.ent i m hm).live b hb hfz').body
    exact (Array.getElem?_eq_some_iff.1 hh).1
  have hro : ∀ b o v, ro b o = some v → b < w.heap.size ∧ some b ≠ ob := by
    intro b o v hv
    refine ⟨block_lt_of_cell (h.rook _ _ _ hv), fun e1 => ?_⟩
    obtain ⟨m, hm, hz, hb⟩ := hob b e1.symm
    have := ((h.ent id m hm).live b hb hz).apart o
    rw [hv] at this; cases this
  have hother : ∀ i m b, i ≠ id → s (.mt i) = .m (some m) → m.frz = false → own.env i m.ver = some (some b) → w'.heap[b]? = w.heap[b]? ∧ some b ≠ ob := by
    intro i m b hi hm hz hb
    have hne : some b ≠ ob := by
      intro e1
      obtain ⟨m', hm', hz', hb'⟩ := hob b e1.symm
      exact hi (h.inj i id m m' b hm hm' hz hz' hb hb')
    exact ⟨hg.block b (hlt i m b hm hz hb) hne, hne⟩
  have hmt : ∀ i, i ≠ id → (s.apply [(.mt id, .m (some ⟨ver, false, true, some e, 1, es, sh⟩)), (.sg id 0, .s (.a n es f))]) (.mt i) = s (.mt i) := by
    intro i hi
    simp only [St.apply, St.put]
    rw [if_neg (by simp), if_neg (by simpa using hi)]
  have hmn : (s.apply [(.mt id, .m (some ⟨ver, false, true, some e, 1, es, sh⟩)), (.sg id 0, .s (.a n es f))]) (.mt id) = .m (some ⟨ver, false, true, some e, 1, es, sh⟩) := by
    simp [St.apply, St.put]
  have hsg : ∀ i k, i ≠ id → (s.apply [(.mt id, .m (some ⟨ver, false, true, some e, 1, es, sh⟩)), (.sg id 0, .s (.a n es f))]).segs i k = s.segs i k := by
    intro i k hi
    refine St.segs_congr fun q _ => ?_
    simp only [St.apply, St.put]
    rw [if_neg (by simp [hi]), if_neg (by simp)]
  have hsn : (s.apply [(.mt id, .m (some ⟨ver, false, true, some e, 1, es, sh⟩)), (.sg id 0, .s (.a n es f))]).segs id 1 = [.a n es f] := by
    simp [St.segs, List.range_succ, St.seg, St.apply, St.put]
  refine ⟨own', hle, by simp [own'], by simp [own'], by simp [own', hes0], ?_⟩
  refine { below := ?_, base := Nat.le_trans h.base hg.size, defs := h.defs, size := h.size, tm := ?_, rook := ?_, rold := h.rold, ent := ?_, fr := ?_, frv := ?_, inj := ?_, kk := E.mono _ _ _ _ hle (.refl _) h.kk }
  · refine h.below.trans ⟨hg.os, hg.tape, hg.output, hg.size, fun k hk => hg.block k (by have := h.base; omega) fun e1 => ?_⟩
    obtain ⟨m, hm, hz, hb⟩ := hob k e1.symm
    have := ((h.ent id m hm).live k hb hz).low
    omega
  · intro t sv ht
    have e1 : (s.apply [(.mt id, .m (some ⟨ver, false, true, some e, 1, es, sh⟩)), (.sg id 0, .s (.a n es f))]) (.tm t) = s (.tm t) := by simp [St.apply, St.put]
    rw [e1] at ht
    exact (h.tm t sv ht).own hle
  · intro b o v hv
    obtain ⟨h1, h2⟩ := hro b o v hv
    have := h.rook b o v hv
    simpa [World.cell?, hg.block b h1 h2] using this
  · intro i m hm
    by_cases hi : i = id
    · subst hi
      rw [hmn] at hm
      simp only [Item.m.injEq, Option.some.injEq] at hm
      subst hm
      rw [hsn]
      refine { st := ?_, es := ?_, row := fun _ => ⟨n, f, rfl, ?_⟩, plain := fun hr => by simp at hr, there := ⟨blk, by simp [own']⟩, nil := ?_, live := ?_, froze := fun b _ hz => by cases hz }
      · intro q hq
        have : q = 0 := by simp only at hq; omega
        subst this
        simp [own', hst0, segsSize]
      · intro q x hx
        cases q with
        | zero => simp at hx; subst hx; simp [own', hes0, Seg.es]
        | succ q => simp at hx
      · intro b hb
        simp only [own', and_self, if_true, Option.some.injEq] at hb
        simpa [own'] using (hblk b hb).2.2.1
      · intro hn
        simp only [own', and_self, if_true, Option.some.injEq] at hn
        rw [hnil hn]
        exact ⟨rfl, f, rfl⟩
      · intro b hb _
        simp only [own', and_self, if_true, Option.some.injEq] at hb
        obtain ⟨c1, c2, c3, c4, cs, c5, c6, c7⟩ := hblk b hb
        refine ⟨c1, fun o => ?_, cs, e, 0, 0, c5, .inl (Nat.le_refl _), fun t ht => ⟨rfl, rfl, by simpa using ht, by simpa [own'] using c4⟩, ?_, fun k sv hk => c7 own' hle k sv hk, fun hr => by simp at hr, fun _ => by simp [own', hes0, c6]⟩
        · cases hr : ro b o with
          | none => rfl
          | some v =>
            obtain ⟨h1, h2⟩ := hro b o v hr
            rcases c2 with c2 | c2
            · exact absurd c2 h2
            · omega
        · simp only [segsSize, Seg.size, c6, Nat.add_zero]
          exact Nat.mul_le_mul_right _ c3
    · rw [hmt i hi] at hm
      rw [hsg i m.ns hi]
      have he := h.ent i m hm
      have e0 : ∀ v, own'.env i v = own.env i v := fun v => by simp [own', hi]
      have e1 : ∀ q, own'.st i q = own.st i q := fun q => by simp [own', hi]
      have e2 : ∀ q, own'.es i q = own.es i q := fun q => by simp [own', hi]
      have e3 : ∀ v, own'.cap i v = own.cap i v := fun v => by simp [own', hi]
      obtain ⟨x0, hx0⟩ := he.there
      refine { st := fun q hq => by rw [e1]; exact he.st q hq, es := fun q x hx => by rw [e2]; exact he.es q x hx, row := fun hr => ?_, plain := he.plain, there := ⟨x0, by rw [e0]; exact hx0⟩, nil := fun hn => he.nil (by rw [← e0]; exact hn), live := fun b hb hz => ?_, froze := fun b hb hz => he.froze b (by rw [← e0]; exact hb) hz }
      · obtain ⟨n', f', hl, hn⟩ := he.row hr
        exact ⟨n', f', hl, fun b hb => by rw [e3]; exact hn b (by rw [← e0]; exact hb)⟩
      · rw [e0] at hb
        have hl := he.live b hb hz
        obtain ⟨cs', e', lo', hi', hh, r1, r2, r3, r4, r5, r6⟩ := hl.body
        exact ⟨hl.low, hl.apart, cs', e', lo', hi', by rw [(hother i m b hi hm hz hb).1]; exact hh, r1, (fun t ht => by rw [e3]; exact r2 t ht), r3, fun k sv hk => (r4 k sv hk).own hle, r5, fun hr => by rw [e3, e2]; exact r6 hr⟩
  · intro i hm v
    by_cases hi : i = id
    · subst hi; rw [hmn] at hm; cases hm
    · rw [hmt i hi] at hm
      simp only [own', hi, false_and, if_false]
      exact h.fr i hm v
  · intro i m hm v hv
    by_cases hi : i = id
    · subst hi
      rw [hmn] at hm
      simp only [Item.m.injEq, Option.some.injEq] at hm
      subst hm
      simp only at hv
      simp only [own', true_and, show v ≠ ver from by omega, if_false]
      exact hnew v (by omega)
    · rw [hmt i hi] at hm
      simp only [own', hi, false_and, if_false]
      exact h.frv i m hm v hv
  · intro i i' m m' b hm hm' hz hz' hb hb'
    have self : ∀ m1, (s.apply [(.mt id, .m (some ⟨ver, false, true, some e, 1, es, sh⟩)), (.sg id 0, .s (.a n es f))]) (.mt id) = .m (some m1) → own'.env id m1.ver = some (some b) → some b = ob ∨ b = w.heap.size := by
      intro m1 h1 h2
      rw [hmn] at h1
      simp only [Item.m.injEq, Option.some.injEq] at h1
      subst h1
      simp only [own', and_self, if_true, Option.some.injEq] at h2
      exact (hblk b h2).2.1
    have far : ∀ j m1, j ≠ id → (s.apply [(.mt id, .m (some ⟨ver, false, true, some e, 1, es, sh⟩)), (.sg id 0, .s (.a n es f))]) (.mt j) = .m (some m1) → m1.frz = false → own'.env j m1.ver = some (some b) → some b ≠ ob ∧ b < w.heap.size := by
      intro j m1 hj h1 h2 h3
      rw [hmt j hj] at h1
      simp only [own', hj, false_and, if_false] at h3
      exact ⟨(hother j m1 b hj h1 h2 h3).2, hlt j m1 b h1 h2 h3⟩
    by_cases hi : i = id
    · by_cases hi' : i' = id
      · rw [hi, hi']
      · subst hi
        obtain ⟨q1, q2⟩ := far i' m' hi' hm' hz' hb'
        rcases self m hm hb with q | q
        · exact absurd q q1
        · omega
    · by_cases hi' : i' = id
      · subst hi'
        obtain ⟨q1, q2⟩ := far i m hi hm hz hb
        rcases self m' hm' hb' with q | q
        · exact absurd q q1
        · omega
      · rw [hmt i hi] at hm
        rw [hmt i' hi'] at hm'
        simp only [own', hi, hi', false_and, if_false] at hb hb'
        exact h.inj i i' m m' b hm hm' hz hz' hb hb'

/-- What a slice holds. -/
theorem rdRow_ok (h : SimG E ro own s w a) {es : Nat} {x : SV} {v : Value} {k : Nat → (Nat → List SV) → Tx} {ws} (hx : Rel ro own x v) (hk : (rdRow es x k).ok s ws) :
    ∃ n g, (k n g).ok s ws ∧ ((n = 0 ∧ ∃ A c, v = .slice A 0 c) ∨ ∃ b off c, v = .slice (some ⟨b, off, none⟩) n c ∧ ∀ i j, i < n → j < es → ∃ u, w.cell? ⟨b, off + (i * es + j), none⟩ = some u ∧ ∀ sv, (g i)[j]? = some sv → Rel ro own sv u) := by
  unfold rdRow at hk
  split at hk
  · exact ⟨_, _, hk, .inl ⟨rfl, _, _, inv_nils hx⟩⟩
  · rename_i es' len f
    split at hk
    case isFalse => exact hk.elim
    rename_i e; subst e
    refine ⟨_, _, hk, ?_⟩
    rcases inv_ros hx with ⟨hl, A, cap, hv⟩ | ⟨b, k0, cap, vs, hv, hcap, hl, hm, hh⟩
    · exact .inl ⟨hl, A, cap, hv⟩
    · refine .inr ⟨b, k0, cap, hv, fun i j hi hj => ⟨vs (i * es' + j), ?_, fun sv hs => (hh i j sv hi hs).own (Own.empty_le _)⟩⟩
      have : (i + 1) * es' ≤ len * es' := Nat.mul_le_mul_right _ hi
      rw [Nat.add_mul] at this
      exact h.rook _ _ _ (hm _ (by omega))
  · rename_i id ver off len
    obtain ⟨m, hm, hk⟩ := rdM_ok hk
    have he := h.ent id m hm
    split at hk
    case isFalse => exact hk.elim
    rename_i hc
    obtain ⟨hrow, hver, hes⟩ := hc
    obtain ⟨y, hy, hk⟩ := rdS_ok hk
    split at hk
    case h_2 => exact hk.elim
    rename_i n es' f
    split at hk
    case isFalse => exact hk.elim
    rename_i hes2
    obtain ⟨hle, hk⟩ := hk
    refine ⟨_, _, hk, ?_⟩
    rcases inv_sl hx with ⟨b, hb, hcap, hv⟩ | ⟨_, hl, _, hv⟩
    · right
      obtain ⟨n0, f0, hseg, _⟩ := he.row hrow
      have hns : m.ns = 1 := by
        have := St.segs_length s id m.ns
        rw [hseg] at this; simpa using this.symm
      have hseg1 : s.segs id m.ns = [.a n es' f] := by
        rw [hns]; simp [St.segs, List.range_succ, hy]
      have hes0 : own.es id 0 = es := by rw [he.es 0 (.a n es' f) (by rw [hseg1]; rfl)]; exact hes2
      refine ⟨b, off * own.es id 0, _, hv, fun i j hi hj => ?_⟩
      rw [← hver] at hb
      have hin : (off + i) * es + j < n * es := by
        have : (off + i + 1) * es ≤ n * es := Nat.mul_le_mul_right _ (by omega)
        rw [Nat.add_mul] at this; omega
      obtain ⟨u, hu, hr⟩ := h.cell' hm hb (k := (off + i) * es + j) (by rw [hseg1]; simp [segsSize, Seg.size, hes2]; exact hin)
      refine ⟨u, ?_, fun sv hs => hr sv ?_⟩
      · rw [hes0, ← Nat.add_assoc, ← Nat.add_mul]; exact hu
      · rw [hseg1, flat_al (by rw [hes2]; exact hin)]
        have := seg_a_at (f := f) (n := n) (i := off + i) (by omega) hj
        simp only [Seg.at, hin, if_true] at this
        rw [hes2, this]; exact hs
    · exact .inl ⟨hl, none, 0, by rw [hv]⟩
  · exact hk.elim
end
end Go.Sx
