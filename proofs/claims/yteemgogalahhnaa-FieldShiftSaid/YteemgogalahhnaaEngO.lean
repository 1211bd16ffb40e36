/-
  The operations' soundness, last part: calls by contract; all operations together.
-/
import Derived.Test.YteemgogalahhnaaEngNa
import Derived.Lib.ConvBytes
import Derived.Laws.BytesString
import Derived.Laws.Append
namespace Go.Sx
set_option linter.unusedVariables false
set_option linter.unusedSimpArgs false
open Go Go.RowKit

section
variable {E : Env} {P : Program} {ro : RO} {own : Own} {s : St} {w : World} {a : Act}
theorem closed1_rel {o o' : Own} {x : SV} {v : Value} (h : Rel ro o x v) (hc : closed1 x = true) : Rel ro o' x v := by
  cases x <;> simp [closed1] at hc
  · rw [inv_bool h]; exact .bool _ _
  · rw [inv_tt h]; exact .tt _
  · rw [inv_ff h]; exact .ff _
  · rw [inv_int h]; exact .int _ _ _
  · rw [inv_str h]; exact .str _ _
  · rw [inv_nils h]; exact .nils _
  · rcases inv_ros h with ⟨hl, A, cap, hv⟩ | ⟨b, k0, cap, vs, hv, hcap, hl, hm, hh⟩
    · rw [hv]; exact .ros0 _ _ _ _ _ _ hl
    · rw [hv]; exact .ros _ _ _ _ _ _ _ vs hcap hl hm hh
  · cases h; exact .opq _ _ ‹_›
theorem closed1_one {x : SV} (h : closed1 x = true) : oneCell x = true := by cases x <;> simp [closed1, oneCell] at h ⊢
theorem closedSegs_flat : ∀ {l : List Seg}, closedSegs l → ∀ k sv, flat l k = some sv → closed1 sv = true
  | [], _, _, _, hk => by simp [flat] at hk
  | .s v :: r, h, k, sv, hk => by
    cases k with
    | zero => rw [flat_s0] at hk; simp at hk; subst hk; exact (andB_iff.1 h).1
    | succ k => rw [flat_ss] at hk; exact closedSegs_flat (andB_iff.1 h).2 k sv hk
  | .a n es f :: r, h, k, sv, hk => by
    by_cases hlt : k < n * es
    · rw [flat_al hlt] at hk
      have hes : 0 < es := by
        rcases Nat.eq_zero_or_pos es with h0 | h0
        · subst h0; simp at hlt
        · exact h0
      have := h.1 (k / es) (by rw [Nat.div_lt_iff_lt_mul hes]; exact hlt)
      simp only [rowOK, Bool.and_eq_true, List.all_eq_true] at this
      exact this.2 _ (List.mem_of_getElem? hk)
    · rw [flat_ag hlt] at hk
      exact closedSegs_flat h.2 _ sv hk
theorem closedSV_rel {o o' : Own} {x : SV} {v : Value} (h : Rel ro o x v) (hc : closedSV x) : Rel ro o' x v := by
  cases x
  case agg l =>
    obtain ⟨cs, hv, hs, hh⟩ := inv_agg h
    rw [hv]
    exact .agg _ _ _ hs fun k sv hk => closed1_rel (hh k sv hk) (closedSegs_flat hc k sv hk)
  all_goals (simp only [closedSV, andB_iff] at hc; exact closed1_rel h hc.1)

/-- A row is only read from now on. -/
theorem SimG.freeze (h : SimG E ro own s w a) {id : Nat} {m : Mta} {n es : Nat} {f : Nat → List SV} (hm : s (.mt id) = .m (some m)) (hseg : s.segs id m.ns = [.a n es f]) (hcl : ∀ i, i < n → rowOK es (f i) = true) :
    ∃ ro', ROle ro ro' ∧ SimG E ro' own (s.put (.mt id) (.m (some { m with frz := true }))) w a := by
  by_cases hz : m.frz = true
  · refine ⟨ro, .refl _, ?_⟩
    have : s.put (.mt id) (.m (some { m with frz := true })) = s := by
      funext l
      simp only [St.put]
      split
      · rename_i e; rw [e, hm]; cases m; simp only at hz; subst hz; rfl
      · rfl
    rw [this]; exact h
  have hz : m.frz = false := by simpa using hz
  have he := h.ent id m hm
  obtain ⟨x0, hx0⟩ := he.there
  have hmt : ∀ i, i ≠ id → (s.put (.mt id) (.m (some { m with frz := true }))) (.mt i) = s (.mt i) := fun i hi => St.put_ne _ _ (by simpa using hi)
  have hmn : (s.put (.mt id) (.m (some { m with frz := true }))) (.mt id) = .m (some { m with frz := true }) := St.put_self _ _ _
  have hsg : ∀ i k, (s.put (.mt id) (.m (some { m with frz := true }))).segs i k = s.segs i k := fun i k => St.segs_congr fun q _ => St.put_ne _ _ (by simp)
  -- the world that is read
  obtain ⟨ro', hle, hat, hnot⟩ : ∃ ro' : RO, ROle ro ro' ∧ (∀ b, x0 = some b → ∀ k, k < segsSize (s.segs id m.ns) → ∃ v, ro' b k = some v ∧ w.cell? ⟨b, k, none⟩ = some v ∧ ∀ sv, flat (s.segs id m.ns) k = some sv → Rel ro own sv v) ∧
      ((∀ b o v, ro' b o = some v → ro b o = some v ∨ (x0 = some b ∧ w.cell? ⟨b, o, none⟩ = some v)) ∧ (∀ b o, x0 ≠ some b → ro' b o = ro b o)) := by
    cases x0 with
    | none => exact ⟨ro, .refl _, by simp, fun b o v hv => .inl hv, fun _ _ _ => rfl⟩
    | some b0 =>
      have hl := he.live b0 hx0 hz
      refine ⟨fun b o => if b = b0 then (if o < segsSize (s.segs id m.ns) then w.cell? ⟨b0, o, none⟩ else none) else ro b o, fun b o v hv => ?_, fun b hb k hk => ?_, fun b o v hv => ?_, fun b o hb => ?_⟩
      · have : b ≠ b0 := by rintro rfl; rw [hl.apart o] at hv; cases hv
        simp only [this, if_false]; exact hv
      · simp at hb; subst hb
        obtain ⟨v, hv, hr⟩ := h.cell' hm hx0 hk
        exact ⟨v, by simp [hk, hv], hv, hr⟩
      · simp only at hv
        split at hv
        · rename_i hb; subst hb
          split at hv
          · exact .inr ⟨rfl, hv⟩
          · cases hv
        · exact .inl hv
      · have : b ≠ b0 := fun e => hb (by rw [e])
        simp [this]
  refine ⟨ro', hle, ?_⟩
  refine { below := h.below, base := h.base, defs := h.defs, size := h.size, tm := ?_, rook := ?_, rold := ?_, ent := ?_, fr := ?_, frv := ?_, inj := ?_, kk := E.mono _ _ _ _ (.refl _) hle h.kk }
  · intro t sv ht
    rw [St.put_ne _ _ (by simp)] at ht
    exact (h.tm t sv ht).mono hle (.refl _)
  · intro b o v hv
    rcases hnot.1 b o v hv with h1 | ⟨_, h1⟩
    · exact h.rook b o v h1
    · exact h1
  · intro b o hb
    rw [hnot.2 b o ?_]
    · exact h.rold b o hb
    · intro e1
      have := (he.live b (by rw [hx0, e1]) hz).low
      omega
  · intro i m' hm'
    rw [hsg]
    by_cases hi : i = id
    · subst hi
      rw [hmn] at hm'
      simp only [Item.m.injEq, Option.some.injEq] at hm'
      subst hm'
      refine { st := he.st, es := he.es, row := he.row, plain := he.plain, there := he.there, nil := he.nil, live := (fun b _ hz' => by cases hz'), froze := ?_ }
      intro b hb _ k hk
      simp only at hb
      rw [hx0] at hb
      simp at hb
      obtain ⟨v, hv, _, hr⟩ := hat b hb k hk
      refine ⟨v, hv, fun sv hs => ?_⟩
      have hs2 : flat [.a n es f] k = some sv := by rw [← hseg]; exact hs
      have := closedSegs_flat (l := [.a n es f]) ⟨hcl, trivial⟩ k sv hs2
      exact (closed1_rel (hr sv hs) this).mono hle (.refl _)
    · rw [hmt i hi] at hm'
      have he' := h.ent i m' hm'
      refine { st := he'.st, es := he'.es, row := he'.row, plain := he'.plain, there := he'.there, nil := he'.nil, live := fun b hb hz' => ?_, froze := fun b hb hz' k hk => ?_ }
      · have hl := he'.live b hb hz'
        refine ⟨hl.low, fun o => ?_, ?_⟩
        · rw [hnot.2 b o ?_]
          · exact hl.apart o
          · intro e1
            exact hi (h.inj i id m' m b hm' hm hz' hz hb (by rw [hx0, e1]))
        · obtain ⟨cs, e, lo, hi', r0, r1, r2, r3, r4, r5, r6⟩ := hl.body
          exact ⟨cs, e, lo, hi', r0, r1, r2, r3, fun k sv hk => (r4 k sv hk).mono hle (.refl _), r5, r6⟩
      · obtain ⟨v, hv, hr⟩ := he'.froze b hb hz' k hk
        exact ⟨v, hle _ _ _ hv, fun sv hs => (hr sv hs).mono hle (.refl _)⟩
  · intro i hi
    by_cases e1 : i = id
    · subst e1; rw [hmn] at hi; cases hi
    · rw [hmt i e1] at hi; exact h.fr i hi
  · intro i m' hi
    by_cases e1 : i = id
    · subst e1
      rw [hmn] at hi
      simp only [Item.m.injEq, Option.some.injEq] at hi
      subst hi
      exact h.frv i m hm
    · rw [hmt i e1] at hi; exact h.frv i m' hi
  · intro i i' m1 m2 b h1 h2 z1 z2 b1 b2
    have ne : ∀ j mj, (s.put (.mt id) (.m (some { m with frz := true }))) (.mt j) = .m (some mj) → mj.frz = false → j ≠ id := by
      rintro j mj hj hzj rfl
      rw [hmn] at hj
      simp only [Item.m.injEq, Option.some.injEq] at hj
      subst hj; cases hzj
    rw [hmt i (ne i m1 h1 z1)] at h1
    rw [hmt i' (ne i' m2 h2 z2)] at h2
    exact h.inj i i' m1 m2 b h1 h2 z1 z2 b1 b2
/-- A call has come back. -/
theorem SimG.called (h : SimG E ro own s w a) {w' : World} {R' : RO} (hb : Below w.heap.size w w') (hR : ROle ro R') (hok : ∀ b o v, R' b o = some v → w'.cell? ⟨b, o, none⟩ = some v) (hold : ∀ b o, b < w.heap.size → R' b o = ro b o) : SimG E R' own s w' a := by
  refine { below := h.below.trans (hb.mono h.base), base := Nat.le_trans h.base hb.size, defs := h.defs, size := h.size, tm := fun t sv ht => (h.tm t sv ht).mono hR (.refl _), rook := hok, rold := fun b o hb' => by rw [hold b o (by have := h.base; omega)]; exact h.rold b o hb', ent := ?_, fr := h.fr, frv := h.frv, inj := h.inj, kk := E.mono _ _ _ _ (.refl _) hR h.kk }
  intro i m hm
  have he := h.ent i m hm
  refine { st := he.st, es := he.es, row := he.row, plain := he.plain, there := he.there, nil := he.nil, live := fun b hb' hz => ?_, froze := fun b hb' hz k hk => ?_ }
  · have hl := he.live b hb' hz
    obtain ⟨cs, e, lo, hi', r0, r1, r2, r3, r4, r5, r6⟩ := hl.body
    have hlt := (Array.getElem?_eq_some_iff.1 r0).1
    exact ⟨hl.low, fun o => by rw [hold b o hlt]; exact hl.apart o, cs, e, lo, hi', by rw [hb.block b hlt]; exact r0, r1, r2, r3, fun k sv hk => (r4 k sv hk).mono hR (.refl _), r5, r6⟩
  · obtain ⟨v, hv, hr⟩ := he.froze b hb' hz k hk
    exact ⟨v, hR _ _ _ hv, fun sv hs => (hr sv hs).mono hR (.refl _)⟩

/-- The state s1 is s, but that some rows have been frozen. -/
def Froz (s s1 : St) : Prop := (∀ l, (∀ id, l ≠ .mt id) → s1 l = s l) ∧ ∀ id, s1 (.mt id) = s (.mt id) ∨ ∃ m, s (.mt id) = .m (some m) ∧ s1 (.mt id) = .m (some { m with frz := true })
theorem Froz.segs {s s1 : St} (h : Froz s s1) (id n : Nat) : s1.segs id n = s.segs id n := St.segs_congr fun q _ => h.1 _ (by simp)
theorem resolveC_ok : ∀ {xs : List SV} {vals : List Value} {s1 : St} {ro1 : RO} {k : List SV → List (Loc × Item) → Tx} {ws}, Froz s s1 → SimG E ro1 own s1 w a → RelL ro1 own xs vals → (resolveC xs k).ok s ws →
    ∃ xs' ws' ro2, (k xs' ws').ok s ws ∧ ROle ro1 ro2 ∧ Froz s (s1.apply ws') ∧ SimG E ro2 own (s1.apply ws') w a ∧ RelL ro2 Own.empty xs' vals
  | [], [], s1, ro1, k, ws, hf, h, _, hk => ⟨[], [], ro1, hk, .refl _, hf, h, trivial⟩
  | x :: r, v :: vr, s1, ro1, k, ws, hf, h, hr, hk => by
    have plain : closedSV x → (resolveC r fun r' ws' => k (x :: r') ([] ++ ws')).ok s ws → ∃ xs' ws' ro2, (k xs' ws').ok s ws ∧ ROle ro1 ro2 ∧ Froz s (s1.apply ws') ∧ SimG E ro2 own (s1.apply ws') w a ∧ RelL ro2 Own.empty xs' (v :: vr) := by
      intro hc hk
      obtain ⟨xs', ws', ro2, h1, h2, hff, h3, h4⟩ := resolveC_ok hf h hr.2 hk
      exact ⟨x :: xs', [] ++ ws', ro2, h1, h2, hff, h3, (closedSV_rel hr.1 hc).mono h2 (.refl _), h4⟩
    cases x
    case sl id ver off len =>
      simp only [resolveC, resolve0] at hk
      obtain ⟨m, hm, hk⟩ := rdM_ok hk
      split at hk
      case isFalse => exact hk.elim
      rename_i hc
      obtain ⟨hrow, hver⟩ := hc
      obtain ⟨y, hy, hk⟩ := rdS_ok hk
      split at hk
      case h_2 => exact hk.elim
      rename_i n es f
      split at hk
      case isFalse => exact hk.elim
      rename_i hes
      obtain ⟨⟨hle, hcl⟩, hk⟩ := hk
      obtain ⟨m1, hm1, hmm⟩ : ∃ m1, s1 (.mt id) = .m (some m1) ∧ (m1 = m ∨ m1 = { m with frz := true }) := by
        rcases hf.2 id with e1 | ⟨m', e1, e2⟩
        · exact ⟨m, by rw [e1, hm], .inl rfl⟩
        · rw [hm] at e1
          simp only [Item.m.injEq, Option.some.injEq] at e1
          subst e1
          exact ⟨_, e2, .inr rfl⟩
      have hns1 : m1.ns = m.ns := by rcases hmm with rfl | rfl <;> rfl
      have hrow1 : m1.row = true := by rcases hmm with rfl | rfl <;> exact hrow
      have hver1 : m1.ver = ver := by rcases hmm with rfl | rfl <;> exact hver
      have hes1 : m1.es = es := by rcases hmm with rfl | rfl <;> exact hes
      have he := h.ent id m1 hm1
      obtain ⟨n0, f0, hseg0, _⟩ := he.row hrow1
      have hns : m1.ns = 1 := by
        have := St.segs_length s1 id m1.ns
        rw [hseg0] at this; simpa using this.symm
      have hseg : s1.segs id m1.ns = [.a n es f] := by
        rw [hns]
        have : s1.seg id 0 = s.seg id 0 := by simp [St.seg, hf.1 (.sg id 0) (by simp)]
        simp [St.segs, List.range_succ, this, hy]
      obtain ⟨ro2, hle2, hs2⟩ := h.freeze hm1 hseg hcl
      have hfz : ({ m1 with frz := true } : Mta) = { m with frz := true } := by rcases hmm with rfl | rfl <;> rfl
      rw [hfz] at hs2
      have hf2 : Froz s (s1.put (.mt id) (.m (some { m with frz := true }))) := by
        refine ⟨fun l hl => by rw [St.put_ne _ _ (hl id)]; exact hf.1 l hl, fun i => ?_⟩
        by_cases hi : i = id
        · subst hi; exact .inr ⟨m, hm, St.put_self _ _ _⟩
        · rw [St.put_ne _ _ (by simpa using hi)]; exact hf.2 i
      obtain ⟨xs', ws', ro3, h1, h2, hff, h3, h4⟩ := resolveC_ok hf2 hs2 (hr.2.mono hle2 (.refl _)) hk
      refine ⟨_, _, ro3, h1, hle2.trans h2, ?_, ?_, ?_, h4⟩
      · exact hff
      · exact h3
      · -- the row, as it is read
        have hx := hr.1
        rcases inv_sl hx with ⟨b, hb, hcap, hv⟩ | ⟨_, hl, _, hv⟩
        · rw [← hver1] at hb hv hcap
          have he2 := hs2.ent id { m with frz := true } (St.put_self _ _ _)
          have hb2 : own.env id ({ m with frz := true } : Mta).ver = some (some b) := by rw [← hfz]; exact hb
          have hseg2 : (s1.put (.mt id) (.m (some { m with frz := true }))).segs id ({ m with frz := true } : Mta).ns = [.a n es f] := by
            rw [← hfz]
            show (s1.put _ _).segs id m1.ns = _
            rw [← hseg]
            exact St.segs_congr fun q _ => St.put_ne _ _ (by simp)
          have hfr := he2.froze b hb2 rfl
          rw [hseg2] at hfr
          have hes0 : own.es id 0 = es := by rw [he.es 0 (.a n es f) (by rw [hseg]; rfl)]; rfl
          have hlen : ∀ i, i < n → (f i).length = es := fun i hi => by
            have := hcl i hi
            simp only [rowOK, Bool.and_eq_true, beq_iff_eq] at this
            exact this.1
          have hpos : ∀ i j, i < len → j < es → (off * es + (i * es + j)) < n * es ∧ off * es + (i * es + j) = (off + i) * es + j := by
            intro i j hi hj
            have e1 : (off + i) * es = off * es + i * es := Nat.add_mul _ _ _
            have : (off + i + 1) * es ≤ n * es := Nat.mul_le_mul_right _ (by omega)
            rw [Nat.add_mul] at this
            exact ⟨by omega, by omega⟩
          have hcell : ∀ k, k < len * es → ∃ v, ro2 b (off * es + k) = some v := by
            intro k hk2
            have hes' : 0 < es := by
              rcases Nat.eq_zero_or_pos es with h0 | h0
              · subst h0; simp at hk2
              · exact h0
            have q1 : k / es < len := by rw [Nat.div_lt_iff_lt_mul hes']; exact hk2
            have q2 : k % es < es := Nat.mod_lt _ hes'
            have q3 : k / es * es + k % es = k := by rw [Nat.mul_comm]; exact Nat.div_add_mod k es
            have := hpos _ _ q1 q2
            rw [q3] at this
            obtain ⟨v, hv, _⟩ := hfr (off * es + k) (by simp [segsSize, Seg.size]; exact this.1)
            exact ⟨v, hv⟩
          rw [hv, hes0]
          refine Rel.mono ?_ h2 (.refl _)
          refine .ros _ _ _ _ b (off * es) _ (fun k => ((ro2 b (off * es + k)).getD undef)) (by omega) (fun i hi => hlen _ (by omega)) (fun k hk2 => ?_) (fun i j sv hi hj => ?_)
          · obtain ⟨v, hv⟩ := hcell k hk2
            rw [hv]; rfl
          · have hj' : j < es := by rw [← hlen (off + i) (by omega)]; exact (List.getElem?_eq_some_iff.1 hj).1
            obtain ⟨p1, p2⟩ := hpos i j hi hj'
            obtain ⟨v, hv, hr2⟩ := hfr (off * es + (i * es + j)) (by simp [segsSize, Seg.size]; exact p1)
            rw [hv]
            refine hr2 sv ?_
            rw [flat_al p1, p2]
            have := seg_a_at (f := f) (n := n) (i := off + i) (by omega) hj'
            rw [p2] at p1
            simp only [Seg.at, p1, if_true] at this
            rw [this]; exact hj
        · rw [hv]
          subst hl
          exact .ros0 _ _ _ _ _ _ rfl
    all_goals
      simp only [resolveC, resolve0, Tx.ok] at hk
      exact plain hk.1 hk.2
  | [], _ :: _, _, _, _, _, _, _, h, _ => h.elim
  | _ :: _, [], _, _, _, _, _, _, h, _ => h.elim
theorem cellsOfSegs_flat : ∀ {l : List Seg} {cs : List SV}, cellsOfSegs l = some cs → segsSize l = cs.length ∧ ∀ k, flat l k = cs[k]?
  | [], cs, h => by simp [cellsOfSegs] at h; subst h; exact ⟨rfl, fun k => by simp [flat]⟩
  | .s v :: r, cs, h => by
    simp only [cellsOfSegs, Option.map_eq_some_iff] at h
    obtain ⟨c, h1, rfl⟩ := h
    obtain ⟨p, q⟩ := cellsOfSegs_flat h1
    refine ⟨by simp [segsSize, Seg.size, p]; omega, fun k => ?_⟩
    cases k with
    | zero => rw [flat_s0]; rfl
    | succ k => rw [flat_ss, q]; rfl
  | .a .. :: _, cs, h => by simp [cellsOfSegs] at h
theorem cellsOfSegs_of : ∀ (cs : List SV), cellsOfSegs (cs.map .s) = some cs
  | [] => rfl
  | x :: r => by simp [cellsOfSegs, cellsOfSegs_of r]
theorem relL_of_at {ro : RO} {own : Own} : ∀ {l : List SV} {v : List Value}, l.length = v.length → (∀ (i : Nat) (sv : SV) (u : Value), l[i]? = some sv → v[i]? = some u → Rel ro own sv u) → RelL ro own l v
  | [], [], _, _ => trivial
  | x :: r, y :: t, hl, h => ⟨h 0 x y rfl rfl, relL_of_at (by simpa using hl) fun i sv u h1 h2 => h (i + 1) sv u (by simpa using h1) (by simpa using h2)⟩
  | [], _ :: _, hl, _ => by simp at hl
  | _ :: _, [], hl, _ => by simp at hl
theorem resolveL_ok : ∀ {xs : List SV} {vals : List Value} {s1 : St} {ro1 : RO} {k : List SV → List (Loc × Item) → Tx} {ws}, Froz s s1 → SimG E ro1 own s1 w a → RelL ro1 own xs vals → (resolveL xs k).ok s ws →
    ∃ xs' ws' ro2, (k xs' ws').ok s ws ∧ ROle ro1 ro2 ∧ SimG E ro2 own (s1.apply ws') w a ∧ RelL ro2 Own.empty xs' vals
  | [], [], s1, ro1, k, ws, hf, h, _, hk => ⟨[], [], ro1, hk, .refl _, h, trivial⟩
  | x :: r, v :: vr, s1, ro1, k, ws, hf, h, hr, hk => by
    have one : ∀ {c : List SV} {cv : List Value} {g : List SV → SV}, RelL ro1 own c cv → (∀ ro2 c', RelL ro2 Own.empty c' cv → c'.length = c.length → Rel ro2 Own.empty (g c') v) → (resolveC c fun c' ws => resolveL r fun r' ws' => k (g c' :: r') (ws ++ ws')).ok s ws →
        ∃ xs' ws' ro2, (k xs' ws').ok s ws ∧ ROle ro1 ro2 ∧ SimG E ro2 own (s1.apply ws') w a ∧ RelL ro2 Own.empty xs' (v :: vr) := by
      intro c cv g hc hg hk
      obtain ⟨c', w1, ro2, h1, h2, h3, h4, h5⟩ := resolveC_ok hf h hc hk
      obtain ⟨xs', ws', ro3, k1, k2, k3, k4⟩ := resolveL_ok h3 h4 (hr.2.mono h2 (.refl _)) h1
      exact ⟨_, _, ro3, k1, h2.trans k2, by rw [apply_append]; exact k3, (hg ro2 c' h5 (by rw [h5.length, hc.length])).mono k2 (.refl _), k4⟩
    have single : (resolve0 x fun x' ws => resolveL r fun r' ws' => k (x' :: r') (ws ++ ws')).ok s ws → ∃ xs' ws' ro2, (k xs' ws').ok s ws ∧ ROle ro1 ro2 ∧ SimG E ro2 own (s1.apply ws') w a ∧ RelL ro2 Own.empty xs' (v :: vr) := by
      intro hk
      refine one (c := [x]) (cv := [v]) (g := fun c => c.getD 0 .any) ⟨hr.1, trivial⟩ (fun ro2 c' hc hl => ?_) ?_
      · match c', hc with
        | [y], hc => exact hc.1
      · simp only [resolveC, List.append_nil, List.getD_cons_zero]; exact hk
    cases x
    case agg l =>
      simp only [resolveL, resolve1] at hk
      split at hk
      · split at hk
        case h_2 => exact hk.elim
        rename_i cs hcs
        obtain ⟨vs, hv, hsz, hh⟩ := inv_agg hr.1
        obtain ⟨p, q⟩ := cellsOfSegs_flat hcs
        refine one (c := cs) (cv := vs.toList) (g := fun c => .agg (c.map .s)) (relL_of_at (by simp; omega) fun i sv u h1 h2 => ?_) (fun ro2 c' hc hl => ?_) hk
        · have := hh i sv (by rw [q]; exact h1)
          have e : vs.getD i undef = u := by
            rw [Array.getD_eq_getD_getElem?, ← Array.getElem?_toList, h2]; rfl
          rw [e] at this; exact this
        · obtain ⟨p', q'⟩ := cellsOfSegs_flat (cellsOfSegs_of c')
          rw [hv]
          refine .agg _ _ _ (by rw [p', hl]; omega) fun i sv hi => ?_
          rw [q'] at hi
          obtain ⟨u, hu, hr⟩ := hc.at i sv hi
          have e : vs.getD i undef = u := by
            rw [Array.getD_eq_getD_getElem?, ← Array.getElem?_toList, hu]; rfl
          rw [e]; exact hr
      · obtain ⟨hc, hk⟩ := hk
        obtain ⟨xs', ws', ro2, h1, h2, h3, h4⟩ := resolveL_ok hf h hr.2 hk
        exact ⟨_, [] ++ ws', ro2, h1, h2, h3, (closedSV_rel hr.1 hc).mono h2 (.refl _), h4⟩
    all_goals (simp only [resolveL, resolve1] at hk; exact single hk)
  | [], _ :: _, _, _, _, _, _, _, h, _ => h.elim
  | _ :: _, [], _, _, _, _, _, _, h, _ => h.elim
theorem snd_fn {C : Nat → Option Ctr} (hC : ∀ f c, C f = some c → FnOK P f c) (h : SimG E ro own s w a) {o : Oper} {f : Nat} {xs : List SV} {vals : Array Value} (hrun : ∀ fn, P.funcs[f]? = some fn → fn.body.isSome = true → (fn.name == "runtime.NumGoroutine") = false → (execOp a.eval o).run P w = .ok (.enter f vals) w)
    (hx : RelL ro own xs vals.toList) {ws} (hk : (txFn E.N C o.dst f xs).ok s ws) : Snd E P o s w a ws := by
  unfold txFn at hk
  split at hk
  case h_2 => exact hk.elim
  rename_i c hc
  have hok := hC f c hc
  obtain ⟨xs', ws', ro2, hk2, hle, hs, hr⟩ := resolveL_ok (s := s) ⟨fun _ _ => rfl, fun _ => .inl rfl⟩ h hx hk
  clear hk
  split at hk2
  case h_2 => exact hk2.elim
  rename_i p r hpr
  obtain ⟨fn, e1, e2, e3⟩ := hok.fn
  intro Q
  unfold Oper.wp
  rw [hrun fn e1 e2 e3]
  have fin : p → (∀ {v : Value} {R' : RO} {w' : World}, SimG E R' own (s.apply ws') w' a → Rel R' own r v → Sim E (s.apply ws) w' (a.put o.dst v)) → o.upon P a (fun a' w' => Sim E (s.apply ws) w' a') Q (.ok (.enter f vals) w) := by
    intro hp hfin
    show Calls P f vals w _
    refine (hok.calls xs' p r hpr hp ro2 w vals hs.rook hr).mono ?_
    rintro e w' ⟨v, R', rfl, hv, hR, hR2, hR3, hb⟩
    exact hfin (hs.called hb hR hR2 hR3) (hv.own (Own.empty_le _))
  split at hk2
  · rename_i d hd
    split at hk2
    case isFalse => exact hk2.elim
    rename_i hdN
    obtain ⟨hp, hk2⟩ := hk2
    have hws : ws = ws' ++ [(.tm d, .v r)] := hk2.symm
    subst hws
    refine fin hp fun hs' hv => ?_
    rw [hd, apply_append, apply_one]
    exact ⟨_, own, hs'.put hdN hv⟩
  · rename_i hd
    obtain ⟨hp, hk2⟩ := hk2
    have hws : ws = ws' := hk2.symm
    subst hws
    refine fin hp fun hs' hv => ?_
    rw [hd]
    exact ⟨_, own, hs'⟩
theorem run_callFunc {f : Nat} {args : Array Value} {fn : Func} (h1 : P.funcs[f]? = some fn) (h2 : fn.body.isSome = true) (h3 : (fn.name == "runtime.NumGoroutine") = false) : (callFunc f args).run P w = .ok (.enter f args) w := by
  have h4 : fn.body.isNone = false := by cases hb : fn.body <;> simp [hb] at h2 ⊢
  simp only [callFunc, Sem.run_bind, run_program, Result.andThen_ok, h1, h3, h4, Bool.false_eq_true, if_false, Sem.run_pure]
theorem snd_call {C : Nat → Option Ctr} (hC : ∀ f c, C f = some c → FnOK P f c) (h : SimG E ro own s w a) {o : Oper} {c : Call} {nid : Nat} (ho : o.op = .call c) {ws} (hk : (txCall P E.N nid C o.dst c).ok s ws) : Snd E P o s w a ws := by
  unfold txCall at hk
  split at hk
  · rename_i g hcal
    obtain ⟨x', hx, hk1⟩ := rdO_ok h hk
    clear hk
    split at hk1
    case h_2 => exact hk1.elim
    rename_i f ca cb
    obtain ⟨xs, hxs, hk⟩ := rdOs_ok h hk1
    clear hk1
    obtain ⟨va, vb, hv, hva, hvb⟩ := inv_fn hx
    refine snd_fn hC h (f := f) (vals := va ++ c.args.map a.eval ++ vb) (fun fn e1 e2 e3 => ?_) ?_ hk
    · unfold execOp
      simp only [ho, resolve, hcal, hv, Deferred.ofValue, Sem.run_bind, Sem.run_pure, Result.andThen_ok, invoke]
      exact run_callFunc e1 e2 e3
    · simp only [Array.toList_append, Array.toList_map]
      exact (hva.append hxs).append hvb
  · rename_i b hcal
    obtain ⟨xs, hxs, hk1⟩ := rdOs_ok h hk
    clear hk
    have hargs : ∀ {x : SV}, xs = [x] → ∃ v, c.args.map a.eval = #[v] ∧ Rel ro own x v := by
      rintro x rfl
      match hl : c.args.toList.map a.eval, hxs with
      | [v], hh => exact ⟨v, by rw [← Array.toList_inj]; simpa using hl, hh.1⟩
    have hargs2 : ∀ {x y : SV}, xs = [x, y] → ∃ v u, c.args.map a.eval = #[v, u] ∧ Rel ro own x v ∧ Rel ro own y u := by
      rintro x y rfl
      match hl : c.args.toList.map a.eval, hxs with
      | [v, u], hh => exact ⟨v, u, by rw [← Array.toList_inj]; simpa using hl, hh.1, hh.2.1⟩
    split at hk1
    · rename_i x t ht
      obtain ⟨v, hv, hr⟩ := hargs rfl
      have ht' : c.argTypes = #[t] := by rw [← Array.toList_inj]; exact ht
      obtain ⟨n, hrun, hk2⟩ := run_len (P := P) (w := w) (n := 0) hr hk1
      refine snd_val h (v := .int .i64 n) ?_ (.int _ _ _) hk2
      rw [run_call_builtin ho hcal, ht', hv]
      have : ∀ ty, (Builtin.len_ #[t] ty #[v]).run P w = (Builtin.len_ #[t] 0 #[v]).run P w := fun _ => rfl
      simp [builtin, this, hrun]
    · rename_i x y
      obtain ⟨v, u, hv, hr1, hr2⟩ := hargs2 rfl
      unfold setO at hk1
      split at hk1
      case h_2 => exact hk1.elim
      rename_i z hz
      unfold minV at hz
      split at hz
      case h_2 => cases hz
      rename_i k p k' q
      split at hz
      case isFalse => cases hz
      rename_i e; subst e
      simp at hz; subst hz
      refine snd_val h (v := .int k (if q < p then q else p)) ?_ (.int _ _ _) hk1
      rw [run_call_builtin ho hcal, hv, inv_int hr1, inv_int hr2]
      simp [builtin, Builtin.min_, Builtin.min2]
    · rename_i x y
      obtain ⟨v, u, hv, hr1, hr2⟩ := hargs2 rfl
      unfold setO at hk1
      split at hk1
      case h_2 => exact hk1.elim
      rename_i z hz
      unfold maxV at hz
      split at hz
      case h_2 => cases hz
      rename_i k p k' q
      split at hz
      case isFalse => cases hz
      rename_i e; subst e
      simp at hz; subst hz
      refine snd_val h (v := .int k (if q > p then q else p)) ?_ (.int _ _ _) hk1
      rw [run_call_builtin ho hcal, hv, inv_int hr1, inv_int hr2]
      simp [builtin, Builtin.max_, Builtin.max2]
    · rename_i x y t t' ht
      obtain ⟨v, u, hv, hr1, hr2⟩ := hargs2 rfl
      split at hk1
      · rename_i e; subst e
        have ht' : c.argTypes = #[t, t] := by rw [← Array.toList_inj]; exact ht
        exact snd_append h ho hcal ht' hv hr1 hr2 hk1
      · have ht' : c.argTypes = #[t, t'] := by rw [← Array.toList_inj]; exact ht
        exact snd_appendS h ho hcal ht' hv hr1 hr2 hk1
    · rename_i x y t t' ht
      obtain ⟨v, u, hv, hr1, hr2⟩ := hargs2 rfl
      have ht' : c.argTypes = #[t, t'] := by rw [← Array.toList_inj]; exact ht
      exact snd_copy h ho hcal ht' hv hr1 hr2 hk1
    · exact hk1.elim
  · exact hk.elim
theorem snd_makeFunc (h : SimG E ro own s w a) {o : Oper} {f : Nat} {x y : Array Operand} (ho : o.op = .makeFunc (.func f) x y) {ws} (hk : (rdOs x.toList fun x => rdOs y.toList fun y => setT E.N o.dst (.fn f x y)).ok s ws) : Snd E P o s w a ws := by
  obtain ⟨xs, hxs, hk1⟩ := rdOs_ok h hk
  clear hk
  obtain ⟨ys, hys, hk⟩ := rdOs_ok h hk1
  clear hk1
  refine snd_val h (v := .func (.func f) (x.map a.eval) (y.map a.eval)) ?_ (.fn _ _ _ _ _ _ ?_ ?_ ?_ ?_) hk
  · unfold execOp
    simp [ho, Instr.makeFunc]
  · simpa using hxs.length.symm
  · simpa using hys.length.symm
  · intro i sv hi
    obtain ⟨u, hu, hr⟩ := hxs.at i sv hi
    rw [Array.getD_eq_getD_getElem?, ← Array.getElem?_toList, Array.toList_map, hu]
    exact hr
  · intro i sv hi
    obtain ⟨u, hu, hr⟩ := hys.at i sv hi
    rw [Array.getD_eq_getD_getElem?, ← Array.getElem?_toList, Array.toList_map, hu]
    exact hr
/-- ALL OPERATIONS. -/
theorem foldl_push (ns : List Int) : ∀ (l : List UInt8), (ns.foldl (fun r n => r.push (UInt8.ofNat n.toNat)) (⟨l.toArray⟩ : ByteArray)) = ⟨(l ++ ns.map fun n => UInt8.ofNat n.toNat).toArray⟩ := by
  induction ns with
  | nil => intro l; simp
  | cons n ns ih =>
    intro l
    have e : (⟨l.toArray⟩ : ByteArray).push (UInt8.ofNat n.toNat) = ⟨(l ++ [UInt8.ofNat n.toNat]).toArray⟩ := by simp [ByteArray.push]
    rw [List.foldl_cons, e, ih]; simp
theorem snd_conv (h : SimG E ro own s w a) {o : Oper} {nid : Nat} {S D : TypeId} {x : Operand} (ho : o.op = .convert S D x) {ws} (hk : (rdO x (txConv P E.N nid o.dst S D)).ok s ws) : Snd E P o s w a ws := by
  obtain ⟨x', hx, hk1⟩ := rdO_ok h hk
  unfold txConv at hk1
  split at hk1
  · rename_i e hS hD
    split at hk1
    case h_2 => exact hk1.elim
    rename_i hE
    obtain ⟨k, g, hk2, hsrc⟩ := rdRow_ok h hx hk1
    obtain ⟨hby, hk2⟩ := hk2
    have key : ∃ A c, a.eval x = .slice A k c ∧ (Conv.bytesToString (.slice A k c)).run P w = .ok (.string ⟨(bytesOf k g).toArray⟩) w := by
      rcases hsrc with ⟨rfl, A, c, hv⟩ | ⟨b, off, c, hv, hcell⟩
      · refine ⟨A, c, hv, ?_⟩
        cases A with
        | none => simp [Conv.bytesToString, bytesOf]; rfl
        | some ad =>
          have := run_bytesToString (P := P) w ad 0 c [] (by simpa using run_loadCells_list (P := P) w ad [] (by simp))
          rw [this]; simp [bytesOf]; rfl
      · refine ⟨_, c, hv, ?_⟩
        let ns : List Int := (List.range k).map fun j => match g j with | [.int .u8 n] => n | _ => 0
        have hns : ∀ j, j < k → ∃ n, g j = [.int .u8 n] := fun j hj => by
          have := hby j hj
          unfold isByte at this
          split at this
          · exact ⟨_, by assumption⟩
          · cases this
        have hl : (loadCells ⟨b, off, none⟩ k).run P w = .ok (ns.map (Value.int .u8)).toArray w := by
          have := run_loadCells_list (P := P) w ⟨b, off, none⟩ (ns.map (Value.int .u8)) (fun j v hj => by
            have hlt := (List.getElem?_eq_some_iff.1 hj).1
            simp only [ns, List.length_map, List.length_range] at hlt
            obtain ⟨n, hn⟩ := hns j hlt
            obtain ⟨u, hu, hr⟩ := hcell j 0 hlt (by omega)
            have := hr (.int .u8 n) (by rw [hn]; rfl)
            have hu2 := inv_int this
            simp [ns, hlt, hn] at hj
            rw [add_none, ← hj, ← hu2]
            simpa using hu)
          simpa [ns] using this
        have := run_bytesToString (P := P) w ⟨b, off, none⟩ k c ns hl
        rw [this]
        have e2 := foldl_push ns []
        have e3 : (ByteArray.empty : ByteArray) = ⟨([] : List UInt8).toArray⟩ := rfl
        rw [e3, e2]
        congr 4
        simp only [List.nil_append, ns, List.map_map, bytesOf]
        refine List.map_congr_left fun j hj => ?_
        obtain ⟨n, hn⟩ := hns j (List.mem_range.1 hj)
        simp [hn, byteOf]
    obtain ⟨A, c, hv, hrun⟩ := key
    refine snd_val h (v := .string ⟨(bytesOf k g).toArray⟩) ?_ (.str _ _) hk2
    unfold execOp
    have := run_convert_bytes_string (P := P) w S D e A k c hS hE hD
    simp only [ho, hv]
    simp only [Sem.run_bind, this, hrun, Result.andThen_ok]
    rfl
  · rename_i e hS hD
    split at hk1
    case h_2 => exact hk1.elim
    rename_i s' hE
    have hv := inv_str hx
    have hrun := Lib.run_convert_string_bytes (P := P) w S D e ⟨s'.toArray⟩ hS hD hE
    have hge := grownCap_ge w s'.length 0 e
    have hsz : (⟨s'.toArray⟩ : ByteArray).size = s'.length := by simp [ByteArray.size]
    have hcs : (Lib.bytesCells w e ⟨s'.toArray⟩).size = grownCap w s'.length 0 e := by
      simp [Lib.bytesCells, hsz]; omega
    refine snd_new h (cap := grownCap w s'.length 0 e) (v := .slice (some ⟨w.heap.size, 0, none⟩) s'.length (grownCap w s'.length 0 e)) (w' := Lib.bytesWorld w e ⟨s'.toArray⟩) (cs := Lib.bytesCells w e ⟨s'.toArray⟩) (e := e) (lo := grownCap w s'.length 0 e) (hi := grownCap w s'.length 0 e + 1) ?_ rfl rfl rfl ?_ (fun _ => ⟨s'.length, _, rfl, hge, by rw [hcs]; omega⟩) (by simp) ?_ (.inr ?_) (by simp) ?_ ?_ hk1
    · apply Array.ext_getElem?
      intro j
      rw [Array.getElem?_push]
      split
      · subst j; rw [Lib.bytesWorld_at_new, hcs]
      · by_cases hj : j < w.heap.size
        · exact Lib.bytesWorld_at_old w e _ j hj
        · rw [Array.getElem?_eq_none (by rw [Lib.bytesWorld_size]; omega), Array.getElem?_eq_none (by omega)]
    · unfold execOp
      rw [hsz] at hrun
      simp only [ho, hv]
      simp only [Sem.run_bind, hrun, Result.andThen_ok]
      rfl
    · rw [hcs]; simp [segsSize, Seg.size]; omega
    · simp [segsSize, Seg.size]; omega
    · intro t sv ht
      have hlt : t < s'.length := by have := flat_lt ht; simpa [segsSize, Seg.size] using this
      rw [flat_al (by omega)] at ht
      simp only [Nat.div_one, Nat.mod_one, byteSV] at ht
      simp at ht
      subst ht
      have : (Lib.bytesCells w e ⟨s'.toArray⟩).getD t undef = .int .u8 ((s'.getD t 0).toNat : Int) := by
        simp [Lib.bytesCells, Array.getD_eq_getD_getElem?, Array.getElem?_append, hlt]
      rw [this]
      exact .int _ _ _
    · intro own' k1 k2 k3 k4
      have := Rel.sl (ro := ro) own' nid 0 0 s'.length w.heap.size k1 (by rw [k2]; omega)
      rw [k2] at this
      simpa using this
  · unfold txConvert at hk1
    split at hk1
    case h_2 => exact hk1.elim
    rename_i k' k k2 n h1 h2
    refine snd_val h (v := .int k (k.wrap n)) ?_ (.int _ _ _) hk1
    unfold execOp
    simp [ho, inv_int hx, convert, run_underlying h1, run_underlying h2, Conv.intToInt]
theorem op_sound {C : Nat → Option Ctr} (hC : ∀ f c, C f = some c → FnOK P f c) (h : SimG E ro own s w a) {o : Oper} {nid : Nat} {ws} (hk : (txOp P E.N C nid o).ok s ws) : Snd E P o s w a ws := by
  unfold txOp at hk
  split at hk
  · exact snd_move h (.inl (by assumption)) hk
  · exact snd_move h (.inr (by assumption)) hk
  · exact snd_pick h (by assumption) hk
  · exact snd_extract h (by assumption) hk
  · exact snd_box h (by assumption) hk
  · exact snd_alloc h (by assumption) hk
  · exact snd_load h (by assumption) hk
  · split at hk
    · exact snd_store h (by assumption) (by assumption) hk
    · exact hk.elim
  · exact snd_fieldAddr h (by assumption) hk
  · exact snd_indexAddr h (by assumption) hk
  · exact snd_index h (by assumption) hk
  · exact snd_field h (by assumption) hk
  · exact snd_build h (by assumption) hk
  · exact snd_buildSlice h (by assumption) hk
  · exact snd_bin h (by assumption) hk
  · exact snd_un h (by assumption) hk
  · exact snd_conv h (by assumption) hk
  · exact snd_makeSlice h (by assumption) hk
  · exact snd_slice h (by assumption) hk
  · exact snd_makeFunc h (by assumption) hk
  · exact snd_call hC h (by assumption) hk
  · exact hk.elim
end
end Go.Sx
