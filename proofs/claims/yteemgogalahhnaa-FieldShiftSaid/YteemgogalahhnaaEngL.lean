/-
  The operations' soundness, ninth part: slices, lengths, the least and the greatest, append.
-/
import Derived.Test.YteemgogalahhnaaEngK
import Derived.Maps.AppendAt
namespace Go.Sx
set_option linter.unusedVariables false
set_option linter.unusedSimpArgs false
open Go Go.RowKit

section
variable {E : Env} {P : Program} {ro : RO} {own : Own} {s : St} {w : World} {a : Act}
theorem rdO_ok' (h : SimG E ro own s w a) {o : Operand} {k : SV → Tx} {ws} (hk : (rdO o k).ok s ws) : ∃ x, Rel ro own x (a.eval o) ∧ (k x).ok s ws := rdO_ok h hk
theorem rdOpt_ok (h : SimG E ro own s w a) {o : Option Operand} {k : Option SV → Tx} {ws} (hk : (txOp.rdOpt o k).ok s ws) : ∃ x, (x = none ↔ o = none) ∧ (∀ y o', x = some y → o = some o' → Rel ro own y (a.eval o')) ∧ (k x).ok s ws := by
  cases o with
  | none => exact ⟨none, by simp, by simp, hk⟩
  | some o =>
    obtain ⟨x, hx, hk⟩ := rdO_ok h hk
    exact ⟨some x, by simp, fun y o' e1 e2 => by simp at e1 e2; subst e1; subst e2; exact hx, hk⟩
theorem run_sliceBound {x : Value} {y : Nat} {code : BoundsCode} {k : IntKind} {i : Int} (hx : x = .int k i) (h0 : 0 ≤ i) (h1 : i ≤ (y : Int)) : (Instr.sliceBound x y code).run P w = .ok i.toNat w := by
  simp [Instr.sliceBound, hx, asIntOf, h0, h1]
theorem run_sliceBounds {isS : Bool} {len cap : Nat} {lo hi : Option SV} {l h : Int} {lov hiv : Option Value} (hlo : loOf lo = some l) (hhi : hiOf len hi = some h) (hl : ∀ y, lo = some y → ∃ v, lov = some v ∧ Rel ro own y v) (hl0 : lo = none → lov = none)
    (hh : ∀ y, hi = some y → ∃ v, hiv = some v ∧ Rel ro own y v) (hh0 : hi = none → hiv = none) (h1 : 0 ≤ l) (h2 : l ≤ h) (h3 : h ≤ (len : Int)) (hcap : len ≤ cap) :
    (Instr.sliceBounds isS len cap lov hiv none).run P w = .ok (l.toNat, h.toNat, cap) w := by
  have eh : (hiv = none ∧ h = (len : Int)) ∨ ∃ k, hiv = some (.int k h) := by
    unfold hiOf at hhi
    split at hhi
    · simp at hhi; exact .inl ⟨hh0 rfl, hhi.symm⟩
    · simp at hhi; subst hhi
      obtain ⟨v, e, hr⟩ := hh _ rfl
      exact .inr ⟨_, by rw [e, inv_int hr]⟩
    · cases hhi
  have el : (lov = none ∧ l = 0) ∨ ∃ k, lov = some (.int k l) := by
    unfold loOf at hlo
    split at hlo
    · simp at hlo; exact .inl ⟨hl0 rfl, hlo.symm⟩
    · simp at hlo; subst hlo
      obtain ⟨v, e, hr⟩ := hl _ rfl
      exact .inr ⟨_, by rw [e, inv_int hr]⟩
    · cases hlo
  clear hl hl0 hh hh0 hlo hhi
  rcases eh with ⟨rfl, rfl⟩ | ⟨k, rfl⟩ <;> rcases el with ⟨rfl, rfl⟩ | ⟨k', rfl⟩
  · simp [Instr.sliceBounds]
  · have := run_sliceBound (P := P) (w := w) (x := .int k' l) (y := len) (code := .sliceB) rfl h1 h2
    simp [Instr.sliceBounds, this]
  · have := fun code => run_sliceBound (P := P) (w := w) (x := .int k h) (y := cap) (code := code) rfl (by omega) (by omega)
    simp [Instr.sliceBounds, this]
  · have e1 := fun code => run_sliceBound (P := P) (w := w) (x := .int k h) (y := cap) (code := code) rfl (by omega) (by omega)
    have e2 := run_sliceBound (P := P) (w := w) (x := .int k' l) (y := h.toNat) (code := .sliceB) rfl h1 (by omega)
    simp [Instr.sliceBounds, e1, e2]
theorem snd_slice (h : SimG E ro own s w a) {o : Oper} {T : TypeId} {x : Operand} {lo hi : Option Operand} (ho : o.op = .slice T x lo hi none) {ws}
    (hk : (rdO x fun x => txOp.rdOpt lo fun lo => txOp.rdOpt hi fun hi => txSlice P E.N o.dst T x lo hi).ok s ws) : Snd E P o s w a ws := by
  obtain ⟨x', hx, hk1⟩ := rdO_ok h hk
  clear hk
  obtain ⟨lo', hl0, hl1, hk2⟩ := rdOpt_ok h hk1
  clear hk1
  obtain ⟨hi', hh0, hh1, hk⟩ := rdOpt_ok h hk2
  clear hk2
  have bounds : ∀ {isS : Bool} {len cap : Nat} {l u : Int}, loOf lo' = some l → hiOf len hi' = some u → 0 ≤ l → l ≤ u → u ≤ (len : Int) → len ≤ cap → (Instr.sliceBounds isS len cap (lo.map a.eval) (hi.map a.eval) none).run P w = .ok (l.toNat, u.toNat, cap) w := by
    intro isS len cap l u e1 e2 h1 h2 h3 h4
    refine run_sliceBounds (ro := ro) (own := own) e1 e2 (fun y hy => ?_) (fun e => by rw [hl0.1 e]; rfl) (fun y hy => ?_) (fun e => by rw [hh0.1 e]; rfl) h1 h2 h3 h4
    · cases lo with
      | none => rw [hl0.2 rfl] at hy; cases hy
      | some o' => exact ⟨_, rfl, hl1 y o' hy rfl⟩
    · cases hi with
      | none => rw [hh0.2 rfl] at hy; cases hy
      | some o' => exact ⟨_, rfl, hh1 y o' hy rfl⟩
  have go : ∀ {v : Value} {z : SV}, (Instr.sliceAt T (a.eval x) (lo.map a.eval) (hi.map a.eval) none).run P w = .ok v w → Rel ro own z v → (setT E.N o.dst z).ok s ws → Snd E P o s w a ws := by
    intro v z hrun hr hk
    refine snd_val h (v := v) ?_ hr hk
    unfold execOp
    simp [ho, hrun]
  unfold txSlice at hk
  split at hk
  · rename_i st hT
    split at hk
    case h_2 => exact hk.elim
    rename_i l u e1 e2
    obtain ⟨⟨h1, h2, h3⟩, hk⟩ := hk
    have hv := inv_str hx
    have hb := bounds (isS := false) (cap := st.length) e1 e2 h1 h2 h3 (Nat.le_refl _)
    have hsz : (⟨st.toArray⟩ : ByteArray).size = st.length := rfl
    refine go (v := .string ⟨((st.take u.toNat).drop l.toNat).toArray⟩) ?_ (.str _ _) hk
    have hex : (⟨st.toArray⟩ : ByteArray).extract l.toNat u.toNat = ⟨((st.take u.toNat).drop l.toNat).toArray⟩ := by
      apply ByteArray.ext
      rw [ByteArray.data_extract]
      apply Array.ext'
      simp [List.drop_take]
    rw [hv]
    simp [Instr.sliceAt, run_underlying hT, Instr.slice, hsz, hb, hex]
  · rename_i e es len f hT
    split at hk
    case h_2 => exact hk.elim
    rename_i l u e1 e2
    split at hk
    case isFalse => exact hk.elim
    rename_i hes
    obtain ⟨⟨h1, h2, h3⟩, hk⟩ := hk
    rcases inv_ros hx with ⟨hl, A, cap, hv⟩ | ⟨b, k0, cap, vs, hv, hcap, hl, hm, hh⟩
    · have hu0 : u = 0 := by omega
      have hl0' : l = 0 := by omega
      subst hu0; subst hl0'
      have hb := bounds (isS := true) (len := 0) (cap := cap) e1 (by rw [← hl]; exact e2) (by omega) (by omega) (by omega) (by omega)
      rw [hv] at go
      refine go (v := .slice A 0 cap) ?_ (.ros0 _ _ _ _ _ _ (by simp)) hk
      simp only [Instr.sliceAt, Sem.run_bind, run_underlying hT, Result.andThen_ok, Instr.slice, hb, run_sizeT hes, Sem.run_pure]
      congr 2
      split
      · rfl
      · cases A <;> simp [Addr.add]
    · have hb := bounds (isS := true) (cap := cap) e1 e2 h1 h2 h3 hcap
      rw [hv] at go
      refine go (v := .slice (if cap = l.toNat then some ⟨b, k0, none⟩ else some ⟨b, k0 + l.toNat * es, none⟩) (u.toNat - l.toNat) (cap - l.toNat)) ?_ ?_ hk
      · simp only [Instr.sliceAt, Sem.run_bind, run_underlying hT, Result.andThen_ok, Instr.slice, hb, run_sizeT hes, Sem.run_pure, Option.map_some, add_none]
      · have hsub : (u - l).toNat = u.toNat - l.toNat := by omega
        rw [hsub]
        by_cases hc : cap = l.toNat
        · rw [if_pos hc]
          have : u.toNat - l.toNat = 0 := by omega
          rw [this]
          exact .ros0 _ _ _ _ _ _ rfl
        · rw [if_neg hc]
          refine .ros _ _ _ _ b (k0 + l.toNat * es) (cap - l.toNat) (fun k => vs (l.toNat * es + k)) (by omega) (fun i hi => hl _ (by omega)) (fun k hk => ?_) (fun i j sv hi hj => ?_)
          · rw [Nat.add_assoc]
            refine hm _ ?_
            have h5 : (l.toNat + (u.toNat - l.toNat)) * es ≤ len * es := Nat.mul_le_mul_right _ (by omega)
            rw [Nat.add_mul] at h5; omega
          · have := hh (l.toNat + i) j sv (by omega) hj
            rw [Nat.add_mul] at this
            rw [← Nat.add_assoc]; exact this
  · rename_i e id ver off len hT
    split at hk
    case h_2 => exact hk.elim
    rename_i l u e1 e2
    obtain ⟨m, hm, hk⟩ := rdM_ok hk
    have he := h.ent id m hm
    split at hk
    case isFalse => exact hk.elim
    rename_i hc
    obtain ⟨hrow, hes⟩ := hc
    obtain ⟨⟨h1, h2, h3⟩, hk⟩ := hk
    rcases inv_sl hx with ⟨b, hb, hcap, hv⟩ | ⟨_, hl, _, _⟩
    case inr => omega
    obtain ⟨n, f, hseg, _⟩ := he.row hrow
    have e0 : own.es id 0 = m.es := by rw [he.es 0 (.a n m.es f) (by rw [hseg]; rfl)]; rfl
    have hbb := bounds (isS := true) (cap := own.cap id ver - off) e1 e2 h1 (by omega) h3 (by omega)
    rw [hv] at go
    refine go (v := .slice (some ⟨b, off * own.es id 0 + l.toNat * m.es, none⟩) (u.toNat - l.toNat) (own.cap id ver - off - l.toNat)) ?_ ?_ hk
    · simp only [Instr.sliceAt, Sem.run_bind, run_underlying hT, Result.andThen_ok, Instr.slice, hbb, run_sizeT hes, Sem.run_pure, Option.map_some, add_none]
      rw [if_neg (by omega)]
    · have := Rel.sl (ro := ro) own id ver (off + l.toNat) (u - l).toNat b hb (by omega)
      rw [e0, Nat.add_mul] at this
      rw [e0]
      have e3 : (u - l).toNat = u.toNat - l.toNat := by omega
      have e4 : own.cap id ver - off - l.toNat = own.cap id ver - (off + l.toNat) := by omega
      rw [e3] at this ⊢
      rw [e4]
      exact this
  · exact hk.elim
theorem run_len {T : TypeId} {x : SV} {v : Value} {n : Int} (h : Rel ro own x v) {N : Nat} {dst : Option Tmp} {ws} (hk : (txLen P N dst T x).ok s ws) : ∃ n : Int, (Builtin.len_ #[T] 0 #[v]).run P w = .ok (.int .i64 n) w ∧ (setT N dst (.int .i64 n)).ok s ws := by
  unfold txLen at hk
  split at hk
  · rename_i st hT
    refine ⟨_, ?_, hk⟩
    rw [inv_str h]
    simp [Builtin.len_, run_underlying hT, goInt]
    rfl
  · rename_i n' e hT
    refine ⟨_, ?_, hk⟩
    cases v <;> simp [Builtin.len_, run_underlying hT, goInt]
  · rename_i e es len f hT
    refine ⟨_, ?_, hk⟩
    rcases inv_ros h with ⟨hl, A, cap, hv⟩ | ⟨b, k0, cap, vs, hv, _⟩
    · subst hl; rw [hv]; simp [Builtin.len_, run_underlying hT, goInt]
    · rw [hv]; simp [Builtin.len_, run_underlying hT, goInt]
  · rename_i e id ver off len hT
    refine ⟨_, ?_, hk⟩
    rcases inv_sl h with ⟨b, _, _, hv⟩ | ⟨_, hl, _, hv⟩
    · rw [hv]; simp [Builtin.len_, run_underlying hT, goInt]
    · subst hl; rw [hv]; simp [Builtin.len_, run_underlying hT, goInt]
  · rename_i e hT
    refine ⟨_, ?_, hk⟩
    rw [inv_nils h]; simp [Builtin.len_, run_underlying hT, goInt]
  · exact hk.elim
end
end Go.Sx
