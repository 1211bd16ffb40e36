/-
  The operations' soundness, fifth part: addresses of fields and elements, parts of values, integers, booleans, strings.
-/
import Derived.Test.YteemgogalahhnaaEngG
namespace Go.Sx
set_option linter.unusedVariables false
set_option linter.unusedSimpArgs false
open Go Go.RowKit

theorem run_fieldAt {P : Program} {w : World} {S : TypeId} {fi n : Nat} {f : Field} (hf : fieldOf P S fi = some f) (hn : sizeT P f.type = some (n + 1)) (b off : Nat) :
    (Instr.fieldAt S (.pointer (some ⟨b, off, none⟩)) fi).run P w = .ok (.pointer (some ⟨b, off + f.offset, none⟩)) w := by
  unfold fieldOf at hf
  split at hf
  case h_2 => cases hf
  rename_i fs hu
  simp [Instr.fieldAt, run_underlying hu, hf, Instr.sureAddr, run_fieldPlace hn]
theorem run_indexAt_array {P : Program} {w : World} {T e : TypeId} {len es : Nat} {k : IntKind} {i : Int} (hT : P.underlying T = some (.array len e)) (he : sizeT P e = some es) (hi : 0 ≤ i ∧ i < (len : Int)) (b off : Nat) :
    (Instr.indexAt T (.pointer (some ⟨b, off, none⟩)) (.int k i)).run P w = .ok (.pointer (some ⟨b, off + i.toNat * es, none⟩)) w := by
  simp [Instr.indexAt, asIntOf, run_underlying hT, Instr.sureAddr, hi, run_sizeT he, add_none]
theorem run_indexAt_slice {P : Program} {w : World} {T e : TypeId} {len cap es : Nat} {k : IntKind} {i : Int} (hT : P.underlying T = some (.slice e)) (he : sizeT P e = some es) (hi : 0 ≤ i ∧ i < (len : Int)) (b off : Nat) :
    (Instr.indexAt T (.slice (some ⟨b, off, none⟩) len cap) (.int k i)).run P w = .ok (.pointer (some ⟨b, off + i.toNat * es, none⟩)) w := by
  simp [Instr.indexAt, asIntOf, run_underlying hT, hi, run_sizeT he, add_none]
theorem run_part_agg {P : Program} {w : World} {T : TypeId} {n : Nat} (hT : isAggT P T = some true) (hn : sizeT P T = some n) (cs : Array Value) (off : Nat) : (part T cs off).run P w = .ok (.agg (cs.extract off (off + n))) w := by
  simp [part, run_isAggT hT, run_sizeT hn]
theorem run_part_one {P : Program} {w : World} {T : TypeId} (hT : isAggT P T = some false) (cs : Array Value) (off : Nat) (h : off < cs.size) : (part T cs off).run P w = .ok (cs.getD off undef) w := by
  simp [part, run_isAggT hT, h]

section
variable {E : Env} {P : Program} {ro : RO} {own : Own} {s : St} {w : World} {a : Act}
theorem snd_fieldAddr (h : SimG E ro own s w a) {o : Oper} {S : TypeId} {fi : Nat} {x : Operand} (ho : o.op = .fieldAddr S x fi) {ws} (hk : (rdO x (txFieldAddr P E.N o.dst S fi)).ok s ws) : Snd E P o s w a ws := by
  obtain ⟨x', hx, hk1⟩ := rdO_ok h hk
  clear hk
  unfold txFieldAddr at hk1
  split at hk1
  case h_2 => exact hk1.elim
  rename_i f hf
  split at hk1
  case h_2 => exact hk1.elim
  rename_i n hn
  have go : ∀ {b off : Nat} {y : SV}, a.eval x = .pointer (some ⟨b, off, none⟩) → Rel ro own y (.pointer (some ⟨b, off + f.offset, none⟩)) → (setT E.N o.dst y).ok s ws → Snd E P o s w a ws := by
    intro b off y hv hr hk
    refine snd_val h (v := .pointer (some ⟨b, off + f.offset, none⟩)) ?_ hr hk
    unfold execOp
    simp [ho, hv, run_fieldAt hf hn]
  split at hk1
  · rename_i id q
    obtain ⟨b, hb, hv⟩ := inv_ptr hx
    obtain ⟨m, hm, hk⟩ := rdM_ok hk1
    have he := h.ent id m hm
    split at hk
    · exact hk.elim
    rename_i hrow
    obtain ⟨hver, hsh⟩ := he.plain (by simpa using hrow)
    split at hk
    case h_2 => exact hk.elim
    rename_i q' hq'
    split at hk
    case isFalse => exact hk.elim
    rename_i hlt
    rw [hsh, ← List.map_drop] at hq'
    obtain ⟨d, e1, e2, e3⟩ := stepSh_spec hq'
    have e4 : own.st id q' = own.st id q + f.offset := by
      rw [he.st q' hlt, he.st q (by omega), e1, List.take_add, segsSize_append, e3]
    refine go hv ?_ hk
    rw [← e4]
    exact .ptr _ _ _ _ hb
  · rename_i id ver q i j
    obtain ⟨b, hb, hv⟩ := inv_pel hx
    refine go hv ?_ hk1
    rw [Nat.add_assoc]
    exact .pel _ _ _ _ _ _ _ hb
  · rename_i es len g i j
    obtain ⟨b, k0, vs, hv, hi, hl, hm, hh⟩ := inv_rop hx
    refine go hv ?_ hk1
    rw [Nat.add_assoc]
    exact .rop _ _ _ _ _ _ _ _ vs hl hm hh hi
  · exact hk1.elim
theorem snd_indexAddr (h : SimG E ro own s w a) {o : Oper} {T : TypeId} {x y : Operand} (ho : o.op = .indexAddr T x y) {ws} (hk : (rdO x fun x => rdO y fun y => txIndexAddr P E.N o.dst T x y).ok s ws) : Snd E P o s w a ws := by
  obtain ⟨x', hx, hk1⟩ := rdO_ok h hk
  clear hk
  obtain ⟨y', hy, hk⟩ := rdO_ok h hk1
  clear hk1
  unfold txIndexAddr at hk
  split at hk
  case h_2 => exact hk.elim
  rename_i kd i
  have hyv := inv_int hy
  have go : ∀ {b off : Nat} {z : SV} , (Instr.indexAt T (a.eval x) (.int kd i)).run P w = .ok (.pointer (some ⟨b, off, none⟩)) w → Rel ro own z (.pointer (some ⟨b, off, none⟩)) → (setT E.N o.dst z).ok s ws → Snd E P o s w a ws := by
    intro b off z hrun hr hk
    refine snd_val h (v := .pointer (some ⟨b, off, none⟩)) ?_ hr hk
    unfold execOp
    simp [ho, hyv, hrun]
  split at hk
  · rename_i len e hT
    split at hk
    case h_2 => exact hk.elim
    rename_i id q es hes
    obtain ⟨b, hb, hv⟩ := inv_ptr hx
    obtain ⟨m, hm, hk⟩ := rdM_ok hk
    have he := h.ent id m hm
    split at hk
    · exact hk.elim
    rename_i hrow
    obtain ⟨hver, hsh⟩ := he.plain (by simpa using hrow)
    split at hk
    case isFalse => exact hk.elim
    rename_i hq
    obtain ⟨hi, hk⟩ := hk
    rw [hsh, List.getElem?_map] at hq
    have e1 : own.es id q = es := by
      simp only [Option.map_eq_some_iff] at hq
      obtain ⟨g, hg, hg2⟩ := hq
      rw [he.es q g hg]
      cases g <;> simp [Seg.shape] at hg2
      simp [Seg.es, hg2.2]
    rw [hv] at go
    refine go (run_indexAt_array hT hes hi _ _) ?_ hk
    have := Rel.pel (ro := ro) own id 0 q i.toNat 0 b hb
    rwa [e1, Nat.add_zero] at this
  · rename_i e hT
    split at hk
    · rename_i id ver off len es hes
      obtain ⟨m, hm, hk⟩ := rdM_ok hk
      have he := h.ent id m hm
      split at hk
      case isFalse => exact hk.elim
      rename_i hc
      obtain ⟨hrow, hmes⟩ := hc
      obtain ⟨hi, hk⟩ := hk
      rcases inv_sl hx with ⟨b, hb, hcap, hv⟩ | ⟨_, hl, _, _⟩
      · obtain ⟨n, f, hseg, _⟩ := he.row hrow
        have e1 : own.es id 0 = es := by rw [he.es 0 (.a n m.es f) (by rw [hseg]; rfl)]; exact hmes
        have e0 : own.st id 0 = 0 := by
          have h1 : 0 < m.ns := by
            have := St.segs_length s id m.ns
            rw [hseg] at this; simp at this; omega
          rw [he.st 0 h1]; rfl
        rw [hv] at go
        refine go (run_indexAt_slice hT hes hi _ _) ?_ hk
        have := Rel.pel (ro := ro) own id ver 0 (off + i.toNat) 0 b hb
        rw [e0, e1, Nat.add_zero, Nat.zero_add, Nat.add_mul] at this
        rwa [e1]
      · omega
    · rename_i es' len f es hes
      split at hk
      case isFalse => exact hk.elim
      rename_i he
      subst he
      obtain ⟨hi, hk⟩ := hk
      rcases inv_ros hx with ⟨hl, _⟩ | ⟨b, k0, cap, vs, hv, hcap, hl, hm, hh⟩
      · omega
      · rw [hv] at go
        refine go (run_indexAt_slice hT hes hi _ _) ?_ hk
        have := Rel.rop (ro := ro) own es' len f i.toNat 0 b k0 vs hl hm hh (by omega)
        rwa [Nat.add_zero] at this
    · exact hk.elim
  · exact hk.elim
theorem elem_extract {es n j : Nat} {agg : Bool} {T : TypeId} (hT : isAggT P T = some agg) (hn : sizeT P T = some n) {cs : Array Value} {off : Nat} {l : List SV} {x : SV} (hx : elemVal agg n l j = some x)
    (hsz : off + l.length ≤ cs.size) (hc : ∀ (k : Nat) (sv : SV), l[k]? = some sv → Rel ro own sv (cs.getD (off + k) undef)) : ∃ v, (part T cs (off + j)).run P w = .ok v w ∧ Rel ro own x v := by
  unfold elemVal at hx
  cases agg with
  | true =>
    simp only [if_true] at hx
    split at hx
    case isFalse => cases hx
    rename_i hle
    simp only [Option.some.injEq] at hx
    subst hx
    refine ⟨_, run_part_agg hT hn cs _, .agg _ _ _ ?_ fun k sv hk => ?_⟩
    · rw [segsSize_map_s]; simp; omega
    · rw [flat_map_s] at hk
      have hkn : k < n := by
        have := (List.getElem?_eq_some_iff.1 hk).1
        simp at this; omega
      rw [List.getElem?_take, if_pos hkn, List.getElem?_drop] at hk
      have hlt := (List.getElem?_eq_some_iff.1 hk).1
      have := hc (j + k) sv hk
      have e : (cs.extract (off + j) (off + j + n)).getD k undef = cs.getD (off + (j + k)) undef := by
        rw [Array.getD_eq_getD_getElem?, Array.getElem?_extract, if_pos (by omega), Array.getD_eq_getD_getElem?]
        congr 2; omega
      rw [e]; exact this
  | false =>
    simp only [Bool.false_eq_true, if_false] at hx
    split at hx
    case isFalse => cases hx
    have hlt := (List.getElem?_eq_some_iff.1 hx).1
    exact ⟨_, run_part_one hT cs _ (by omega), hc j x hx⟩
theorem snd_index (h : SimG E ro own s w a) {o : Oper} {T : TypeId} {x y : Operand} (ho : o.op = .index T x y) {ws} (hk : (rdO x fun x => rdO y fun y => txIndex P E.N o.dst T x y).ok s ws) : Snd E P o s w a ws := by
  obtain ⟨x', hx, hk1⟩ := rdO_ok h hk
  clear hk
  obtain ⟨y', hy, hk⟩ := rdO_ok h hk1
  clear hk1
  unfold txIndex at hk
  split at hk
  case h_2 => exact hk.elim
  rename_i kd i
  have hyv := inv_int hy
  split at hk
  · rename_i len e hT
    split at hk
    case h_2 => exact hk.elim
    rename_i n es f es' agg hes hagg
    split at hk
    case isFalse => exact hk.elim
    rename_i hc
    obtain ⟨rfl, rfl⟩ := hc
    obtain ⟨hi, hk⟩ := hk
    split at hk
    case isFalse => exact hk.elim
    rename_i hlen
    split at hk
    case h_2 => exact hk.elim
    rename_i z hz
    obtain ⟨cs, hv, hs, hh⟩ := inv_agg hx
    have hin : i.toNat * es + es ≤ n * es := by
      have : (i.toNat + 1) * es ≤ n * es := Nat.mul_le_mul_right _ (by omega)
      rw [Nat.add_mul] at this; omega
    have hsz : cs.size = n * es := by rw [hs]; simp [segsSize, Seg.size]
    obtain ⟨v, hrun, hr⟩ := elem_extract (ro := ro) (own := own) (w := w) (es := es) hagg hes (cs := cs) (off := i.toNat * es) hz (by omega) (fun k sv hks => by
      have hk' : k < es := by rw [← hlen]; exact (List.getElem?_eq_some_iff.1 hks).1
      refine hh _ sv ?_
      rw [flat_al (by omega)]
      have := seg_a_at (f := f) (n := n) (i := i.toNat) (by omega) hk'
      simp only [Seg.at, show i.toNat * es + k < n * es by omega, if_true] at this
      rw [this]; exact hks)
    refine snd_val h (v := v) ?_ hr hk
    unfold execOp
    simp [ho, hyv, hv, Instr.index, asIntOf, run_underlying hT, hi, run_sizeT hes]
    rw [Nat.add_zero] at hrun
    simp [hrun]
  · rename_i hT
    split at hk
    case h_2 => exact hk.elim
    rename_i st
    obtain ⟨hi, hk⟩ := hk
    have hv := inv_str hx
    refine snd_val h (v := .int .u8 ((st.getD i.toNat 0).toNat : Int)) ?_ (.int _ _ _) hk
    unfold execOp
    have hlt : i.toNat < st.length := by omega
    have hget : (⟨st.toArray⟩ : ByteArray)[i.toNat]? = some (st.getD i.toNat 0) := by
      have : (⟨st.toArray⟩ : ByteArray).size = st.length := rfl
      rw [getElem?_pos _ _ (by rw [this]; exact hlt)]
      simp [List.getD_eq_getElem?_getD, hlt]
      rfl
    simp only [ho, hyv, hv, Instr.index, asIntOf, Sem.run_bind, Sem.run_pure, Result.andThen_ok, run_underlying hT, hi.1, if_true, hget]
  · exact hk.elim
theorem snd_field (h : SimG E ro own s w a) {o : Oper} {S : TypeId} {fi : Nat} {x : Operand} (ho : o.op = .field S x fi) {ws} (hk : (rdO x (txField P E.N o.dst S fi)).ok s ws) : Snd E P o s w a ws := by
  obtain ⟨x', hx, hk1⟩ := rdO_ok h hk
  clear hk
  unfold txField at hk1
  split at hk1
  case h_2 => exact hk1.elim
  rename_i f l hf
  obtain ⟨cs, hv, hs, hh⟩ := inv_agg hx
  have go : ∀ {v : Value} {y : SV}, (part f.type cs f.offset).run P w = .ok v w → Rel ro own y v → (setT E.N o.dst y).ok s ws → Snd E P o s w a ws := by
    intro v y hrun hr hk
    refine snd_val h (v := v) ?_ hr hk
    unfold fieldOf at hf
    split at hf
    case h_2 => cases hf
    rename_i fs hu
    unfold execOp
    simp [ho, hv, Instr.field, run_underlying hu, hf, asAgg, hrun]
  split at hk1
  · rename_i n r hagg hn hr
    split at hk1
    case h_2 => exact hk1.elim
    rename_i l' hl'
    obtain ⟨d1, d2⟩ := dropSegs_spec hr
    obtain ⟨t1, t2, t3⟩ := takeSegs_spec hl'
    refine go (run_part_agg hagg hn cs _) (.agg _ l' _ ?_ fun k sv hk => ?_) hk1
    · simp; omega
    · have hkn : k < n := by rw [← t1]; exact flat_lt hk
      rw [t3 k hkn, d2] at hk
      have e : (cs.extract f.offset (f.offset + n)).getD k undef = cs.getD (f.offset + k) undef := by
        rw [Array.getD_eq_getD_getElem?, Array.getElem?_extract, if_pos (by omega), Array.getD_eq_getD_getElem?]
      rw [e]; exact hh _ sv hk
  · rename_i n v r hagg hn hr
    obtain ⟨d1, d2⟩ := dropSegs_spec hr
    have h0 := d2 0
    rw [flat_s0, Nat.add_zero] at h0
    exact go (run_part_one hagg cs _ (by rw [hs]; exact flat_lt h0.symm)) (hh _ v h0.symm) hk1
  · exact hk1.elim

/-! ### Numbers -/
theorem snd_un (h : SimG E ro own s w a) {o : Oper} {op : UnOp} {T : TypeId} {x : Operand} (ho : o.op = .unOp op T x) {ws} (hk : (rdO x (txUn E.N o.dst op)).ok s ws) : Snd E P o s w a ws := by
  obtain ⟨x', hx, hk1⟩ := rdO_ok h hk
  clear hk
  unfold txUn at hk1
  split at hk1
  · exact snd_val h (by unfold execOp; simp [ho, inv_bool hx, Op.unary]) (.bool _ _) hk1
  · exact snd_val h (by unfold execOp; simp [ho, inv_tt hx, Op.unary]) (.ff _) hk1
  · exact snd_val h (by unfold execOp; simp [ho, inv_ff hx, Op.unary]) (.tt _) hk1
  · exact snd_val h (by unfold execOp; simp [ho, inv_int hx, Op.unary, Op.intArith]) (.int _ _ _) hk1
  · exact snd_val h (by unfold execOp; simp only [ho, inv_int hx, Op.unary, intBits_xor]; rfl) (.int _ _ _) hk1
  · exact hk1.elim
theorem snd_convert (h : SimG E ro own s w a) {o : Oper} {S D : TypeId} {x : Operand} (ho : o.op = .convert S D x) {ws} (hk : (rdO x (txConvert P E.N o.dst S D)).ok s ws) : Snd E P o s w a ws := by
  obtain ⟨x', hx, hk1⟩ := rdO_ok h hk
  clear hk
  unfold txConvert at hk1
  split at hk1
  case h_2 => exact hk1.elim
  rename_i k' k k2 n h1 h2
  refine snd_val h (v := .int k (k.wrap n)) ?_ (.int _ _ _) hk1
  unfold execOp
  simp [ho, inv_int hx, convert, run_underlying h1, run_underlying h2, Conv.intToInt]
end
end Go.Sx
