/-
  The operations' soundness, second part: one theorem an operation that copies, picks, makes a block, loads or stores.
-/
import Derived.Test.YteemgogalahhnaaEngD
namespace Go.Sx
set_option linter.unusedVariables false
set_option linter.unusedSimpArgs false
open Go Go.RowKit

theorem run_info {P : Program} {t : TypeId} {i : TypeInfo} (h : P.info? t = some i) (w : World) : (typeInfo t).run P w = .ok i w := by
  simp [typeInfo, h]
theorem run_sizeT {P : Program} {t : TypeId} {n : Nat} (h : sizeT P t = some n) (w : World) : (sizeOf t).run P w = .ok n w := by
  simp only [sizeT, Option.map_eq_some_iff] at h
  obtain ⟨i, hi, rfl⟩ := h
  simp [sizeOf, run_info hi]
theorem run_isAggT {P : Program} {t : TypeId} {b : Bool} (h : isAggT P t = some b) (w : World) : (isAgg t).run P w = .ok b w := by
  unfold isAggT at h
  unfold isAgg
  split at h
  · rename_i hu; simp at h; subst h; simp [run_underlying hu]
  · rename_i hu; simp at h; subst h; simp [run_underlying hu]
  · rename_i d h1 h2 hu
    simp at h; subst h
    simp only [Sem.run_bind, run_underlying hu, Result.andThen_ok]
    cases d <;> first | rfl | exact (h1 _ rfl).elim | exact (h2 _ _ rfl).elim
  · cases h
theorem add_none (b o i : Nat) : (⟨b, o, none⟩ : Addr).add i = ⟨b, o + i, none⟩ := by
  unfold Addr.add; split
  · rename_i hz; simp [hz]
  · rfl
theorem getD_ofFn (n : Nat) (f : Nat → Value) (j : Nat) (h : j < n) : (Array.ofFn fun i : Fin n => f i).getD j undef = f j := by
  simp [Array.getD, h]

theorem flat_s0 (v : SV) (r : List Seg) : flat (.s v :: r) 0 = some v := rfl
theorem flat_ss (v : SV) (r : List Seg) (k : Nat) : flat (.s v :: r) (k + 1) = flat r k := by
  show (if k + 1 < 1 then _ else flat r (k + 1 - 1)) = _
  rw [if_neg (by omega)]; rfl
theorem flat_al {n es : Nat} {f : Nat → List SV} {r : List Seg} {k : Nat} (h : k < n * es) : flat (.a n es f :: r) k = (f (k / es))[k % es]? := by
  have : flat (.a n es f :: r) k = (Seg.a n es f).at k := if_pos h
  rw [this]; exact if_pos h
theorem flat_ag {n es : Nat} {f : Nat → List SV} {r : List Seg} {k : Nat} (h : ¬ k < n * es) : flat (.a n es f :: r) k = flat r (k - n * es) := if_neg h
section
variable {ro : RO} {own : Own} {v : Value}
theorem inv_tt (h : Rel ro own .tt v) : v = .bool true := by cases h; rfl
theorem inv_ff (h : Rel ro own .ff v) : v = .bool false := by cases h; rfl
theorem inv_bool {b : Bool} (h : Rel ro own (.bool b) v) : v = .bool b := by cases h; rfl
theorem inv_int {k : IntKind} {n : Int} (h : Rel ro own (.int k n) v) : v = .int k n := by cases h; rfl
theorem inv_str {x : List UInt8} (h : Rel ro own (.str x) v) : v = .string ⟨x.toArray⟩ := by cases h; rfl
theorem inv_nils (h : Rel ro own .nils v) : v = .slice none 0 0 := by cases h; rfl
theorem inv_agg {l : List Seg} (h : Rel ro own (.agg l) v) : ∃ cs : Array Value, v = .agg cs ∧ cs.size = segsSize l ∧ ∀ (k : Nat) (sv : SV), flat l k = some sv → Rel ro own sv (cs.getD k undef) := by
  cases h; exact ⟨_, rfl, by assumption, by assumption⟩
theorem inv_tup {l : List SV} (h : Rel ro own (.tup l) v) : ∃ vs : Array Value, v = .tuple vs ∧ vs.size = l.length ∧ ∀ (i : Nat) (sv : SV), l[i]? = some sv → Rel ro own sv (vs.getD i undef) := by
  cases h; exact ⟨_, rfl, by assumption, by assumption⟩
theorem inv_ptr {id q : Nat} (h : Rel ro own (.ptr id q) v) : ∃ b, own.env id 0 = some (some b) ∧ v = .pointer (some ⟨b, own.st id q, none⟩) := by
  cases h; exact ⟨_, by assumption, rfl⟩
theorem inv_pel {id ver q i j : Nat} (h : Rel ro own (.pel id ver q i j) v) : ∃ b, own.env id ver = some (some b) ∧ v = .pointer (some ⟨b, own.st id q + i * own.es id q + j, none⟩) := by
  cases h; exact ⟨_, by assumption, rfl⟩
theorem inv_sl {id ver off len : Nat} (h : Rel ro own (.sl id ver off len) v) : (∃ b, own.env id ver = some (some b) ∧ off + len ≤ own.cap id ver ∧ v = .slice (some ⟨b, off * own.es id 0, none⟩) len (own.cap id ver - off)) ∨
    (own.env id ver = some none ∧ len = 0 ∧ off = 0 ∧ v = .slice none 0 0) := by
  cases h
  · exact .inl ⟨_, by assumption, by assumption, rfl⟩
  · exact .inr ⟨by assumption, by assumption, by assumption, rfl⟩
theorem inv_ros {es len : Nat} {f : Nat → List SV} (h : Rel ro own (.ros es len f) v) : (len = 0 ∧ ∃ a cap, v = .slice a 0 cap) ∨
    ∃ (b k0 cap : Nat) (vs : Nat → Value), v = .slice (some ⟨b, k0, none⟩) len cap ∧ len ≤ cap ∧ (∀ i, i < len → (f i).length = es) ∧ (∀ k, k < len * es → ro b (k0 + k) = some (vs k)) ∧ (∀ (i j : Nat) (sv : SV), i < len → (f i)[j]? = some sv → Rel ro Own.empty sv (vs (i * es + j))) := by
  cases h
  · exact .inl ⟨by assumption, _, _, rfl⟩
  · exact .inr ⟨_, _, _, _, rfl, by assumption, by assumption, by assumption, by assumption⟩
theorem inv_rop {es len i j : Nat} {f : Nat → List SV} (h : Rel ro own (.rop es len f i j) v) :
    ∃ (b k0 : Nat) (vs : Nat → Value), v = .pointer (some ⟨b, k0 + i * es + j, none⟩) ∧ i < len ∧ (∀ i, i < len → (f i).length = es) ∧ (∀ k, k < len * es → ro b (k0 + k) = some (vs k)) ∧ (∀ (i j : Nat) (sv : SV), i < len → (f i)[j]? = some sv → Rel ro Own.empty sv (vs (i * es + j))) := by
  cases h; exact ⟨_, _, _, rfl, by assumption, by assumption, by assumption, by assumption⟩
theorem inv_fn {f : Nat} {a b : List SV} (h : Rel ro own (.fn f a b) v) : ∃ va vb : Array Value, v = .func (.func f) va vb ∧ RelL ro own a va.toList ∧ RelL ro own b vb.toList := by
  cases h with
  | fn =>
    rename_i va vb ha h1 hb h2
    refine ⟨va, vb, rfl, RelL.of_at (by simpa using ha) (fun i x hx => ?_), RelL.of_at (by simpa using hb) (fun i x hx => ?_)⟩
    · simpa [Array.getD_eq_getD_getElem?, List.getD_eq_getElem?_getD] using h1 i x hx
    · simpa [Array.getD_eq_getD_getElem?, List.getD_eq_getElem?_getD] using h2 i x hx
end
section
variable {E : Env} {P : Program} {ro : RO} {own : Own} {s : St} {w : World} {a : Act}
theorem rel_ite {c : Bool} {x y : SV} {v : Value} (hx : c = true → Rel ro own x v) (hy : c = false → Rel ro own y v) : Rel ro own (mergeIf c x y) v := by
  cases c with
  | true =>
    have h := hx rfl
    cases x <;> cases y <;> simp only [mergeIf, if_true] <;> first
      | exact .any _ _
      | exact h
      | (split <;> first | exact .any _ _ | exact h | (cases h; constructor))
      | (cases h; exact .ros0 _ _ _ _ _ _ rfl)
      | (cases h; constructor)
  | false =>
    have h := hy rfl
    cases x <;> cases y <;> simp only [mergeIf, Bool.false_eq_true, if_false, Bool.not_false] <;> first
      | exact .any _ _
      | exact h
      | (split <;> first | exact .any _ _ | (rename_i hk; subst hk; first | exact h | (cases h; constructor)))
      | (cases h; exact .ros0 _ _ _ _ _ _ rfl)
      | (cases h; constructor)
theorem mergeL_at {c : Bool} : ∀ {xs ys : List SV} {j : Nat} {z : SV}, (mergeL c xs ys)[j]? = some z → ∃ x y, xs[j]? = some x ∧ ys[j]? = some y ∧ z = mergeIf c x y
  | x :: r, y :: r', 0, z, h => by simp [mergeL] at h; exact ⟨x, y, rfl, rfl, h.symm⟩
  | x :: r, y :: r', j + 1, z, h => by simp [mergeL] at h; simpa using mergeL_at h
  | [], _, _, _, h => by simp [mergeL] at h
  | _ :: _, [], _, _, h => by simp [mergeL] at h
theorem mergeL_length {c : Bool} : ∀ {xs ys : List SV}, xs.length = ys.length → (mergeL c xs ys).length = xs.length
  | x :: r, y :: r', h => by simp [mergeL, mergeL_length (xs := r) (ys := r') (by simpa using h)]
  | [], _, h => by simp [mergeL]
  | _ :: _, [], h => by simp at h

/-! ### Copies -/
theorem snd_move (h : SimG E ro own s w a) {o : Oper} {x : Operand} (ho : o.op = .move x ∨ o.op = .assign x) {ws} (hk : (rdO x (setT E.N o.dst)).ok s ws) : Snd E P o s w a ws := by
  obtain ⟨sv, hr, hk⟩ := rdO_ok h hk
  refine snd_val h (v := a.eval x) ?_ hr hk
  unfold execOp
  rcases ho with ho | ho <;> simp only [ho] <;> rfl
theorem rel_toB {x : SV} {v : Value} {b : Bool} (h : Rel ro own x v) (hb : toB x = some b) : v = .bool b := by
  cases h <;> simp [toB] at hb <;> simp [hb]
theorem snd_pick (h : SimG E ro own s w a) {o : Oper} {c x y : Operand} (ho : o.op = .pick c x y) {ws} (hk : (rdO c fun c => rdO x fun x => rdO y fun y => setO E.N o.dst (pickV c x y)).ok s ws) : Snd E P o s w a ws := by
  obtain ⟨c', hc, hk⟩ := rdO_ok h hk
  obtain ⟨x', hx, hk⟩ := rdO_ok h hk
  obtain ⟨y', hy, hk⟩ := rdO_ok h hk
  unfold setO at hk
  split at hk
  case h_2 => exact hk.elim
  rename_i z hz
  have key : ∃ b, a.eval c = .bool b ∧ Rel ro own z (if b then a.eval x else a.eval y) := by
    unfold pickV at hz
    split at hz
    · simp at hz; subst hz; exact ⟨true, inv_tt hc, by simpa using hx⟩
    · simp at hz; subst hz; exact ⟨false, inv_ff hc, by simpa using hy⟩
    · rename_i hc0 b hk0
      simp at hz; subst hz
      refine ⟨_, inv_bool hc, rel_ite (fun e => ?_) (fun e => ?_)⟩
      · rw [if_pos e]; exact hx
      · rw [if_neg (by simp [e])]; exact hy
    · cases hz
  obtain ⟨b, hb, hz'⟩ := key
  refine snd_val h (v := if b then a.eval x else a.eval y) ?_ hz' hk
  unfold execOp
  simp [ho, hb, asBool]
theorem snd_extract (h : SimG E ro own s w a) {o : Oper} {x : Operand} {i : Nat} (ho : o.op = .extract x i) {ws} (hk : (rdO x (txExtract E.N o.dst i)).ok s ws) : Snd E P o s w a ws := by
  obtain ⟨x', hx, hk⟩ := rdO_ok h hk
  unfold txExtract at hk
  split at hk
  case h_2 => exact hk.elim
  rename_i l
  split at hk
  case h_2 => exact hk.elim
  rename_i z hz
  obtain ⟨vs, hv, hs, hh⟩ := inv_tup hx
  have hi : i < vs.size := by rw [hs]; exact (List.getElem?_eq_some_iff.1 hz).1
  refine snd_val h (v := vs.getD i undef) ?_ (hh i z hz) hk
  unfold execOp
  simp [ho, hv, Instr.extract, hi]

/-! ### New blocks -/
theorem txNew_ok {N nid : Nat} {dst : Option Tmp} {row : Bool} {app : Option TypeId} {es : Nat} {l : List Seg} {x : SV} {ws} (hk : (txNew N nid dst row app es l x).ok s ws) : ∃ d, dst = some d ∧ d < N ∧ s (.mt nid) = .m none ∧ ws = newEnt nid row app es l ++ [(.tm d, .v x)] := by
  unfold txNew at hk
  split at hk
  case h_2 => exact hk.elim
  rename_i d
  split at hk
  case isFalse => exact hk.elim
  obtain ⟨hf, hk⟩ := rdFree_ok hk
  exact ⟨d, rfl, by assumption, hf, hk.symm⟩
theorem snd_new (h : SimG E ro own s w a) {o : Oper} {nid : Nat} {row : Bool} {app : Option TypeId} {es cap : Nat} {l : List Seg} {x : SV} {v : Value} {cs : Array Value} {e : TypeId} {w' : World} {lo hi : Nat}
    (hw : w'.heap = w.heap.push (.cells cs e (lo, hi))) (h1 : w'.os = w.os) (h2 : w'.tape = w.tape) (h3 : w'.output = w.output)
    (hrun : (execOp a.eval o).run P w = .ok (.value v) w')
    (hrow : row = true → ∃ n f, l = [.a n es f] ∧ n ≤ cap ∧ cs.size = cap * es) (hpl : row = false → cs.size = segsSize l) (hsz : segsSize l ≤ cs.size) (hfz : hi ≤ lo ∨ segsSize l ≤ lo) (happ : ∀ t, app = some t → lo = 0 ∧ hi = 0 ∧ e = t ∧ cap ≤ maxLen)
    (hrel : ∀ k sv, flat l k = some sv → Rel ro own sv (cs.getD k undef))
    (hv : ∀ own' : Own, own'.env nid 0 = some (some w.heap.size) → own'.cap nid 0 = cap → own'.st nid 0 = 0 → (own'.es nid 0 = match l[0]? with | some x => x.es | none => 0) → Rel ro own' x v)
    {ws} (hk : (txNew E.N nid o.dst row app es l x).ok s ws) : Snd E P o s w a ws := by
  obtain ⟨d, hd, hlt, hf, rfl⟩ := txNew_ok hk
  obtain ⟨own', hle, e1, e2, e3, e4, hs⟩ := h.push hf (row := row) (es := es) (cap := cap) hw h1 h2 h3 app hrow hpl hsz hfz happ hrel
  intro Q
  unfold Oper.wp
  rw [hrun]
  show Sim E _ w' (a.put o.dst v)
  rw [hd, apply_append, apply_one]
  exact ⟨ro, own', hs.put hlt (hv own' e1 e2 e3 e4)⟩
theorem snd_box (h : SimG E ro own s w a) {o : Oper} {nid : Nat} {T : TypeId} {x : Operand} (ho : o.op = .box T x) {ws} (hk : (rdO x (txBox E.N nid o.dst)).ok s ws) : Snd E P o s w a ws := by
  obtain ⟨x', hx, hk⟩ := rdO_ok h hk
  unfold txBox at hk
  split at hk
  case h_2 => exact hk.elim
  rename_i l hl
  have key : (a.eval x).cells.size = segsSize l ∧ ∀ k sv, flat l k = some sv → Rel ro own sv ((a.eval x).cells.getD k undef) := by
    unfold segsOfSV at hl
    split at hl
    · rename_i l0
      simp at hl; subst hl
      obtain ⟨cs, hv, hs, hh⟩ := inv_agg hx
      rw [hv]
      exact ⟨hs, hh⟩
    · rename_i x0 hne
      split at hl
      · rename_i h1
        simp at hl; subst hl
        rw [cells_one (oneCell_rel hx h1)]
        refine ⟨rfl, fun k sv hk => ?_⟩
        cases k with
        | zero => rw [flat_s0] at hk; simp at hk; subst hk; simpa using hx
        | succ k => rw [flat_ss] at hk; cases hk
      · cases hl
  refine snd_new h (cap := 0) (v := .pointer (some ⟨w.heap.size, 0, none⟩)) (w' := w.alloc (.cells (a.eval x).cells T)) (lo := 0) (hi := 0) rfl rfl rfl rfl ?_ (by simp) (fun _ => key.1) (by rw [key.1]; exact Nat.le_refl _) (.inl (Nat.le_refl _)) (by simp) key.2 ?_ hk
  · unfold execOp
    simp [ho, Instr.box, newVar, newRow]
  · intro own' e1 _ e3 _
    have := Rel.ptr (ro := ro) own' nid 0 w.heap.size e1
    rwa [e3] at this
theorem cellEq_rel {v : SV} {c : Value} (h : (match v, c with
      | .int k n, .int k' n' => k == k' && n == n'
      | .ff, .bool b => !b
      | .str [], .string s => s.size == 0
      | .nils, .slice none 0 0 => true
      | _, _ => false) = true) : Rel ro own v c := by
  split at h
  · simp at h; obtain ⟨rfl, rfl⟩ := h; constructor
  · simp at h; subst h; constructor
  · rename_i s0
    simp at h
    have : s0 = ⟨([] : List UInt8).toArray⟩ := h
    rw [this]; exact .str _ _
  · constructor
  · cases h
theorem spellsL_rel : ∀ {vs : List SV} {cs : List Value}, spells.spellsL vs cs = true → vs.length = cs.length ∧ ∀ (j : Nat) (sv : SV), vs[j]? = some sv → Rel ro own sv (cs.getD j undef)
  | [], [], _ => ⟨rfl, by simp⟩
  | v :: r, c :: cs, h => by
    simp only [spells.spellsL, Bool.and_eq_true] at h
    obtain ⟨h1, h2⟩ := spellsL_rel h.2
    refine ⟨by simp [h1], fun j sv hj => ?_⟩
    cases j with
    | zero => simp at hj; subst hj; simpa using cellEq_rel h.1
    | succ j => simp at hj; simpa using h2 j sv hj
  | [], _ :: _, h => by simp [spells.spellsL] at h
  | _ :: _, [], h => by simp [spells.spellsL] at h
theorem spells_rel : ∀ {l : List Seg} {cs : List Value}, spells l cs = true → cs.length = segsSize l ∧ ∀ (k : Nat) (sv : SV), flat l k = some sv → Rel ro own sv (cs.getD k undef)
  | [], [], _ => ⟨rfl, by simp [flat]⟩
  | [], _ :: _, h => by simp [spells] at h
  | .s v :: r, [], h => by simp [spells] at h
  | .s v :: r, c :: cs, h => by
    simp only [spells, Bool.and_eq_true] at h
    obtain ⟨h1, h2⟩ := spells_rel h.2
    refine ⟨by simp [segsSize, Seg.size, h1]; omega, fun k sv hk => ?_⟩
    cases k with
    | zero => rw [flat_s0] at hk; simp at hk; subst hk; simpa using cellEq_rel h.1
    | succ k => rw [flat_ss] at hk; simpa using h2 k sv hk
  | .a n es f :: r, cs, h => by
    simp only [spells, Bool.and_eq_true, decide_eq_true_eq, List.all_eq_true, List.mem_range] at h
    obtain ⟨⟨h0, hall⟩, hrest⟩ := h
    obtain ⟨h1, h2⟩ := spells_rel hrest
    have hlen : cs.length = n * es + segsSize r := by rw [List.length_drop] at h1; omega
    refine ⟨by simp [segsSize, Seg.size, hlen], fun k sv hk => ?_⟩
    by_cases hlt : k < n * es
    · rw [flat_al hlt] at hk
      have hes : 0 < es := by
        rcases Nat.eq_zero_or_pos es with h0 | h0
        · subst h0; simp at hlt
        · exact h0
      have hi : k / es < n := by rw [Nat.div_lt_iff_lt_mul hes]; exact hlt
      obtain ⟨e1, e2⟩ := spellsL_rel (ro := ro) (own := own) (hall (k / es) hi)
      have := e2 (k % es) sv hk
      have hmod : k % es < es := Nat.mod_lt _ hes
      have hk' : k / es * es + k % es = k := by rw [Nat.mul_comm]; exact Nat.div_add_mod k es
      have e3 : ((cs.drop (k / es * es)).take es).getD (k % es) undef = cs.getD k undef := by
        simp only [List.getD_eq_getElem?_getD, List.getElem?_take, hmod, if_true, List.getElem?_drop, hk']
      rwa [e3] at this
    · rw [flat_ag hlt] at hk
      have := h2 (k - n * es) sv hk
      have e3 : (cs.drop (n * es)).getD (k - n * es) undef = cs.getD k undef := by
        simp only [List.getD_eq_getElem?_getD, List.getElem?_drop]
        rw [show n * es + (k - n * es) = k from by omega]
      rwa [e3] at this
theorem zeroOf_rel {T : TypeId} {l : List Seg} {z : Value} (h : zeroOf P T = some (l, z)) : (∀ w : World, (zeroValue T).run P w = .ok z w) ∧ z.cells.size = segsSize l ∧ ∀ (k : Nat) (sv : SV), flat l k = some sv → Rel ro own sv (z.cells.getD k undef) := by
  unfold zeroOf at h
  split at h
  case h_2 => cases h
  rename_i l0 z0 _ hz
  split at h
  case isFalse => cases h
  rename_i hs
  simp at h
  obtain ⟨rfl, rfl⟩ := h
  obtain ⟨h1, h2⟩ := spells_rel (ro := ro) (own := own) hs
  simp only [Option.bind_eq_some_iff] at hz
  obtain ⟨i, hi, hz⟩ := hz
  refine ⟨fun w => by simp [zeroValue, run_info hi, hz], by simpa using h1, fun k sv hk => ?_⟩
  have := h2 k sv hk
  simpa [Array.getD_eq_getD_getElem?, List.getD_eq_getElem?_getD] using this
theorem snd_alloc (h : SimG E ro own s w a) {o : Oper} {nid : Nat} {T : TypeId} (ho : o.op = .alloc T) {ws} (hk : (txAlloc P E.N nid o.dst T).ok s ws) : Snd E P o s w a ws := by
  unfold txAlloc at hk
  split at hk
  case h_2 => exact hk.elim
  rename_i l z hz
  obtain ⟨hr, hs, hh⟩ := zeroOf_rel (ro := ro) (own := own) hz
  refine snd_new h (cap := 0) (v := .pointer (some ⟨w.heap.size, 0, none⟩)) (w' := w.alloc (.cells z.cells T)) (lo := 0) (hi := 0) rfl rfl rfl rfl ?_ (by simp) (fun _ => hs) (by rw [hs]; exact Nat.le_refl _) (.inl (Nat.le_refl _)) (by simp) hh ?_ hk
  · unfold execOp
    simp [ho, Instr.alloc, hr, newVar, newRow]
  · intro own' e1 _ e3 _
    have := Rel.ptr (ro := ro) own' nid 0 w.heap.size e1
    rwa [e3] at this
end
end Go.Sx
