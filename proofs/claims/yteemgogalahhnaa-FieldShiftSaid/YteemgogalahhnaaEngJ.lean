/-
  The operations' soundness, seventh part: binary operators; aggregates and rows that are made.
-/
import Derived.Test.YteemgogalahhnaaEngI
namespace Go.Sx
set_option linter.unusedVariables false
set_option linter.unusedSimpArgs false
open Go Go.RowKit

section
variable {E : Env} {P : Program} {ro : RO} {own : Own} {s : St} {w : World} {a : Act}
theorem kind_bool {x : SV} (h : kindOf x = some .bool) : ∃ b, toB x = some b := by
  cases x <;> simp [kindOf] at h <;> exact ⟨_, rfl⟩
theorem eqCell_bool {x y : SV} {p q : Bool} (hx : toB x = some p) (hy : toB y = some q) : eqCell x y = (p == q) := by
  cases x <;> simp [toB] at hx <;> cases y <;> simp [toB] at hy <;> subst hx <;> subst hy <;> rfl
theorem eqCell_spec {x y : SV} {k : CK} {v u : Value} (hx : Rel ro own x v) (hy : Rel ro own y u) (kx : kindOf x = some k) (ky : kindOf y = some k) : KV k v ∧ KV k u ∧ vEq v u = eqCell x y := by
  cases k with
  | bool =>
    obtain ⟨p, hp⟩ := kind_bool kx
    obtain ⟨q, hq⟩ := kind_bool ky
    rw [rel_toB hx hp, rel_toB hy hq, eqCell_bool hp hq]
    exact ⟨trivial, trivial, rfl⟩
  | int k =>
    cases x <;> simp [kindOf] at kx
    cases y <;> simp [kindOf] at ky
    subst kx; subst ky
    rw [inv_int hx, inv_int hy]
    exact ⟨rfl, rfl, rfl⟩
  | str =>
    cases x <;> simp [kindOf] at kx
    cases y <;> simp [kindOf] at ky
    rename_i s1 s2
    rw [inv_str hx, inv_str hy]
    refine ⟨trivial, trivial, ?_⟩
    show ((⟨s1⟩ : Array UInt8) == ⟨s2⟩) = (s1 == s2)
    simp
theorem kindsL_spec : ∀ {vs : List SV} {ks : List CK}, kindsL vs ks = true → vs.length = ks.length ∧ ∀ (j : Nat) (c : CK), ks[j]? = some c → ∃ v, vs[j]? = some v ∧ kindOf v = some c
  | [], [], _ => ⟨rfl, by simp⟩
  | v :: r, k :: ks, h => by
    simp only [kindsL, Bool.and_eq_true, beq_iff_eq] at h
    obtain ⟨h1, h2⟩ := kindsL_spec h.2
    refine ⟨by simp [h1], fun j c hj => ?_⟩
    cases j with
    | zero => simp at hj; subst hj; exact ⟨v, rfl, h.1⟩
    | succ j => simp at hj; simpa using h2 j c hj
  | [], _ :: _, h => by simp [kindsL] at h
  | _ :: _, [], h => by simp [kindsL] at h
theorem eqCells_spec : ∀ {xs ys : List SV}, xs.length = ys.length → (eqCells xs ys = true ↔ ∀ (j : Nat) (x y : SV), xs[j]? = some x → ys[j]? = some y → eqCell x y = true)
  | [], [], _ => by simp [eqCells]
  | x :: r, y :: r', h => by
    simp only [eqCells, Bool.and_eq_true, eqCells_spec (xs := r) (ys := r') (by simpa using h)]
    constructor
    · rintro ⟨h1, h2⟩ j a b ha hb
      cases j with
      | zero => simp at ha hb; subst ha; subst hb; exact h1
      | succ j => simp at ha hb; exact h2 j a b ha hb
    · intro h
      exact ⟨h 0 x y rfl rfl, fun j a b ha hb => h (j + 1) a b (by simpa using ha) (by simpa using hb)⟩
  | [], _ :: _, h => by simp at h
  | _ :: _, [], h => by simp at h
theorem fitsK_arr {n es : Nat} {f : Nat → List SV} {r : List Seg} {ks : List CK} (h : fitsK (.a n es f :: r) ks) : (∀ i, i < n → kindsL (f i) ((ks.drop (i * es)).take es) = true) ∧ n * es ≤ ks.length ∧ fitsK r (ks.drop (n * es)) := by
  simp only [fitsK, andB_iff, Bool.and_eq_true, uniK, List.all_eq_true, List.mem_range, decide_eq_true_eq, Nat.ble_eq] at h
  obtain ⟨⟨h1, h2⟩, h3, h4⟩ := h
  exact ⟨fun i hi => by rw [h1 i hi]; exact h3 i hi, h2, h4⟩
theorem fitsK_spec : ∀ {l : List Seg} {ks : List CK}, fitsK l ks → segsSize l = ks.length ∧ ∀ (k : Nat) (c : CK), ks[k]? = some c → ∃ v, flat l k = some v ∧ kindOf v = some c
  | [], ks, h => by
    simp only [fitsK, andB_iff, List.isEmpty_iff] at h
    obtain ⟨rfl, _⟩ := h
    exact ⟨rfl, by simp⟩
  | .s v :: r, k :: ks, h => by
    simp only [fitsK, andB_iff, beq_iff_eq] at h
    obtain ⟨h1, h2⟩ := fitsK_spec h.2
    refine ⟨by simp [segsSize, Seg.size, h1]; omega, fun j c hj => ?_⟩
    cases j with
    | zero => simp at hj; subst hj; exact ⟨v, flat_s0 _ _, h.1⟩
    | succ j => simp at hj; rw [flat_ss]; exact h2 j c hj
  | .s v :: r, [], h => by simp [fitsK] at h
  | .a n es f :: r, ks, h => by
    obtain ⟨h0, hle, hr⟩ := fitsK_arr h
    obtain ⟨h1, h2⟩ := fitsK_spec hr
    rw [List.length_drop] at h1
    refine ⟨by simp [segsSize, Seg.size, h1]; omega, fun j c hj => ?_⟩
    by_cases hlt : j < n * es
    · have hes : 0 < es := by
        rcases Nat.eq_zero_or_pos es with h0 | h0
        · subst h0; simp at hlt
        · exact h0
      have hi : j / es < n := by rw [Nat.div_lt_iff_lt_mul hes]; exact hlt
      obtain ⟨k1, k2⟩ := kindsL_spec (h0 (j / es) hi)
      have hdm : j / es * es + j % es = j := by rw [Nat.mul_comm]; exact Nat.div_add_mod j es
      rw [flat_al hlt]
      exact k2 (j % es) c (by rw [List.getElem?_take, if_pos (Nat.mod_lt _ hes), List.getElem?_drop, hdm]; exact hj)
    · rw [flat_ag hlt]
      exact h2 (j - n * es) c (by rw [List.getElem?_drop, show n * es + (j - n * es) = j from by omega]; exact hj)
theorem eqSegs_spec : ∀ {l l' : List Seg} {ks : List CK}, sameShapes l l' = true → fitsK l ks → fitsK l' ks → (eqSegs l l' = true ↔ ∀ (k : Nat) (x y : SV), flat l k = some x → flat l' k = some y → eqCell x y = true)
  | [], [], _, _, _, _ => by simp [eqSegs, flat]
  | .s v :: r, .s u :: r', k :: ks, hs, h, h' => by
    simp only [sameShapes, Bool.true_and] at hs
    simp only [fitsK, andB_iff] at h h'
    simp only [eqSegs, Bool.and_eq_true, eqSegs_spec hs h.2 h'.2]
    constructor
    · rintro ⟨h1, h2⟩ j x y hx hy
      cases j with
      | zero => rw [flat_s0] at hx hy; simp at hx hy; subst hx; subst hy; exact h1
      | succ j => rw [flat_ss] at hx hy; exact h2 j x y hx hy
    · intro hh
      exact ⟨hh 0 v u (flat_s0 _ _) (flat_s0 _ _), fun j x y hx hy => hh (j + 1) x y (by rw [flat_ss]; exact hx) (by rw [flat_ss]; exact hy)⟩
  | .s v :: r, .s u :: r', [], _, h, _ => by simp [fitsK] at h
  | .a n es f :: r, .a n' es' g :: r', ks, hs, h, h' => by
    simp only [sameShapes, Bool.and_eq_true, beq_iff_eq] at hs
    obtain ⟨⟨rfl, rfl⟩, hs⟩ := hs
    have h := fitsK_arr h
    have h' := fitsK_arr h'
    simp only [eqSegs, Bool.and_eq_true, eqSegs_spec hs h.2.2 h'.2.2, List.all_eq_true, List.mem_range]
    have hl : ∀ i, i < n → (f i).length = (g i).length := fun i hi => by rw [(kindsL_spec (h.1 i hi)).1, (kindsL_spec (h'.1 i hi)).1]
    have hle : ∀ i, i < n → (f i).length = es := fun i hi => by
      rw [(kindsL_spec (h.1 i hi)).1, List.length_take, List.length_drop]
      have : (i + 1) * es ≤ n * es := Nat.mul_le_mul_right _ hi
      rw [Nat.add_mul] at this
      have := h.2.1
      omega
    constructor
    · rintro ⟨h1, h2⟩ j x y hx hy
      by_cases hlt : j < n * es
      · have hes : 0 < es := by
          rcases Nat.eq_zero_or_pos es with h0 | h0
          · subst h0; simp at hlt
          · exact h0
        have hi : j / es < n := by rw [Nat.div_lt_iff_lt_mul hes]; exact hlt
        rw [flat_al hlt] at hx hy
        exact (eqCells_spec (hl _ hi)).1 (h1 _ hi) _ x y hx hy
      · rw [flat_ag hlt] at hx hy
        exact h2 _ x y hx hy
    · intro hh
      refine ⟨fun i hi => (eqCells_spec (hl i hi)).2 fun j x y hx hy => ?_, fun j x y hx hy => ?_⟩
      · have hj : j < es := by rw [← hle i hi]; exact (List.getElem?_eq_some_iff.1 hx).1
        have hin : i * es + j < n * es := by
          have : (i + 1) * es ≤ n * es := Nat.mul_le_mul_right _ hi
          rw [Nat.add_mul] at this; omega
        have e1 := seg_a_at (f := f) hi hj
        have e2 := seg_a_at (f := g) hi hj
        simp only [Seg.at, hin, if_true] at e1 e2
        exact hh (i * es + j) x y (by rw [flat_al hin, e1]; exact hx) (by rw [flat_al hin, e2]; exact hy)
      · exact hh (n * es + j) x y (by rw [flat_ag (by omega), show n * es + j - n * es = j from by omega]; exact hx) (by rw [flat_ag (by omega), show n * es + j - n * es = j from by omega]; exact hy)
  | .s _ :: _, .a _ _ _ :: _, _, hs, _, _ => by simp [sameShapes] at hs
  | .a _ _ _ :: _, .s _ :: _, _, hs, _, _ => by simp [sameShapes] at hs
  | [], _ :: _, _, hs, _, _ => by simp [sameShapes] at hs
  | _ :: _, [], _, hs, _, _ => by simp [sameShapes] at hs
/-- Two aggregates compared. -/
theorem run_eq_agg {T : TypeId} {l l' : List Seg} {ks : List CK} {v u : Value} (hk : cmpKinds P 8 T = some ks) (hagg : isAggT P T = some true) (hs : sameShapes l l' = true) (h1 : fitsK l ks) (h2 : fitsK l' ks) (hv : Rel ro own (.agg l) v) (hu : Rel ro own (.agg l') u) :
    ∃ xs ys : Array Value, v = .agg xs ∧ u = .agg ys ∧ (Op.equalIn 10000 T (.agg xs) (.agg ys)).run P w = .ok (eqSegs l l') w := by
  obtain ⟨xs, rfl, hxs, hx⟩ := inv_agg hv
  obtain ⟨ys, rfl, hys, hy⟩ := inv_agg hu
  refine ⟨xs, ys, rfl, rfl, ?_⟩
  obtain ⟨f1, f2⟩ := fitsK_spec h1
  obtain ⟨g1, g2⟩ := fitsK_spec h2
  have cell : ∀ (k : Nat) (c : CK), ks[k]? = some c → KV c (xs.getD k undef) ∧ KV c (ys.getD k undef) ∧ ∃ x y, flat l k = some x ∧ flat l' k = some y ∧ vEq (xs.getD k undef) (ys.getD k undef) = eqCell x y := by
    intro k c hc
    obtain ⟨x, hxk, kx⟩ := f2 k c hc
    obtain ⟨y, hyk, ky⟩ := g2 k c hc
    obtain ⟨e1, e2, e3⟩ := eqCell_spec (hx k x hxk) (hy k y hyk) kx ky
    exact ⟨e1, e2, x, y, hxk, hyk, e3⟩
  have hall : allEq xs ys 0 ks.length = eqSegs l l' := by
    rw [Bool.eq_iff_iff, eqSegs_spec hs h1 h2]
    simp only [allEq, List.all_eq_true, List.mem_range, Nat.zero_add]
    constructor
    · intro h k x y hxk hyk
      have hlt : k < ks.length := by rw [← f1]; exact flat_lt hxk
      obtain ⟨_, _, x', y', hx', hy', e⟩ := cell k _ (List.getElem?_eq_getElem hlt)
      rw [hxk] at hx'; rw [hyk] at hy'
      simp only [Option.some.injEq] at hx' hy'
      subst hx'; subst hy'
      rw [← e]; exact h k hlt
    · intro h k hlt
      obtain ⟨_, _, x', y', hx', hy', e⟩ := cell k _ (List.getElem?_eq_getElem hlt)
      rw [e]; exact h k x' y' hx' hy'
  have t1 : Typed xs 0 ks := ⟨by omega, fun k c hc => by rw [Nat.zero_add]; exact (cell k c hc).1⟩
  have t2 : Typed ys 0 ks := ⟨by omega, fun k c hc => by rw [Nat.zero_add]; exact (cell k c hc).2.1⟩
  have hrun := run_equalIn (P := P) w 8 T ks ks.length true hk hagg rfl 10000 (by omega) xs ys 0 t1 t2
  rw [hall] at hrun
  simp only [if_true, Nat.zero_add] at hrun
  rw [show xs.extract 0 ks.length = xs from by rw [← f1, ← hxs]; simp, show ys.extract 0 ks.length = ys from by rw [← g1, ← hys]; simp] at hrun
  exact hrun
theorem run_eqGuard_one {op : BinOp} {T : TypeId} {x y : Operand} {v u : Value} (hv : v.oneCell' = true) (hn : v ≠ .nilIface) : (eqGuard op T x y v u).run P w = .ok () w := by
  cases v <;> first
    | exact absurd rfl hn
    | (cases op <;> rfl)
    | cases hv
theorem snd_bin (h : SimG E ro own s w a) {o : Oper} {op : BinOp} {T U : TypeId} {x y : Operand} (ho : o.op = .binOp op T x y U) {ws} (hk : (rdO x fun x => rdO y fun y => txBin P E.N o.dst op T x y).ok s ws) : Snd E P o s w a ws := by
  obtain ⟨x', hx, hk1⟩ := rdO_ok h hk
  clear hk
  obtain ⟨y', hy, hk⟩ := rdO_ok h hk1
  clear hk1
  have go : ∀ {z : SV} {v : Value}, (eqGuard op T x y (a.eval x) (a.eval y)).run P w = .ok () w → (binOp op T (a.eval x) (a.eval y)).run P w = .ok v w → Rel ro own z v → (setT E.N o.dst z).ok s ws → Snd E P o s w a ws := by
    intro z v hg hrun hr hk
    refine snd_val h (v := v) ?_ hr hk
    unfold execOp
    simp [ho, hg, hrun]
  unfold txBin at hk
  split at hk
  · rename_i k a1 k' b1
    have hxv := inv_int hx
    have hyv := inv_int hy
    rw [hxv, hyv] at go
    have hg : ∀ {op : BinOp}, (eqGuard op T x y (.int k a1) (.int k' b1)).run P w = .ok () w := run_eqGuard_one rfl (by simp)
    split at hk
    · obtain ⟨hb, hk⟩ := hk
      exact go hg (by simp [binOp, shift_shl_any _ _ _ _ hb]) (.int _ _ _) hk
    · obtain ⟨hb, hk⟩ := hk
      exact go hg (by simp [binOp, shift_shr_any _ _ _ _ hb]) (.int _ _ _) hk
    · split at hk
      case isFalse => exact hk.elim
      rename_i e; subst e
      obtain ⟨hb, hk⟩ := hk
      exact go hg (by simp [binOp, Op.intDiv, hb]) (.int _ _ _) hk
    · split at hk
      case isFalse => exact hk.elim
      rename_i e; subst e
      obtain ⟨hb, hk⟩ := hk
      exact go hg (by simp [binOp, Op.intDiv, hb]) (.int _ _ _) hk
    · rename_i n1 n2 n3 n4
      split at hk
      case isFalse => exact hk.elim
      rename_i e; subst e
      split at hk
      case h_2 => exact hk.elim
      rename_i k2 v hu hv
      have : ∃ u, (binOp op T (.int k a1) (.int k b1)).run P w = .ok u w ∧ Rel ro own v u := by
        cases op <;> simp [intOp] at hv <;> subst hv
        case add => exact ⟨_, by simp [binOp, Op.intArith], .int _ _ _⟩
        case sub => exact ⟨_, by simp [binOp, Op.intArith], .int _ _ _⟩
        case mul => exact ⟨_, by simp [binOp, Op.intArith], .int _ _ _⟩
        case and => exact ⟨_, by rw [binOp_and]; rfl, .int _ _ _⟩
        case or => exact ⟨_, by rw [binOp_or]; rfl, .int _ _ _⟩
        case xor => exact ⟨_, by rw [binOp_xor]; rfl, .int _ _ _⟩
        case andNot => exact ⟨_, by rw [binOp_andNot]; rfl, .int _ _ _⟩
        all_goals exact ⟨_, by simp [binOp, Op.intCmp], .bool _ _⟩
      obtain ⟨u, hrun, hr⟩ := this
      exact go hg hrun hr hk
  · rename_i l1 l2
    have hxv := inv_str hx
    have hyv := inv_str hy
    rw [hxv, hyv] at go
    have hg : ∀ {op : BinOp}, (eqGuard op T x y (.string ⟨l1.toArray⟩) (.string ⟨l2.toArray⟩)).run P w = .ok () w := run_eqGuard_one rfl (by simp)
    have e1 : (⟨l1.toArray⟩ : ByteArray).toList = l1 := by rw [ByteArray.toList_eq]
    have e2 : (⟨l2.toArray⟩ : ByteArray).toList = l2 := by rw [ByteArray.toList_eq]
    have s1 : (⟨l1.toArray⟩ : ByteArray).size = l1.length := rfl
    have s2 : (⟨l2.toArray⟩ : ByteArray).size = l2.length := rfl
    split at hk
    · obtain ⟨hb, hk⟩ := hk
      have hno : ¬ (((l1.length + l2.length : Nat) : Int) > IntKind.i64.max) := by
        have : IntKind.i64.max = 9223372036854775807 := by decide
        rw [this]; omega
      have hap : (⟨l1.toArray⟩ : ByteArray) ++ ⟨l2.toArray⟩ = ⟨(l1 ++ l2).toArray⟩ := by
        apply ByteArray.ext
        rw [ByteArray.data_append]; simp
      exact go hg (v := .string ⟨(l1 ++ l2).toArray⟩) (by simp only [binOp, Op.stringOp, s1, s2, hno, if_false, Sem.run_pure, hap]) (.str _ _) hk
    · exact go hg (v := .bool (l1 == l2)) (by simp only [binOp, Op.stringOp, e1, e2, Sem.run_pure]) (.bool _ _) hk
    · exact go hg (v := .bool (!(l1 == l2))) (by simp only [binOp, Op.stringOp, e1, e2, Sem.run_pure]) (.bool _ _) hk
    · exact hk.elim
  · rename_i l l'
    split at hk
    case h_2 => exact hk.elim
    rename_i ks hks
    split at hk
    case isFalse => exact hk.elim
    rename_i hc
    obtain ⟨hc1, hc2, hc3⟩ := hc
    obtain ⟨⟨f1, f2⟩, hk⟩ := hk
    obtain ⟨xs, ys, e1, e2, hrun⟩ := run_eq_agg (w := w) hks hc3 hc2 f1 f2 hx hy
    rw [e1, e2] at go
    have hg : (eqGuard op T x y (.agg xs) (.agg ys)).run P w = .ok () w := run_eqGuard_agg w op T x y xs ys hc1
    split at hk
    · exact go hg (v := .bool (eqSegs l l')) (by rw [run_eql_struct, hrun]; rfl) (.bool _ _) hk
    · exact go hg (v := .bool (!eqSegs l l')) (by rw [run_neq_struct, hrun]; rfl) (.bool _ _) hk
    · exact hk.elim
  · split at hk
    case h_2 => exact hk.elim
    rename_i p q hp hq hu
    have hxv := rel_toB hx hp
    have hyv := rel_toB hy hq
    rw [hxv, hyv] at go
    have hg : ∀ {op : BinOp}, (eqGuard op T x y (.bool p) (.bool q)).run P w = .ok () w := run_eqGuard_one rfl (by simp)
    split at hk
    · exact go hg (v := .bool (p == q)) (by simp [binOp, run_equal_bool w T p q hu]) (.bool _ _) hk
    · exact go hg (v := .bool (!(p == q))) (by simp [binOp, run_equal_bool w T p q hu]) (.bool _ _) hk
    · exact hk.elim
end
end Go.Sx
